/-
  Walks of package unipoly: values of small polynomials at small fractions.
-/
import Derived.Test.YtppegjbdencefaaUni7
namespace Go.Proofs.Ytppegjbdencefaa
open Go.RowKit Go.Gx
set_option maxHeartbeats 2000000 in
theorem unipoly_scaled_small {w : World} {Sf : Nat → Prop} {Af : Option Addr} {nf cf Mf : Nat} {lf : List RI} {ga : Bool} {Sa : Nat → Prop} {Aa : Option Addr} {na ca : Nat} {da : List Nat} {Sav : Nat → Prop} {Aav : Option Addr} {nav cav : Nat} {dav : List Nat} (hf : PolyR w Sf Af nf cf lf Mf) (ha : NatR w Sa Aa na ca da) (hav : NatR w Sav Aav nav cav dav) (hnf : nf ≤ 8) (hMf : Mf ≤ 4) (hna : na ≤ 3) (hnav : nav ≤ 3) : Calls Try.prog 86 #[(.slice Af nf cf), (.agg #[(.bool ga), (.slice Aa na ca), (.slice Aav nav cav)])] w (Ret fun v w' => ∃ (gv : Bool) (Av : Option Addr) (nv : Nat) (cv : Nat) (dv : List Nat) (gp : Bool) (Ap : Option Addr) (np : Nat) (cp : Nat) (dp : List Nat), v = (.tuple #[(.agg #[(.bool gv), (.slice Av nv cv)]), (.agg #[(.bool gp), (.slice Ap np cp)])]) ∧ Ext w w' ∧ NatR w' (fun b => w.heap.size ≤ b) Av nv cv dv ∧ NatR w' (fun b => w.heap.size ≤ b) Ap np cp dp ∧ (((zval gv dv : Int) : Rat) = evQ (zs lf) (rv (zval ga da) (val dav)) * ((zval gp dp : Int) : Rat)) ∧ (0 < zval gp dp) ∧ (nv ≤ 120) ∧ (np ≤ 66)) := by
  have kf := hf.len; have jf := hf.cap; have mf := hf.max
  replace hf := hf.low
  have la := ha.len; have ka := ha.cap; have ma := ha.max
  replace ha := ha.low
  have lav := hav.len; have kav := hav.cap; have mav := hav.max
  replace hav := hav.low
  refine enter Try.func86 rfl Try.ntmps86 rfl ?_
  refine wp_seq_k fun K1 hK1 => ?_
  refine wp_region_lit ?_
  refine sOp rfl (oBox [(.bool ga), (.slice Aa na ca), (.slice Aav nav cav)] rfl rfl ?_)
  intro g2 w3 hg4 hE5 hz6 hB7
  refine sOp rfl (oAlloc [(.bool false), (.slice none 0 0)] zero46 rfl ?_)
  intro g8 w9 hg10 hE11 hz12 hB13
  refine sOp rfl (oAlloc [(.bool false), (.slice none 0 0)] zero46 rfl ?_)
  intro g14 w15 hg16 hE17 hz18 hB19
  refine sDone ?_
  refine xN (hK1 _ _ ?_)
  refine wp_seq_k fun K20 hK20 => ?_
  refine wp_region_lit ?_
  refine sEv (v := (.slice Af nf cf)) (rfl) rfl rfl ?_
  have h21 := (hf.ext ((hE5.trans hE11).trans hE17))
  refine sOp rfl (oCall rfl call68 (unipoly_trim h21) rfl ?_)
  rintro _ w23 ⟨Ar_22, nr_22, cr_22, lr_22, rfl, hE24, hr_22, e_22, le_22⟩
  have hz25 := hE24.size
  have kr_22 := hr_22.len; have jr_22 := hr_22.cap; have mr_22 := hr_22.max
  refine sEv (v := (.slice Ar_22 nr_22 cr_22)) (rfl) rfl rfl ?_
  refine sDone ?_
  refine xN (hK20 _ _ ?_)
  refine wp_seq_k fun K27 hK27 => ?_
  refine wp_region_lit ?_
  have hB28 := (hB7.ext ((hE11.trans hE17).trans hE24))
  refine sEv (v := (.agg #[(.bool ga), (.slice Aa na ca), (.slice Aav nav cav)])) (evLoadAB [(.bool ga), (.slice Aa na ca), (.slice Aav nav cav)] agg64 sz64 rfl hB28 rfl) rfl rfl ?_
  have h29 := (ha.ext (((hE5.trans hE11).trans hE17).trans hE24))
  have h30 := (hav.ext (((hE5.trans hE11).trans hE17).trans hE24))
  refine sOp rfl (oCall rfl call107 (rational_Normal h29 h30 (by omega) (by omega)) rfl ?_)
  rintro _ w32 ⟨gr_31, Ar_31, nr_31, cr_31, dr_31, Arv_31, nrv_31, crv_31, drv_31, rfl, hE33, hr_31, hrv_31, x_31, p_31, cn_31, cv_31, co_31, bn_31, bd_31⟩
  have hz34 := hE33.size
  have lr_31 := hr_31.len; have kr_31 := hr_31.cap; have mr_31 := hr_31.max
  have lrv_31 := hrv_31.len; have krv_31 := hrv_31.cap; have mrv_31 := hrv_31.max
  have hB37 := (hB28.ext hE33)
  refine sOp rfl (oStore [(.bool gr_31), (.slice Ar_31 nr_31 cr_31), (.slice Arv_31 nrv_31 crv_31)] rfl rfl rfl sz64 rfl hB37 (Nat.le_of_ble_eq_true rfl) ?_)
  intro w38 hU39 hz40 hB41
  replace hB41 : Blk w38 g2 64 [(.bool gr_31), (.slice Ar_31 nr_31 cr_31), (.slice Arv_31 nrv_31 crv_31)] := hB41
  refine sDone ?_
  refine xN (hK27 _ _ ?_)
  refine wp_seq_k fun K42 hK42 => ?_
  refine wp_region_lit ?_
  refine sEv (v := (.pointer (some ⟨g2, 2, none⟩))) (evFA 2 fa64_1 rfl rfl) rfl rfl ?_
  refine sEv (v := (.slice Arv_31 nrv_31 crv_31)) (evLoadB one44 rfl hB41 rfl) rfl rfl ?_
  refine sEv (v := (.agg #[(.bool false), (.slice Arv_31 nrv_31 crv_31)])) (evK (by kernel_rfl)) rfl rfl ?_
  refine sOp rfl (oAlloc [(.bool false), (.slice none 0 0)] zero46 rfl ?_)
  intro g43 w44 hg45 hE46 hz47 hB48
  refine sOp rfl (oStore [(.bool false), (.slice Arv_31 nrv_31 crv_31)] rfl rfl rfl sz46 rfl hB48 (Nat.le_of_ble_eq_true rfl) ?_)
  intro w49 hU50 hz51 hB52
  replace hB52 : Blk w49 g43 46 [(.bool false), (.slice Arv_31 nrv_31 crv_31)] := hB52
  refine sDone ?_
  refine xN (hK42 _ _ ?_)
  refine wp_seq_k fun K53 hK53 => ?_
  refine wp_region_lit ?_
  refine sOp rfl (oCall rfl call48 (integer_Of (by omega)) rfl ?_)
  rintro _ w55 ⟨gr_54, Ar_54, nr_54, cr_54, dr_54, rfl, hE56, hr_54, v_54, cn_54, le_54⟩
  have hz57 := hE56.size
  have lr_54 := hr_54.len; have kr_54 := hr_54.cap; have mr_54 := hr_54.max
  have hB59 := (hB19.frm ((((((Frm.of_ext (G := fun b => (b = g2) ∨ (b = g43)) hE24).trans (Frm.of_ext (G := fun b => (b = g2) ∨ (b = g43)) hE33)).trans (hU39.mono (G' := fun b => (b = g2) ∨ (b = g43)) fun _ _ h => .inl h)).trans (Frm.of_ext (G := fun b => (b = g2) ∨ (b = g43)) hE46)).trans (hU50.mono (G' := fun b => (b = g2) ∨ (b = g43)) fun _ _ h => .inr h)).trans (Frm.of_ext (G := fun b => (b = g2) ∨ (b = g43)) hE56)) q1)
  refine sOp rfl (oStore [(.bool gr_54), (.slice Ar_54 nr_54 cr_54)] rfl rfl rfl sz46 rfl hB59 (Nat.le_of_ble_eq_true rfl) ?_)
  intro w60 hU61 hz62 hB63
  replace hB63 : Blk w60 g14 46 [(.bool gr_54), (.slice Ar_54 nr_54 cr_54)] := hB63
  refine sDone ?_
  refine xN (hK53 _ _ ?_)
  refine wp_seq_k fun K64 hK64 => ?_
  refine wp_seq_k fun K65 hK65 => ?_
  refine wp_region_lit ?_
  refine sEv (v := (.slice Ar_22 nr_22 cr_22)) (rfl) rfl rfl ?_
  refine sEv (v := (.int .i64 ((nr_22 : Int)))) (evLen Try.underlying23 rfl) rfl rfl ?_
  refine sEv (v := (.int .i64 (((nr_22 : Int)) - 1))) (evSub (((nr_22 : Int)) - 1) rfl rfl (wI64 (by omega))) rfl rfl ?_
  refine sEv (v := (.int .i64 (((nr_22 : Int)) - 1))) (rfl) rfl rfl ?_
  refine sDone ?_
  refine xN (hK65 _ _ ?_)
  refine wp_block ?_
  have hB67 := (hB13.frm ((((((((Frm.of_ext (G := fun b => (b = g2) ∨ (b = g43) ∨ (b = g14)) hE17).trans (Frm.of_ext (G := fun b => (b = g2) ∨ (b = g43) ∨ (b = g14)) hE24)).trans (Frm.of_ext (G := fun b => (b = g2) ∨ (b = g43) ∨ (b = g14)) hE33)).trans (hU39.mono (G' := fun b => (b = g2) ∨ (b = g43) ∨ (b = g14)) fun _ _ h => .inl h)).trans (Frm.of_ext (G := fun b => (b = g2) ∨ (b = g43) ∨ (b = g14)) hE46)).trans (hU50.mono (G' := fun b => (b = g2) ∨ (b = g43) ∨ (b = g14)) fun _ _ h => .inr (.inl h))).trans (Frm.of_ext (G := fun b => (b = g2) ∨ (b = g43) ∨ (b = g14)) hE56)).trans (hU61.mono (G' := fun b => (b = g2) ∨ (b = g43) ∨ (b = g14)) fun _ _ h => .inr (.inr h))) q1)
  have h68 := (hr_54.frmB hU61 q3)
  refine lLoop (fun m e w_ => ∃ (k : Nat) (gv_ : Bool) (Av : Option Addr) (nv_ : Nat) (cv_ : Nat) (dv_ : List Nat) (gp_ : Bool) (Ap : Option Addr) (np_ : Nat) (cp_ : Nat) (dp_ : List Nat), m = k ∧ e 0 = (.slice Ar_22 nr_22 cr_22) ∧ e 3 = (.pointer (some ⟨g2, 0, none⟩)) ∧ e 4 = (.pointer (some ⟨g8, 0, none⟩)) ∧ e 5 = (.pointer (some ⟨g14, 0, none⟩)) ∧ e 6 = (.pointer (some ⟨g43, 0, none⟩)) ∧ e 7 = (.int .i64 ((k : Int) - 1)) ∧ Frm (fun b => b = g8 ∨ b = g14) w60 w_ ∧ Blk w_ g8 46 ([.bool gv_, .slice Av nv_ cv_]) ∧ Blk w_ g14 46 ([.bool gp_, .slice Ap np_ cp_]) ∧ (k ≤ nr_22) ∧ (nv_ ≤ 80 + 5 * (nr_22 - k)) ∧ (np_ ≤ 2 + 8 * (nr_22 - k)) ∧ (NatR w_ (fun b => w.heap.size ≤ b ∧ b ≠ g8 ∧ b ≠ g14) Av nv_ cv_ dv_) ∧ (NatR w_ (fun b => w.heap.size ≤ b ∧ b ≠ g8 ∧ b ≠ g14) Ap np_ cp_ dp_) ∧ (zval gp_ dp_ = (val drv_31 : Int) ^ ((zs lr_22).length - 1 - k)) ∧ (zval gv_ dv_ = evZ (zval gr_31 dr_31) (val drv_31 : Int) ((zs lr_22).drop k))) ((nr_22)) ?_ ?_
  · refine ⟨(nr_22), (false), (none), (0), (0), ([]), (gr_54), (Ar_54), (nr_54), (cr_54), (dr_54), rfl, rfl, rfl, rfl, rfl, rfl, (congrArg (Value.int .i64) (by omega)), (Frm.refl _ _), ?_, ?_, ?_, ?_, ?_, ?_, ?_, ?_, ?_⟩
    · exact hB67
    · exact hB63
    · omega
    · omega
    · omega
    · exact NatR.nil
    · exact NatR.sub h68 q5
    · rw [v_54, zlen, show lr_22.length - 1 - nr_22 = 0 by omega]; rfl
    · rw [List.drop_of_length_le (by rw [zlen]; omega)]; rfl
  · rintro m66 e80 w69 ⟨k, gv_, Av, nv_, cv_, dv_, gp_, Ap, np_, cp_, dp_, hm79, hs70, hs71, hs72, hs73, hs74, hs75, hF76, hB77, hB78, hk, bnv, bnp, hVf, hPf, hp, hv⟩
    obtain ⟨r81, rfl⟩ := sq (e := e80) (t := 0) hs70
    obtain ⟨r82, rfl⟩ := sq (e := r81) (t := 3) hs71
    obtain ⟨r83, rfl⟩ := sq (e := r82) (t := 4) hs72
    obtain ⟨r84, rfl⟩ := sq (e := r83) (t := 5) hs73
    obtain ⟨r85, rfl⟩ := sq (e := r84) (t := 6) hs74
    obtain ⟨r86, rfl⟩ := sq (e := r85) (t := 7) hs75
    have hz87 := hF76.size
    have lV := hVf.len; have kV := hVf.cap; have mV := hVf.max; have lP := hPf.len; have kP := hPf.cap; have mP := hPf.max
    refine wp_seq_k fun K88 hK88 => ?_
    refine wp_seq_k fun K89 hK89 => ?_
    refine wp_region_lit ?_
    refine sEv (v := (.int .i64 ((k : Int) - 1))) (rfl) rfl rfl ?_
    by_cases hc90 : ((k : Int) - 1) ≥ 0
    · refine sEv (v := (.bool true)) (evGeq true rfl rfl (dT hc90)) rfl rfl ?_
      refine sDone ?_
      refine xN (hK89 _ _ ?_)
      refine cT rfl ?_
      refine wp_skip ?_
      refine xN (hK88 _ _ ?_)
      refine wp_seq_k fun K91 hK91 => ?_
      refine wp_block ?_
      refine wp_seq_k fun K92 hK92 => ?_
      refine wp_seq_k fun K93 hK93 => ?_
      refine wp_region_lit ?_
      refine sEv (v := (.int .i64 ((k : Int) - 1))) (rfl) rfl rfl ?_
      refine sEv (v := (.slice Ar_22 nr_22 cr_22)) (rfl) rfl rfl ?_
      refine sEv (v := (.int .i64 ((nr_22 : Int)))) (evLen Try.underlying23 rfl) rfl rfl ?_
      refine sEv (v := (.int .i64 (((nr_22 : Int)) - 1))) (evSub (((nr_22 : Int)) - 1) rfl rfl (wI64 (by omega))) rfl rfl ?_
      by_cases hc94 : ((k : Int) - 1) < (((nr_22 : Int)) - 1)
      · refine sEv (v := (.bool true)) (evLss true rfl rfl (dT hc94)) rfl rfl ?_
        refine sDone ?_
        refine xN (hK93 _ _ ?_)
        refine cT rfl ?_
        refine wp_region_lit ?_
        refine sEv (v := (.agg #[(.bool gp_), (.slice Ap np_ cp_)])) (evLoadAB [(.bool gp_), (.slice Ap np_ cp_)] agg46 sz46 rfl hB78 rfl) rfl rfl ?_
        have hB95 := (hB52.frm (((Frm.of_ext (G := fun b => (b = g14) ∨ (b = g8 ∨ b = g14)) hE56).trans (hU61.mono (G' := fun b => (b = g14) ∨ (b = g8 ∨ b = g14)) fun _ _ h => .inl h)).trans (hF76.mono (G' := fun b => (b = g14) ∨ (b = g8 ∨ b = g14)) fun _ _ h => .inr h)) q1)
        refine sEv (v := (.agg #[(.bool false), (.slice Arv_31 nrv_31 crv_31)])) (evLoadAB [(.bool false), (.slice Arv_31 nrv_31 crv_31)] agg46 sz46 rfl hB95 rfl) rfl rfl ?_
        have h96 := (hrv_31.frmB ((((((hU39.mono (G' := fun b => (b = g2) ∨ (b = g43) ∨ (b = g14) ∨ (b = g8 ∨ b = g14)) fun _ _ h => .inl h).trans (Frm.of_ext (G := fun b => (b = g2) ∨ (b = g43) ∨ (b = g14) ∨ (b = g8 ∨ b = g14)) hE46)).trans (hU50.mono (G' := fun b => (b = g2) ∨ (b = g43) ∨ (b = g14) ∨ (b = g8 ∨ b = g14)) fun _ _ h => .inr (.inl h))).trans (Frm.of_ext (G := fun b => (b = g2) ∨ (b = g43) ∨ (b = g14) ∨ (b = g8 ∨ b = g14)) hE56)).trans (hU61.mono (G' := fun b => (b = g2) ∨ (b = g43) ∨ (b = g14) ∨ (b = g8 ∨ b = g14)) fun _ _ h => .inr (.inr (.inl h)))).trans (hF76.mono (G' := fun b => (b = g2) ∨ (b = g43) ∨ (b = g14) ∨ (b = g8 ∨ b = g14)) fun _ _ h => .inr (.inr (.inr h)))) q3)
        refine sOp rfl (oCall rfl call69 (integer_Mul hPf h96 (by omega)) rfl ?_)
        rintro _ w98 ⟨gr_97, Ar_97, nr_97, cr_97, dr_97, rfl, hE99, hr_97, v_97, cn_97, le_97⟩
        have hz100 := hE99.size
        have lr_97 := hr_97.len; have kr_97 := hr_97.cap; have mr_97 := hr_97.max
        have hB102 := (hB78.ext hE99)
        refine sOp rfl (oStore [(.bool gr_97), (.slice Ar_97 nr_97 cr_97)] rfl rfl rfl sz46 rfl hB102 (Nat.le_of_ble_eq_true rfl) ?_)
        intro w103 hU104 hz105 hB106
        replace hB106 : Blk w103 g14 46 [(.bool gr_97), (.slice Ar_97 nr_97 cr_97)] := hB106
        refine sDone ?_
        refine xN (hK92 _ _ ?_)
        refine dBegin (fun b => b = g8) mixed ?_
        intro w107 hE108 hz109
        refine dEv 1 rfl (v := (.pointer (some ⟨g2, 0, none⟩))) (fun _ _ => evFA 0 fa64_0 rfl rfl) rfl rfl (by kernel_rfl) ?_
        have hB110 := (hB41.frm ((((((((Frm.of_ext (G := fun b => (b = g43) ∨ (b = g14) ∨ (b = g8 ∨ b = g14)) hE46).trans (hU50.mono (G' := fun b => (b = g43) ∨ (b = g14) ∨ (b = g8 ∨ b = g14)) fun _ _ h => .inl h)).trans (Frm.of_ext (G := fun b => (b = g43) ∨ (b = g14) ∨ (b = g8 ∨ b = g14)) hE56)).trans (hU61.mono (G' := fun b => (b = g43) ∨ (b = g14) ∨ (b = g8 ∨ b = g14)) fun _ _ h => .inr (.inl h))).trans (hF76.mono (G' := fun b => (b = g43) ∨ (b = g14) ∨ (b = g8 ∨ b = g14)) fun _ _ h => .inr (.inr h))).trans (Frm.of_ext (G := fun b => (b = g43) ∨ (b = g14) ∨ (b = g8 ∨ b = g14)) hE99)).trans (hU104.mono (G' := fun b => (b = g43) ∨ (b = g14) ∨ (b = g8 ∨ b = g14)) fun _ _ h => .inr (.inl h))).trans (Frm.of_ext (G := fun b => (b = g43) ∨ (b = g14) ∨ (b = g8 ∨ b = g14)) hE108)) q1)
        refine dEv 2 rfl (v := (.agg #[(.bool gr_31), (.slice Ar_31 nr_31 cr_31)])) (fun _ hf => evLoadAB [(.bool gr_31), (.slice Ar_31 nr_31 cr_31)] agg46 sz46 rfl (hB110.frm hf q1) rfl) rfl rfl (by kernel_rfl) ?_
        refine dEv 4 rfl (v := (.slice Ar_22 nr_22 cr_22)) (fun _ _ => rfl) rfl rfl (by kernel_rfl) ?_
        refine dEv 5 rfl (v := (.int .i64 ((k : Int) - 1))) (fun _ _ => rfl) rfl rfl (by kernel_rfl) ?_
        have h111 := (hr_22.frmB ((((((((((Frm.of_ext (G := fun b => (b = g2) ∨ (b = g43) ∨ (b = g14) ∨ (b = g8 ∨ b = g14)) hE33).trans (hU39.mono (G' := fun b => (b = g2) ∨ (b = g43) ∨ (b = g14) ∨ (b = g8 ∨ b = g14)) fun _ _ h => .inl h)).trans (Frm.of_ext (G := fun b => (b = g2) ∨ (b = g43) ∨ (b = g14) ∨ (b = g8 ∨ b = g14)) hE46)).trans (hU50.mono (G' := fun b => (b = g2) ∨ (b = g43) ∨ (b = g14) ∨ (b = g8 ∨ b = g14)) fun _ _ h => .inr (.inl h))).trans (Frm.of_ext (G := fun b => (b = g2) ∨ (b = g43) ∨ (b = g14) ∨ (b = g8 ∨ b = g14)) hE56)).trans (hU61.mono (G' := fun b => (b = g2) ∨ (b = g43) ∨ (b = g14) ∨ (b = g8 ∨ b = g14)) fun _ _ h => .inr (.inr (.inl h)))).trans (hF76.mono (G' := fun b => (b = g2) ∨ (b = g43) ∨ (b = g14) ∨ (b = g8 ∨ b = g14)) fun _ _ h => .inr (.inr (.inr h)))).trans (Frm.of_ext (G := fun b => (b = g2) ∨ (b = g43) ∨ (b = g14) ∨ (b = g8 ∨ b = g14)) hE99)).trans (hU104.mono (G' := fun b => (b = g2) ∨ (b = g43) ∨ (b = g14) ∨ (b = g8 ∨ b = g14)) fun _ _ h => .inr (.inr (.inl h)))).trans (Frm.of_ext (G := fun b => (b = g2) ∨ (b = g43) ∨ (b = g14) ∨ (b = g8 ∨ b = g14)) hE108)) q3)
        obtain ⟨b112, o113, rfl⟩ := h111.base (by omega)
        refine dEv 6 rfl (v := (.pointer (some ⟨b112, o113 + ((k - 1) * 2), none⟩))) (fun _ _ => evIndex (k - 1) Try.underlying23 sz46 rfl rfl (by omega) (by omega) (o113 + ((k - 1) * 2)) (by omega)) rfl rfl (by kernel_rfl) ?_
        obtain ⟨g_114, A_114, n_114, c_114, d_114, he_114, hp_114, hq_114, h_114, hM_114, hS_114, hb_114, z_114⟩ := h111.at_ (i := k - 1) (by omega)
        have l_114 := h_114.len; have k_114 := h_114.cap; have m_114 := h_114.max
        refine dEv 7 rfl (v := (.agg #[(.bool g_114), (.slice A_114 n_114 c_114)])) (fun _ hf => evLoadA [(.bool g_114), (.slice A_114 n_114 c_114)] agg46 sz46 rfl (cell2F hp_114 hq_114 hf hb_114 (by (try dsimp only at hS_114 ⊢); omega))) rfl rfl (by kernel_rfl) ?_
        have hB116 := (hB106.ext hE108)
        refine dEv 8 rfl (v := (.agg #[(.bool gr_97), (.slice Ar_97 nr_97 cr_97)])) (fun _ hf => evLoadAB [(.bool gr_97), (.slice Ar_97 nr_97 cr_97)] agg46 sz46 rfl (hB116.frm hf q1) rfl) rfl rfl (by kernel_rfl) ?_
        have hB117 := (hB77.frm (((Frm.of_ext (G := fun b => (b = g14)) hE99).trans hU104).trans (Frm.of_ext (G := fun b => (b = g14)) hE108)) q1)
        refine dOp 0 rfl rfl (by kernel_rfl) (oEv (v := (.agg #[(.bool gv_), (.slice Av nv_ cv_)])) (evLoadAB [(.bool gv_), (.slice Av nv_ cv_)] agg46 sz46 rfl hB117 rfl) rfl ⟨Frm.refl _ _, ?_⟩)
        have h118 := (hVf.frmB (((Frm.of_ext (G := fun b => (b = g14)) hE99).trans hU104).trans (Frm.of_ext (G := fun b => (b = g14)) hE108)) q3)
        have h119 := (hr_31.frmB (((((((((hU39.mono (G' := fun b => (b = g2) ∨ (b = g43) ∨ (b = g14) ∨ (b = g8 ∨ b = g14)) fun _ _ h => .inl h).trans (Frm.of_ext (G := fun b => (b = g2) ∨ (b = g43) ∨ (b = g14) ∨ (b = g8 ∨ b = g14)) hE46)).trans (hU50.mono (G' := fun b => (b = g2) ∨ (b = g43) ∨ (b = g14) ∨ (b = g8 ∨ b = g14)) fun _ _ h => .inr (.inl h))).trans (Frm.of_ext (G := fun b => (b = g2) ∨ (b = g43) ∨ (b = g14) ∨ (b = g8 ∨ b = g14)) hE56)).trans (hU61.mono (G' := fun b => (b = g2) ∨ (b = g43) ∨ (b = g14) ∨ (b = g8 ∨ b = g14)) fun _ _ h => .inr (.inr (.inl h)))).trans (hF76.mono (G' := fun b => (b = g2) ∨ (b = g43) ∨ (b = g14) ∨ (b = g8 ∨ b = g14)) fun _ _ h => .inr (.inr (.inr h)))).trans (Frm.of_ext (G := fun b => (b = g2) ∨ (b = g43) ∨ (b = g14) ∨ (b = g8 ∨ b = g14)) hE99)).trans (hU104.mono (G' := fun b => (b = g2) ∨ (b = g43) ∨ (b = g14) ∨ (b = g8 ∨ b = g14)) fun _ _ h => .inr (.inr (.inl h)))).trans (Frm.of_ext (G := fun b => (b = g2) ∨ (b = g43) ∨ (b = g14) ∨ (b = g8 ∨ b = g14)) hE108)) q3)
        refine dOp 3 rfl rfl (by kernel_rfl) (oCall rfl call69 (integer_Mul h118 h119 (by omega)) rfl ?_)
        rintro _ w121 ⟨gr_120, Ar_120, nr_120, cr_120, dr_120, rfl, hE122, hr_120, v_120, cn_120, le_120⟩
        refine ⟨(Frm.of_ext hE122), ?_⟩
        have hz123 := hE122.size
        have lr_120 := hr_120.len; have kr_120 := hr_120.cap; have mr_120 := hr_120.max
        have h125 := (h_114.ext hE122)
        have h126 := (hr_97.frmB ((hU104.trans (Frm.of_ext (G := fun b => (b = g14)) hE108)).trans (Frm.of_ext (G := fun b => (b = g14)) hE122)) q3)
        refine dOp 9 rfl rfl (by kernel_rfl) (oCall rfl call69 (integer_Mul h125 h126 (by omega)) rfl ?_)
        rintro _ w128 ⟨gr_127, Ar_127, nr_127, cr_127, dr_127, rfl, hE129, hr_127, v_127, cn_127, le_127⟩
        refine ⟨(Frm.of_ext hE129), ?_⟩
        have hz130 := hE129.size
        have lr_127 := hr_127.len; have kr_127 := hr_127.cap; have mr_127 := hr_127.max
        have h132 := (hr_120.ext hE129)
        refine dOp 10 rfl rfl (by kernel_rfl) (oCall rfl call56 (integer_Add h132 hr_127 (by omega) (by omega)) rfl ?_)
        rintro _ w134 ⟨gr_133, Ar_133, nr_133, cr_133, dr_133, rfl, hE135, hr_133, v_133, cn_133, le_133⟩
        refine ⟨(Frm.of_ext hE135), ?_⟩
        have hz136 := hE135.size
        have lr_133 := hr_133.len; have kr_133 := hr_133.cap; have mr_133 := hr_133.max
        have hB138 := (hB117.ext ((hE122.trans hE129).trans hE135))
        refine dOp 11 rfl rfl (by kernel_rfl) (oStore [(.bool gr_133), (.slice Ar_133 nr_133 cr_133)] rfl rfl rfl sz46 rfl hB138 (Nat.le_of_ble_eq_true rfl) ?_)
        intro w139 hU140 hz141 hB142
        replace hB142 : Blk w139 g8 46 [(.bool gr_133), (.slice Ar_133 nr_133 cr_133)] := hB142
        refine ⟨hU140, ?_⟩
        refine dDone (by kernel_rfl) ?_
        refine bN ?_
        refine xN (hK91 _ _ ?_)
        refine wp_region_lit ?_
        refine sEv (v := (.int .i64 ((k : Int) - 1))) (rfl) rfl rfl ?_
        refine sEv (v := (.int .i64 (((k : Int) - 1) - 1))) (evSub (((k : Int) - 1) - 1) rfl rfl (wI64 (by omega))) rfl rfl ?_
        refine sEv (v := (.int .i64 (((k : Int) - 1) - 1))) (rfl) rfl rfl ?_
        refine sDone ?_
        have hB143 := (hB116.frm ((((Frm.of_ext (G := fun b => (b = g8)) hE122).trans (Frm.of_ext (G := fun b => (b = g8)) hE129)).trans (Frm.of_ext (G := fun b => (b = g8)) hE135)).trans hU140) q1)
        have h144 := (hr_133.frmB hU140 q3)
        have h145 := (h126.frmB (((Frm.of_ext (G := fun b => (b = g8)) hE129).trans (Frm.of_ext (G := fun b => (b = g8)) hE135)).trans hU140) q3)
        refine again ((k - 1)) (by omega) ⟨(k - 1), (gr_133), (Ar_133), (nr_133), (cr_133), (dr_133), (gr_97), (Ar_97), (nr_97), (cr_97), (dr_97), rfl, rfl, rfl, rfl, rfl, rfl, (congrArg (Value.int .i64) (by omega)), (Frm.mono ((((((((hF76.mono (G' := fun b => (b = g8 ∨ b = g14) ∨ (b = g14) ∨ (b = g8)) fun _ _ h => .inl h).trans (Frm.of_ext (G := fun b => (b = g8 ∨ b = g14) ∨ (b = g14) ∨ (b = g8)) hE99)).trans (hU104.mono (G' := fun b => (b = g8 ∨ b = g14) ∨ (b = g14) ∨ (b = g8)) fun _ _ h => .inr (.inl h))).trans (Frm.of_ext (G := fun b => (b = g8 ∨ b = g14) ∨ (b = g14) ∨ (b = g8)) hE108)).trans (Frm.of_ext (G := fun b => (b = g8 ∨ b = g14) ∨ (b = g14) ∨ (b = g8)) hE122)).trans (Frm.of_ext (G := fun b => (b = g8 ∨ b = g14) ∨ (b = g14) ∨ (b = g8)) hE129)).trans (Frm.of_ext (G := fun b => (b = g8 ∨ b = g14) ∨ (b = g14) ∨ (b = g8)) hE135)).trans (hU140.mono (G' := fun b => (b = g8 ∨ b = g14) ∨ (b = g14) ∨ (b = g8)) fun _ _ h => .inr (.inr h))) q4), ?_, ?_, ?_, ?_, ?_, ?_, ?_, ?_, ?_⟩
        · exact hB142
        · exact hB143
        · omega
        · omega
        · omega
        · exact NatR.sub h144 q5
        · exact NatR.sub h145 q5
        · rw [v_97, hp, zval_false]; exact pow_more (by omega) (by rw [zlen]; omega)
        · rw [v_133, v_120, v_127, z_114, v_97, hp, zval_false, pow_more (N := (zs lr_22).length) (d := (val drv_31 : Int)) (k := k) (by omega) (by rw [zlen]; omega)]; exact evZ_step (by omega) (by rw [zlen]; omega) hv
      · refine sEv (v := (.bool false)) (evLss false rfl rfl (dF hc94)) rfl rfl ?_
        refine sDone ?_
        refine xN (hK93 _ _ ?_)
        refine cF rfl ?_
        refine wp_skip ?_
        refine xN (hK92 _ _ ?_)
        refine dBegin (fun b => b = g8) mixed ?_
        intro w146 hE147 hz148
        refine dEv 1 rfl (v := (.pointer (some ⟨g2, 0, none⟩))) (fun _ _ => evFA 0 fa64_0 rfl rfl) rfl rfl (by kernel_rfl) ?_
        have hB149 := (hB41.frm ((((((Frm.of_ext (G := fun b => (b = g43) ∨ (b = g14) ∨ (b = g8 ∨ b = g14)) hE46).trans (hU50.mono (G' := fun b => (b = g43) ∨ (b = g14) ∨ (b = g8 ∨ b = g14)) fun _ _ h => .inl h)).trans (Frm.of_ext (G := fun b => (b = g43) ∨ (b = g14) ∨ (b = g8 ∨ b = g14)) hE56)).trans (hU61.mono (G' := fun b => (b = g43) ∨ (b = g14) ∨ (b = g8 ∨ b = g14)) fun _ _ h => .inr (.inl h))).trans (hF76.mono (G' := fun b => (b = g43) ∨ (b = g14) ∨ (b = g8 ∨ b = g14)) fun _ _ h => .inr (.inr h))).trans (Frm.of_ext (G := fun b => (b = g43) ∨ (b = g14) ∨ (b = g8 ∨ b = g14)) hE147)) q1)
        refine dEv 2 rfl (v := (.agg #[(.bool gr_31), (.slice Ar_31 nr_31 cr_31)])) (fun _ hf => evLoadAB [(.bool gr_31), (.slice Ar_31 nr_31 cr_31)] agg46 sz46 rfl (hB149.frm hf q1) rfl) rfl rfl (by kernel_rfl) ?_
        refine dEv 4 rfl (v := (.slice Ar_22 nr_22 cr_22)) (fun _ _ => rfl) rfl rfl (by kernel_rfl) ?_
        refine dEv 5 rfl (v := (.int .i64 ((k : Int) - 1))) (fun _ _ => rfl) rfl rfl (by kernel_rfl) ?_
        have h150 := (hr_22.frmB ((((((((Frm.of_ext (G := fun b => (b = g2) ∨ (b = g43) ∨ (b = g14) ∨ (b = g8 ∨ b = g14)) hE33).trans (hU39.mono (G' := fun b => (b = g2) ∨ (b = g43) ∨ (b = g14) ∨ (b = g8 ∨ b = g14)) fun _ _ h => .inl h)).trans (Frm.of_ext (G := fun b => (b = g2) ∨ (b = g43) ∨ (b = g14) ∨ (b = g8 ∨ b = g14)) hE46)).trans (hU50.mono (G' := fun b => (b = g2) ∨ (b = g43) ∨ (b = g14) ∨ (b = g8 ∨ b = g14)) fun _ _ h => .inr (.inl h))).trans (Frm.of_ext (G := fun b => (b = g2) ∨ (b = g43) ∨ (b = g14) ∨ (b = g8 ∨ b = g14)) hE56)).trans (hU61.mono (G' := fun b => (b = g2) ∨ (b = g43) ∨ (b = g14) ∨ (b = g8 ∨ b = g14)) fun _ _ h => .inr (.inr (.inl h)))).trans (hF76.mono (G' := fun b => (b = g2) ∨ (b = g43) ∨ (b = g14) ∨ (b = g8 ∨ b = g14)) fun _ _ h => .inr (.inr (.inr h)))).trans (Frm.of_ext (G := fun b => (b = g2) ∨ (b = g43) ∨ (b = g14) ∨ (b = g8 ∨ b = g14)) hE147)) q3)
        obtain ⟨b151, o152, rfl⟩ := h150.base (by omega)
        refine dEv 6 rfl (v := (.pointer (some ⟨b151, o152 + ((k - 1) * 2), none⟩))) (fun _ _ => evIndex (k - 1) Try.underlying23 sz46 rfl rfl (by omega) (by omega) (o152 + ((k - 1) * 2)) (by omega)) rfl rfl (by kernel_rfl) ?_
        obtain ⟨g_153, A_153, n_153, c_153, d_153, he_153, hp_153, hq_153, h_153, hM_153, hS_153, hb_153, z_153⟩ := h150.at_ (i := k - 1) (by omega)
        have l_153 := h_153.len; have k_153 := h_153.cap; have m_153 := h_153.max
        refine dEv 7 rfl (v := (.agg #[(.bool g_153), (.slice A_153 n_153 c_153)])) (fun _ hf => evLoadA [(.bool g_153), (.slice A_153 n_153 c_153)] agg46 sz46 rfl (cell2F hp_153 hq_153 hf hb_153 (by (try dsimp only at hS_153 ⊢); omega))) rfl rfl (by kernel_rfl) ?_
        have hB155 := (hB78.ext hE147)
        refine dEv 8 rfl (v := (.agg #[(.bool gp_), (.slice Ap np_ cp_)])) (fun _ hf => evLoadAB [(.bool gp_), (.slice Ap np_ cp_)] agg46 sz46 rfl (hB155.frm hf q1) rfl) rfl rfl (by kernel_rfl) ?_
        have hB156 := (hB77.ext hE147)
        refine dOp 0 rfl rfl (by kernel_rfl) (oEv (v := (.agg #[(.bool gv_), (.slice Av nv_ cv_)])) (evLoadAB [(.bool gv_), (.slice Av nv_ cv_)] agg46 sz46 rfl hB156 rfl) rfl ⟨Frm.refl _ _, ?_⟩)
        have h157 := (hVf.ext hE147)
        have h158 := (hr_31.frmB (((((((hU39.mono (G' := fun b => (b = g2) ∨ (b = g43) ∨ (b = g14) ∨ (b = g8 ∨ b = g14)) fun _ _ h => .inl h).trans (Frm.of_ext (G := fun b => (b = g2) ∨ (b = g43) ∨ (b = g14) ∨ (b = g8 ∨ b = g14)) hE46)).trans (hU50.mono (G' := fun b => (b = g2) ∨ (b = g43) ∨ (b = g14) ∨ (b = g8 ∨ b = g14)) fun _ _ h => .inr (.inl h))).trans (Frm.of_ext (G := fun b => (b = g2) ∨ (b = g43) ∨ (b = g14) ∨ (b = g8 ∨ b = g14)) hE56)).trans (hU61.mono (G' := fun b => (b = g2) ∨ (b = g43) ∨ (b = g14) ∨ (b = g8 ∨ b = g14)) fun _ _ h => .inr (.inr (.inl h)))).trans (hF76.mono (G' := fun b => (b = g2) ∨ (b = g43) ∨ (b = g14) ∨ (b = g8 ∨ b = g14)) fun _ _ h => .inr (.inr (.inr h)))).trans (Frm.of_ext (G := fun b => (b = g2) ∨ (b = g43) ∨ (b = g14) ∨ (b = g8 ∨ b = g14)) hE147)) q3)
        refine dOp 3 rfl rfl (by kernel_rfl) (oCall rfl call69 (integer_Mul h157 h158 (by omega)) rfl ?_)
        rintro _ w160 ⟨gr_159, Ar_159, nr_159, cr_159, dr_159, rfl, hE161, hr_159, v_159, cn_159, le_159⟩
        refine ⟨(Frm.of_ext hE161), ?_⟩
        have hz162 := hE161.size
        have lr_159 := hr_159.len; have kr_159 := hr_159.cap; have mr_159 := hr_159.max
        have h164 := (h_153.ext hE161)
        have h165 := (hPf.ext (hE147.trans hE161))
        refine dOp 9 rfl rfl (by kernel_rfl) (oCall rfl call69 (integer_Mul h164 h165 (by omega)) rfl ?_)
        rintro _ w167 ⟨gr_166, Ar_166, nr_166, cr_166, dr_166, rfl, hE168, hr_166, v_166, cn_166, le_166⟩
        refine ⟨(Frm.of_ext hE168), ?_⟩
        have hz169 := hE168.size
        have lr_166 := hr_166.len; have kr_166 := hr_166.cap; have mr_166 := hr_166.max
        have h171 := (hr_159.ext hE168)
        refine dOp 10 rfl rfl (by kernel_rfl) (oCall rfl call56 (integer_Add h171 hr_166 (by omega) (by omega)) rfl ?_)
        rintro _ w173 ⟨gr_172, Ar_172, nr_172, cr_172, dr_172, rfl, hE174, hr_172, v_172, cn_172, le_172⟩
        refine ⟨(Frm.of_ext hE174), ?_⟩
        have hz175 := hE174.size
        have lr_172 := hr_172.len; have kr_172 := hr_172.cap; have mr_172 := hr_172.max
        have hB177 := (hB156.ext ((hE161.trans hE168).trans hE174))
        refine dOp 11 rfl rfl (by kernel_rfl) (oStore [(.bool gr_172), (.slice Ar_172 nr_172 cr_172)] rfl rfl rfl sz46 rfl hB177 (Nat.le_of_ble_eq_true rfl) ?_)
        intro w178 hU179 hz180 hB181
        replace hB181 : Blk w178 g8 46 [(.bool gr_172), (.slice Ar_172 nr_172 cr_172)] := hB181
        refine ⟨hU179, ?_⟩
        refine dDone (by kernel_rfl) ?_
        refine bN ?_
        refine xN (hK91 _ _ ?_)
        refine wp_region_lit ?_
        refine sEv (v := (.int .i64 ((k : Int) - 1))) (rfl) rfl rfl ?_
        refine sEv (v := (.int .i64 (((k : Int) - 1) - 1))) (evSub (((k : Int) - 1) - 1) rfl rfl (wI64 (by omega))) rfl rfl ?_
        refine sEv (v := (.int .i64 (((k : Int) - 1) - 1))) (rfl) rfl rfl ?_
        refine sDone ?_
        have hB182 := (hB155.frm ((((Frm.of_ext (G := fun b => (b = g8)) hE161).trans (Frm.of_ext (G := fun b => (b = g8)) hE168)).trans (Frm.of_ext (G := fun b => (b = g8)) hE174)).trans hU179) q1)
        have h183 := (hr_172.frmB hU179 q3)
        have h184 := (h165.frmB (((Frm.of_ext (G := fun b => (b = g8)) hE168).trans (Frm.of_ext (G := fun b => (b = g8)) hE174)).trans hU179) q3)
        refine again ((k - 1)) (by omega) ⟨(k - 1), (gr_172), (Ar_172), (nr_172), (cr_172), (dr_172), (gp_), (Ap), (np_), (cp_), (dp_), rfl, rfl, rfl, rfl, rfl, rfl, (congrArg (Value.int .i64) (by omega)), (Frm.mono ((((((hF76.mono (G' := fun b => (b = g8 ∨ b = g14) ∨ (b = g8)) fun _ _ h => .inl h).trans (Frm.of_ext (G := fun b => (b = g8 ∨ b = g14) ∨ (b = g8)) hE147)).trans (Frm.of_ext (G := fun b => (b = g8 ∨ b = g14) ∨ (b = g8)) hE161)).trans (Frm.of_ext (G := fun b => (b = g8 ∨ b = g14) ∨ (b = g8)) hE168)).trans (Frm.of_ext (G := fun b => (b = g8 ∨ b = g14) ∨ (b = g8)) hE174)).trans (hU179.mono (G' := fun b => (b = g8 ∨ b = g14) ∨ (b = g8)) fun _ _ h => .inr h)) q4), ?_, ?_, ?_, ?_, ?_, ?_, ?_, ?_, ?_⟩
        · exact hB181
        · exact hB182
        · omega
        · omega
        · omega
        · exact NatR.sub h183 q5
        · exact NatR.sub h184 q5
        · rw [hp]; exact pow_keep (by rw [zlen]; omega)
        · rw [v_172, v_159, v_166, z_153, hp, pow_keep (N := (zs lr_22).length) (d := (val drv_31 : Int)) (k := k) (by rw [zlen]; omega)]; exact evZ_step (by omega) (by rw [zlen]; omega) hv
    · refine sEv (v := (.bool false)) (evGeq false rfl rfl (dF hc90)) rfl rfl ?_
      refine sDone ?_
      refine xN (hK89 _ _ ?_)
      refine cF rfl ?_
      refine wp_exit (xE (xE (bE ?_)))
      refine xN (hK64 _ _ ?_)
      refine wp_seq_k fun K185 hK185 => ?_
      refine dBegin (fun b => b = g14 ∨ b = g8) mixed ?_
      intro w186 hE187 hz188
      refine dTwo 0 1 (by kernel_rfl) ?_ ?_
      · have hB189 := (hB77.ext hE187)
        refine dWp (i := 0) rfl rfl (oEv (v := (.agg #[(.bool gv_), (.slice Av nv_ cv_)])) (evLoadAB [(.bool gv_), (.slice Av nv_ cv_)] agg46 sz46 rfl hB189 rfl) rfl ⟨Frm.refl _ _, ?_⟩)
        refine dTwo 1 2 (by kernel_rfl) ?_ ?_
        · have hB190 := (hB78.ext hE187)
          refine dWp (i := 1) rfl rfl (oEv (v := (.agg #[(.bool gp_), (.slice Ap np_ cp_)])) (evLoadAB [(.bool gp_), (.slice Ap np_ cp_)] agg46 sz46 rfl hB190 rfl) rfl ⟨Frm.refl _ _, ?_⟩)
          refine dOp 2 rfl rfl (by kernel_rfl) (oStore [(.bool gv_), (.slice Av nv_ cv_)] rfl rfl rfl sz46 rfl hB189 (Nat.le_of_ble_eq_true rfl) ?_)
          intro w191 hU192 hz193 hB194
          replace hB194 : Blk w191 g8 46 [(.bool gv_), (.slice Av nv_ cv_)] := hB194
          refine ⟨(hU192.mono q4), ?_⟩
          have hB195 := (hB190.frm hU192 q1)
          refine dOp 3 rfl rfl (by kernel_rfl) (oStore [(.bool gp_), (.slice Ap np_ cp_)] rfl rfl rfl sz46 rfl hB195 (Nat.le_of_ble_eq_true rfl) ?_)
          intro w196 hU197 hz198 hB199
          replace hB199 : Blk w196 g14 46 [(.bool gp_), (.slice Ap np_ cp_)] := hB199
          refine ⟨(hU197.mono q4), ?_⟩
          refine dDone (by kernel_rfl) ?_
          refine xN (hK185 _ _ ?_)
          refine wp_ret ?_
          have hB200 := (hB194.frm hU197 q1)
          refine ret2 (.agg #[(.bool gv_), (.slice Av nv_ cv_)]) (.agg #[(.bool gp_), (.slice Ap np_ cp_)]) Try.results86 (resB [(.bool gv_), (.slice Av nv_ cv_)] agg46 sz46 rfl hB200) (resB [(.bool gp_), (.slice Ap np_ cp_)] agg46 sz46 rfl hB199) ?_
          have hend := scaled_end (v := zval gv_ dv_) (p := zval gp_ dp_) (q := rv (zval ga da) (val dav)) (F := (zs lr_22)) (rv_mul x_31 (by have h := p_31; omega)) (by have h := p_31; omega) (by rw [hv, show k = 0 by omega, List.drop_zero]) (by rw [hp, show k = 0 by omega, Nat.sub_zero])
          have h201 := (hVf.frmB (((Frm.of_ext (G := fun b => (b = g8) ∨ (b = g14)) hE187).trans (hU192.mono (G' := fun b => (b = g8) ∨ (b = g14)) fun _ _ h => .inl h)).trans (hU197.mono (G' := fun b => (b = g8) ∨ (b = g14)) fun _ _ h => .inr h)) q3)
          have h202 := (hPf.frmB (((Frm.of_ext (G := fun b => (b = g8) ∨ (b = g14)) hE187).trans (hU192.mono (G' := fun b => (b = g8) ∨ (b = g14)) fun _ _ h => .inl h)).trans (hU197.mono (G' := fun b => (b = g8) ∨ (b = g14)) fun _ _ h => .inr h)) q3)
          exact ⟨gv_, Av, nv_, cv_, dv_, gp_, Ap, np_, cp_, dp_, rfl, (Frm.mono ((((((((((((((Frm.of_ext (G := fun b => (b = g2) ∨ (b = g43) ∨ (b = g14) ∨ (b = g8 ∨ b = g14) ∨ (b = g8)) hE5).trans (Frm.of_ext (G := fun b => (b = g2) ∨ (b = g43) ∨ (b = g14) ∨ (b = g8 ∨ b = g14) ∨ (b = g8)) hE11)).trans (Frm.of_ext (G := fun b => (b = g2) ∨ (b = g43) ∨ (b = g14) ∨ (b = g8 ∨ b = g14) ∨ (b = g8)) hE17)).trans (Frm.of_ext (G := fun b => (b = g2) ∨ (b = g43) ∨ (b = g14) ∨ (b = g8 ∨ b = g14) ∨ (b = g8)) hE24)).trans (Frm.of_ext (G := fun b => (b = g2) ∨ (b = g43) ∨ (b = g14) ∨ (b = g8 ∨ b = g14) ∨ (b = g8)) hE33)).trans (hU39.mono (G' := fun b => (b = g2) ∨ (b = g43) ∨ (b = g14) ∨ (b = g8 ∨ b = g14) ∨ (b = g8)) fun _ _ h => .inl h)).trans (Frm.of_ext (G := fun b => (b = g2) ∨ (b = g43) ∨ (b = g14) ∨ (b = g8 ∨ b = g14) ∨ (b = g8)) hE46)).trans (hU50.mono (G' := fun b => (b = g2) ∨ (b = g43) ∨ (b = g14) ∨ (b = g8 ∨ b = g14) ∨ (b = g8)) fun _ _ h => .inr (.inl h))).trans (Frm.of_ext (G := fun b => (b = g2) ∨ (b = g43) ∨ (b = g14) ∨ (b = g8 ∨ b = g14) ∨ (b = g8)) hE56)).trans (hU61.mono (G' := fun b => (b = g2) ∨ (b = g43) ∨ (b = g14) ∨ (b = g8 ∨ b = g14) ∨ (b = g8)) fun _ _ h => .inr (.inr (.inl h)))).trans (hF76.mono (G' := fun b => (b = g2) ∨ (b = g43) ∨ (b = g14) ∨ (b = g8 ∨ b = g14) ∨ (b = g8)) fun _ _ h => .inr (.inr (.inr (.inl h))))).trans (Frm.of_ext (G := fun b => (b = g2) ∨ (b = g43) ∨ (b = g14) ∨ (b = g8 ∨ b = g14) ∨ (b = g8)) hE187)).trans (hU192.mono (G' := fun b => (b = g2) ∨ (b = g43) ∨ (b = g14) ∨ (b = g8 ∨ b = g14) ∨ (b = g8)) fun _ _ h => .inr (.inr (.inr (.inr h))))).trans (hU197.mono (G' := fun b => (b = g2) ∨ (b = g43) ∨ (b = g14) ∨ (b = g8 ∨ b = g14) ∨ (b = g8)) fun _ _ h => .inr (.inr (.inl h)))) q4), (NatR.sub h201 q5), (NatR.sub h202 q5), (by rw [hend.1, e_22, zs_trim, evQ_trim]), hend.2, (by omega), (by omega)⟩
        · refine dWp (i := 2) rfl rfl (oStore [(.bool gv_), (.slice Av nv_ cv_)] rfl rfl rfl sz46 rfl hB189 (Nat.le_of_ble_eq_true rfl) ?_)
          intro w203 hU204 hz205 hB206
          replace hB206 : Blk w203 g8 46 [(.bool gv_), (.slice Av nv_ cv_)] := hB206
          refine ⟨(hU204.mono q4), ?_⟩
          have hB207 := (hB78.frm ((Frm.of_ext (G := fun b => (b = g8)) hE187).trans hU204) q1)
          refine dOp 1 rfl rfl (by kernel_rfl) (oEv (v := (.agg #[(.bool gp_), (.slice Ap np_ cp_)])) (evLoadAB [(.bool gp_), (.slice Ap np_ cp_)] agg46 sz46 rfl hB207 rfl) rfl ⟨Frm.refl _ _, ?_⟩)
          refine dOp 3 rfl rfl (by kernel_rfl) (oStore [(.bool gp_), (.slice Ap np_ cp_)] rfl rfl rfl sz46 rfl hB207 (Nat.le_of_ble_eq_true rfl) ?_)
          intro w208 hU209 hz210 hB211
          replace hB211 : Blk w208 g14 46 [(.bool gp_), (.slice Ap np_ cp_)] := hB211
          refine ⟨(hU209.mono q4), ?_⟩
          refine dDone (by kernel_rfl) ?_
          refine xN (hK185 _ _ ?_)
          refine wp_ret ?_
          have hB212 := (hB206.frm hU209 q1)
          refine ret2 (.agg #[(.bool gv_), (.slice Av nv_ cv_)]) (.agg #[(.bool gp_), (.slice Ap np_ cp_)]) Try.results86 (resB [(.bool gv_), (.slice Av nv_ cv_)] agg46 sz46 rfl hB212) (resB [(.bool gp_), (.slice Ap np_ cp_)] agg46 sz46 rfl hB211) ?_
          have hend := scaled_end (v := zval gv_ dv_) (p := zval gp_ dp_) (q := rv (zval ga da) (val dav)) (F := (zs lr_22)) (rv_mul x_31 (by have h := p_31; omega)) (by have h := p_31; omega) (by rw [hv, show k = 0 by omega, List.drop_zero]) (by rw [hp, show k = 0 by omega, Nat.sub_zero])
          have h213 := (hVf.frmB (((Frm.of_ext (G := fun b => (b = g8) ∨ (b = g14)) hE187).trans (hU204.mono (G' := fun b => (b = g8) ∨ (b = g14)) fun _ _ h => .inl h)).trans (hU209.mono (G' := fun b => (b = g8) ∨ (b = g14)) fun _ _ h => .inr h)) q3)
          have h214 := (hPf.frmB (((Frm.of_ext (G := fun b => (b = g8) ∨ (b = g14)) hE187).trans (hU204.mono (G' := fun b => (b = g8) ∨ (b = g14)) fun _ _ h => .inl h)).trans (hU209.mono (G' := fun b => (b = g8) ∨ (b = g14)) fun _ _ h => .inr h)) q3)
          exact ⟨gv_, Av, nv_, cv_, dv_, gp_, Ap, np_, cp_, dp_, rfl, (Frm.mono ((((((((((((((Frm.of_ext (G := fun b => (b = g2) ∨ (b = g43) ∨ (b = g14) ∨ (b = g8 ∨ b = g14) ∨ (b = g8)) hE5).trans (Frm.of_ext (G := fun b => (b = g2) ∨ (b = g43) ∨ (b = g14) ∨ (b = g8 ∨ b = g14) ∨ (b = g8)) hE11)).trans (Frm.of_ext (G := fun b => (b = g2) ∨ (b = g43) ∨ (b = g14) ∨ (b = g8 ∨ b = g14) ∨ (b = g8)) hE17)).trans (Frm.of_ext (G := fun b => (b = g2) ∨ (b = g43) ∨ (b = g14) ∨ (b = g8 ∨ b = g14) ∨ (b = g8)) hE24)).trans (Frm.of_ext (G := fun b => (b = g2) ∨ (b = g43) ∨ (b = g14) ∨ (b = g8 ∨ b = g14) ∨ (b = g8)) hE33)).trans (hU39.mono (G' := fun b => (b = g2) ∨ (b = g43) ∨ (b = g14) ∨ (b = g8 ∨ b = g14) ∨ (b = g8)) fun _ _ h => .inl h)).trans (Frm.of_ext (G := fun b => (b = g2) ∨ (b = g43) ∨ (b = g14) ∨ (b = g8 ∨ b = g14) ∨ (b = g8)) hE46)).trans (hU50.mono (G' := fun b => (b = g2) ∨ (b = g43) ∨ (b = g14) ∨ (b = g8 ∨ b = g14) ∨ (b = g8)) fun _ _ h => .inr (.inl h))).trans (Frm.of_ext (G := fun b => (b = g2) ∨ (b = g43) ∨ (b = g14) ∨ (b = g8 ∨ b = g14) ∨ (b = g8)) hE56)).trans (hU61.mono (G' := fun b => (b = g2) ∨ (b = g43) ∨ (b = g14) ∨ (b = g8 ∨ b = g14) ∨ (b = g8)) fun _ _ h => .inr (.inr (.inl h)))).trans (hF76.mono (G' := fun b => (b = g2) ∨ (b = g43) ∨ (b = g14) ∨ (b = g8 ∨ b = g14) ∨ (b = g8)) fun _ _ h => .inr (.inr (.inr (.inl h))))).trans (Frm.of_ext (G := fun b => (b = g2) ∨ (b = g43) ∨ (b = g14) ∨ (b = g8 ∨ b = g14) ∨ (b = g8)) hE187)).trans (hU204.mono (G' := fun b => (b = g2) ∨ (b = g43) ∨ (b = g14) ∨ (b = g8 ∨ b = g14) ∨ (b = g8)) fun _ _ h => .inr (.inr (.inr (.inr h))))).trans (hU209.mono (G' := fun b => (b = g2) ∨ (b = g43) ∨ (b = g14) ∨ (b = g8 ∨ b = g14) ∨ (b = g8)) fun _ _ h => .inr (.inr (.inl h)))) q4), (NatR.sub h213 q5), (NatR.sub h214 q5), (by rw [hend.1, e_22, zs_trim, evQ_trim]), hend.2, (by omega), (by omega)⟩
      · have hB215 := (hB78.ext hE187)
        refine dWp (i := 1) rfl rfl (oEv (v := (.agg #[(.bool gp_), (.slice Ap np_ cp_)])) (evLoadAB [(.bool gp_), (.slice Ap np_ cp_)] agg46 sz46 rfl hB215 rfl) rfl ⟨Frm.refl _ _, ?_⟩)
        have hB216 := (hB77.ext hE187)
        refine dOp 0 rfl rfl (by kernel_rfl) (oEv (v := (.agg #[(.bool gv_), (.slice Av nv_ cv_)])) (evLoadAB [(.bool gv_), (.slice Av nv_ cv_)] agg46 sz46 rfl hB216 rfl) rfl ⟨Frm.refl _ _, ?_⟩)
        refine dOp 2 rfl rfl (by kernel_rfl) (oStore [(.bool gv_), (.slice Av nv_ cv_)] rfl rfl rfl sz46 rfl hB216 (Nat.le_of_ble_eq_true rfl) ?_)
        intro w217 hU218 hz219 hB220
        replace hB220 : Blk w217 g8 46 [(.bool gv_), (.slice Av nv_ cv_)] := hB220
        refine ⟨(hU218.mono q4), ?_⟩
        have hB221 := (hB215.frm hU218 q1)
        refine dOp 3 rfl rfl (by kernel_rfl) (oStore [(.bool gp_), (.slice Ap np_ cp_)] rfl rfl rfl sz46 rfl hB221 (Nat.le_of_ble_eq_true rfl) ?_)
        intro w222 hU223 hz224 hB225
        replace hB225 : Blk w222 g14 46 [(.bool gp_), (.slice Ap np_ cp_)] := hB225
        refine ⟨(hU223.mono q4), ?_⟩
        refine dDone (by kernel_rfl) ?_
        refine xN (hK185 _ _ ?_)
        refine wp_ret ?_
        have hB226 := (hB220.frm hU223 q1)
        refine ret2 (.agg #[(.bool gv_), (.slice Av nv_ cv_)]) (.agg #[(.bool gp_), (.slice Ap np_ cp_)]) Try.results86 (resB [(.bool gv_), (.slice Av nv_ cv_)] agg46 sz46 rfl hB226) (resB [(.bool gp_), (.slice Ap np_ cp_)] agg46 sz46 rfl hB225) ?_
        have hend := scaled_end (v := zval gv_ dv_) (p := zval gp_ dp_) (q := rv (zval ga da) (val dav)) (F := (zs lr_22)) (rv_mul x_31 (by have h := p_31; omega)) (by have h := p_31; omega) (by rw [hv, show k = 0 by omega, List.drop_zero]) (by rw [hp, show k = 0 by omega, Nat.sub_zero])
        have h227 := (hVf.frmB (((Frm.of_ext (G := fun b => (b = g8) ∨ (b = g14)) hE187).trans (hU218.mono (G' := fun b => (b = g8) ∨ (b = g14)) fun _ _ h => .inl h)).trans (hU223.mono (G' := fun b => (b = g8) ∨ (b = g14)) fun _ _ h => .inr h)) q3)
        have h228 := (hPf.frmB (((Frm.of_ext (G := fun b => (b = g8) ∨ (b = g14)) hE187).trans (hU218.mono (G' := fun b => (b = g8) ∨ (b = g14)) fun _ _ h => .inl h)).trans (hU223.mono (G' := fun b => (b = g8) ∨ (b = g14)) fun _ _ h => .inr h)) q3)
        exact ⟨gv_, Av, nv_, cv_, dv_, gp_, Ap, np_, cp_, dp_, rfl, (Frm.mono ((((((((((((((Frm.of_ext (G := fun b => (b = g2) ∨ (b = g43) ∨ (b = g14) ∨ (b = g8 ∨ b = g14) ∨ (b = g8)) hE5).trans (Frm.of_ext (G := fun b => (b = g2) ∨ (b = g43) ∨ (b = g14) ∨ (b = g8 ∨ b = g14) ∨ (b = g8)) hE11)).trans (Frm.of_ext (G := fun b => (b = g2) ∨ (b = g43) ∨ (b = g14) ∨ (b = g8 ∨ b = g14) ∨ (b = g8)) hE17)).trans (Frm.of_ext (G := fun b => (b = g2) ∨ (b = g43) ∨ (b = g14) ∨ (b = g8 ∨ b = g14) ∨ (b = g8)) hE24)).trans (Frm.of_ext (G := fun b => (b = g2) ∨ (b = g43) ∨ (b = g14) ∨ (b = g8 ∨ b = g14) ∨ (b = g8)) hE33)).trans (hU39.mono (G' := fun b => (b = g2) ∨ (b = g43) ∨ (b = g14) ∨ (b = g8 ∨ b = g14) ∨ (b = g8)) fun _ _ h => .inl h)).trans (Frm.of_ext (G := fun b => (b = g2) ∨ (b = g43) ∨ (b = g14) ∨ (b = g8 ∨ b = g14) ∨ (b = g8)) hE46)).trans (hU50.mono (G' := fun b => (b = g2) ∨ (b = g43) ∨ (b = g14) ∨ (b = g8 ∨ b = g14) ∨ (b = g8)) fun _ _ h => .inr (.inl h))).trans (Frm.of_ext (G := fun b => (b = g2) ∨ (b = g43) ∨ (b = g14) ∨ (b = g8 ∨ b = g14) ∨ (b = g8)) hE56)).trans (hU61.mono (G' := fun b => (b = g2) ∨ (b = g43) ∨ (b = g14) ∨ (b = g8 ∨ b = g14) ∨ (b = g8)) fun _ _ h => .inr (.inr (.inl h)))).trans (hF76.mono (G' := fun b => (b = g2) ∨ (b = g43) ∨ (b = g14) ∨ (b = g8 ∨ b = g14) ∨ (b = g8)) fun _ _ h => .inr (.inr (.inr (.inl h))))).trans (Frm.of_ext (G := fun b => (b = g2) ∨ (b = g43) ∨ (b = g14) ∨ (b = g8 ∨ b = g14) ∨ (b = g8)) hE187)).trans (hU218.mono (G' := fun b => (b = g2) ∨ (b = g43) ∨ (b = g14) ∨ (b = g8 ∨ b = g14) ∨ (b = g8)) fun _ _ h => .inr (.inr (.inr (.inr h))))).trans (hU223.mono (G' := fun b => (b = g2) ∨ (b = g43) ∨ (b = g14) ∨ (b = g8 ∨ b = g14) ∨ (b = g8)) fun _ _ h => .inr (.inr (.inl h)))) q4), (NatR.sub h227 q5), (NatR.sub h228 q5), (by rw [hend.1, e_22, zs_trim, evQ_trim]), hend.2, (by omega), (by omega)⟩

theorem unipoly_EvalRat_small {w : World} {Sf : Nat → Prop} {Af : Option Addr} {nf cf Mf : Nat} {lf : List RI} {ga : Bool} {Sa : Nat → Prop} {Aa : Option Addr} {na ca : Nat} {da : List Nat} {Sav : Nat → Prop} {Aav : Option Addr} {nav cav : Nat} {dav : List Nat} (hf : PolyR w Sf Af nf cf lf Mf) (ha : NatR w Sa Aa na ca da) (hav : NatR w Sav Aav nav cav dav) (hnf : nf ≤ 8) (hMf : Mf ≤ 4) (hna : na ≤ 3) (hnav : nav ≤ 3) : Calls Try.prog 52 #[(.slice Af nf cf), (.agg #[(.bool ga), (.slice Aa na ca), (.slice Aav nav cav)])] w (Ret fun v w' => ∃ (gr : Bool) (Ar : Option Addr) (nr : Nat) (cr : Nat) (dr : List Nat) (Arv : Option Addr) (nrv : Nat) (crv : Nat) (drv : List Nat), v = (.agg #[(.bool gr), (.slice Ar nr cr), (.slice Arv nrv crv)]) ∧ Ext w w' ∧ NatR w' (fun b => w.heap.size ≤ b) Ar nr cr dr ∧ NatR w' (fun b => w.heap.size ≤ b) Arv nrv crv drv ∧ (rv (zval gr dr) (val drv) = evQ (zs lf) (rv (zval ga da) (val dav))) ∧ (0 < val drv) ∧ (nr ≤ 121) ∧ (nrv ≤ 67)) := by
  have kf := hf.len; have jf := hf.cap; have mf := hf.max
  replace hf := hf.low
  have la := ha.len; have ka := ha.cap; have ma := ha.max
  replace ha := ha.low
  have lav := hav.len; have kav := hav.cap; have mav := hav.max
  replace hav := hav.low
  refine enter Try.func52 rfl Try.ntmps52 rfl ?_
  refine wp_seq_k fun K1 hK1 => ?_
  refine wp_region_lit ?_
  refine sOp rfl (oBox [(.bool ga), (.slice Aa na ca), (.slice Aav nav cav)] rfl rfl ?_)
  intro g2 w3 hg4 hE5 hz6 hB7
  refine sOp rfl (oAlloc [(.bool false), (.slice none 0 0), (.slice none 0 0)] zero64 rfl ?_)
  intro g8 w9 hg10 hE11 hz12 hB13
  refine sDone ?_
  refine xN (hK1 _ _ ?_)
  refine wp_seq_k fun K14 hK14 => ?_
  refine wp_region_lit ?_
  refine sEv (v := (.slice Af nf cf)) (rfl) rfl rfl ?_
  have hB15 := (hB7.ext hE11)
  refine sEv (v := (.agg #[(.bool ga), (.slice Aa na ca), (.slice Aav nav cav)])) (evLoadAB [(.bool ga), (.slice Aa na ca), (.slice Aav nav cav)] agg64 sz64 rfl hB15 rfl) rfl rfl ?_
  have h16 := (hf.ext (hE5.trans hE11))
  have h17 := (ha.ext (hE5.trans hE11))
  have h18 := (hav.ext (hE5.trans hE11))
  refine sOp rfl (oCall rfl call86 (unipoly_scaled_small h16 h17 h18 (by omega) (by omega) (by omega) (by omega)) rfl ?_)
  rintro _ w20 ⟨gv_19, Av_19, nv_19, cv_19, dv_19, gp_19, Ap_19, np_19, cp_19, dp_19, rfl, hE21, hv_19, hp_19, e_19, po_19, bv_19, bp_19⟩
  have hz22 := hE21.size
  have lv_19 := hv_19.len; have kv_19 := hv_19.cap; have mv_19 := hv_19.max
  have lp_19 := hp_19.len; have kp_19 := hp_19.cap; have mp_19 := hp_19.max
  have hpn : zval gp_19 dp_19 ≠ 0 := by have h := po_19; omega
  refine sEv (v := (.agg #[(.bool gv_19), (.slice Av_19 nv_19 cv_19)])) (rfl) rfl rfl ?_
  refine sEv (v := (.agg #[(.bool gp_19), (.slice Ap_19 np_19 cp_19)])) (rfl) rfl rfl ?_
  refine sOp rfl (oCall rfl call85 (rational_Make hv_19 hp_19 (by omega) (by omega) (by omega)) rfl ?_)
  rintro _ w26 ⟨gr_25, Ar_25, nr_25, cr_25, dr_25, Arv_25, nrv_25, crv_25, drv_25, xe_25, rfl, hE27, hr_25, hrv_25, x_25, p_25, cn_25, cv_25, co_25, ok_25, bn_25, bd_25⟩
  have hz28 := hE27.size
  have lr_25 := hr_25.len; have kr_25 := hr_25.cap; have mr_25 := hr_25.max
  have lrv_25 := hrv_25.len; have krv_25 := hrv_25.cap; have mrv_25 := hrv_25.max
  refine sEv (v := (.tuple #[(.agg #[(.bool gr_25), (.slice Ar_25 nr_25 cr_25), (.slice Arv_25 nrv_25 crv_25)]), (.int .i64 (xe_25))])) (rfl) rfl rfl ?_
  refine sEv (v := (.agg #[(.bool gr_25), (.slice Ar_25 nr_25 cr_25), (.slice Arv_25 nrv_25 crv_25)])) (rfl) rfl rfl ?_
  refine sEv (v := (.int .i64 (xe_25))) (rfl) rfl rfl ?_
  refine sOp rfl (oAlloc [(.bool false), (.slice none 0 0), (.slice none 0 0)] zero64 rfl ?_)
  intro g31 w32 hg33 hE34 hz35 hB36
  refine sOp rfl (oStore [(.bool gr_25), (.slice Ar_25 nr_25 cr_25), (.slice Arv_25 nrv_25 crv_25)] rfl rfl rfl sz64 rfl hB36 (Nat.le_of_ble_eq_true rfl) ?_)
  intro w37 hU38 hz39 hB40
  replace hB40 : Blk w37 g31 64 [(.bool gr_25), (.slice Ar_25 nr_25 cr_25), (.slice Arv_25 nrv_25 crv_25)] := hB40
  refine sEv (v := (.int .i64 (xe_25))) (rfl) rfl rfl ?_
  refine sDone ?_
  refine xN (hK14 _ _ ?_)
  refine wp_seq_k fun K41 hK41 => ?_
  refine wp_region_lit ?_
  refine sEv (v := (.agg #[(.bool gr_25), (.slice Ar_25 nr_25 cr_25), (.slice Arv_25 nrv_25 crv_25)])) (evLoadAB [(.bool gr_25), (.slice Ar_25 nr_25 cr_25), (.slice Arv_25 nrv_25 crv_25)] agg64 sz64 rfl hB40 rfl) rfl rfl ?_
  have hB42 := (hB13.frm ((((Frm.of_ext (G := fun b => (b = g31)) hE21).trans (Frm.of_ext (G := fun b => (b = g31)) hE27)).trans (Frm.of_ext (G := fun b => (b = g31)) hE34)).trans hU38) q1)
  refine sOp rfl (oStore [(.bool gr_25), (.slice Ar_25 nr_25 cr_25), (.slice Arv_25 nrv_25 crv_25)] rfl rfl rfl sz64 rfl hB42 (Nat.le_of_ble_eq_true rfl) ?_)
  intro w43 hU44 hz45 hB46
  replace hB46 : Blk w43 g8 64 [(.bool gr_25), (.slice Ar_25 nr_25 cr_25), (.slice Arv_25 nrv_25 crv_25)] := hB46
  refine sDone ?_
  refine xN (hK41 _ _ ?_)
  refine wp_ret ?_
  refine ret1 (.agg #[(.bool gr_25), (.slice Ar_25 nr_25 cr_25), (.slice Arv_25 nrv_25 crv_25)]) Try.results52 (resB [(.bool gr_25), (.slice Ar_25 nr_25 cr_25), (.slice Arv_25 nrv_25 crv_25)] agg64 sz64 rfl hB46) ?_
  have h47 := (hr_25.frmB (((Frm.of_ext (G := fun b => (b = g31) ∨ (b = g8)) hE34).trans (hU38.mono (G' := fun b => (b = g31) ∨ (b = g8)) fun _ _ h => .inl h)).trans (hU44.mono (G' := fun b => (b = g31) ∨ (b = g8)) fun _ _ h => .inr h)) q3)
  have h48 := (hrv_25.frmB (((Frm.of_ext (G := fun b => (b = g31) ∨ (b = g8)) hE34).trans (hU38.mono (G' := fun b => (b = g31) ∨ (b = g8)) fun _ _ h => .inl h)).trans (hU44.mono (G' := fun b => (b = g31) ∨ (b = g8)) fun _ _ h => .inr h)) q3)
  exact ⟨(gr_25), Ar_25, nr_25, cr_25, dr_25, Arv_25, nrv_25, crv_25, drv_25, rfl, (Frm.mono (((((((Frm.of_ext (G := fun b => (b = g31) ∨ (b = g8)) hE5).trans (Frm.of_ext (G := fun b => (b = g31) ∨ (b = g8)) hE11)).trans (Frm.of_ext (G := fun b => (b = g31) ∨ (b = g8)) hE21)).trans (Frm.of_ext (G := fun b => (b = g31) ∨ (b = g8)) hE27)).trans (Frm.of_ext (G := fun b => (b = g31) ∨ (b = g8)) hE34)).trans (hU38.mono (G' := fun b => (b = g31) ∨ (b = g8)) fun _ _ h => .inl h)).trans (hU44.mono (G' := fun b => (b = g31) ∨ (b = g8)) fun _ _ h => .inr h)) q4), (NatR.sub h47 q5), (NatR.sub h48 q5), (evalrat_end e_19 po_19 x_25 p_25), p_25, (by omega), (by omega)⟩

end Go.Proofs.Ytppegjbdencefaa
