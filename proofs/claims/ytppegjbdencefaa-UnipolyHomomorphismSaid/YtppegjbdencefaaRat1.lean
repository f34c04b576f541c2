/-
  Walks of package rational: parts, lowest terms, comparison, sums, products.
-/
import Derived.Test.YtppegjbdencefaaDiv3
import Derived.Test.YtppegjbdencefaaRatMath
namespace Go.Proofs.Ytppegjbdencefaa
open Go.RowKit Go.Gx
theorem rational_parts {w : World} {ga : Bool} {Sa : Nat → Prop} {Aa : Option Addr} {na ca : Nat} {da : List Nat} {Sav : Nat → Prop} {Aav : Option Addr} {nav cav : Nat} {dav : List Nat} (ha : NatR w Sa Aa na ca da) (hav : NatR w Sav Aav nav cav dav)  : Calls Try.prog 92 #[(.agg #[(.bool ga), (.slice Aa na ca), (.slice Aav nav cav)])] w (Ret fun v w' => ∃ (gn : Bool) (An : Option Addr) (nn : Nat) (cn : Nat) (dn : List Nat) (gd : Bool) (Ad : Option Addr) (nd : Nat) (cd : Nat) (dd : List Nat), v = (.tuple #[(.agg #[(.bool gn), (.slice An nn cn)]), (.agg #[(.bool gd), (.slice Ad nd cd)])]) ∧ Ext w w' ∧ NatR w' (fun _ => True) An nn cn dn ∧ NatR w' (fun _ => True) Ad nd cd dd ∧ (zval gn dn = rnum (zval ga da) (val dav)) ∧ (zval gd dd = (rden (val dav) : Int)) ∧ (nn ≤ na) ∧ (nd ≤ nav + 2)) := by
  have la := ha.len; have ka := ha.cap; have ma := ha.max
  replace ha := ha.low
  have lav := hav.len; have kav := hav.cap; have mav := hav.max
  replace hav := hav.low
  refine enter Try.func92 rfl Try.ntmps92 rfl ?_
  refine wp_seq_k fun K1 hK1 => ?_
  refine wp_region_lit ?_
  refine sOp rfl (oBox [(.bool ga), (.slice Aa na ca), (.slice Aav nav cav)] rfl rfl ?_)
  intro g2 w3 hg4 hE5 hz6 hB7
  refine sOp rfl (oAlloc [(.bool false), (.slice none 0 0)] zero46 rfl ?_)
  intro g8 w9 hg10 hE11 hz12 hB13
  refine sOp rfl (oAlloc [(.bool false), (.slice none 0 0)] zero46 rfl ?_)
  intro g14 w15 hg16 hE17 hz18 hB19
  refine sDone ?_
  refine xN (hK1 _ _ ?_)
  refine wp_seq_k fun K20 hK20 => ?_
  refine wp_seq_k fun K21 hK21 => ?_
  refine wp_region_lit ?_
  refine sEv (v := (.pointer (some ⟨g2, 2, none⟩))) (evFA 2 fa64_1 rfl rfl) rfl rfl ?_
  have hB22 := (hB7.ext (hE11.trans hE17))
  refine sEv (v := (.slice Aav nav cav)) (evLoadB one44 rfl hB22 rfl) rfl rfl ?_
  have h23 := (hav.ext ((hE5.trans hE11).trans hE17))
  refine sOp rfl (oCall rfl call94 (natural_IsZero h23) rfl ?_)
  rintro _ w25 ⟨gr_24, rfl, hE26, e_24⟩
  have hz27 := hE26.size
  refine sDone ?_
  refine xN (hK21 _ _ ?_)
  refine cB gr_24 rfl ?_ ?_
  · intro hc28
    subst hc28
    refine wp_seq_k fun K29 hK29 => ?_
    refine wp_region_lit ?_
    refine sEv (v := (.agg #[(.bool false), (.slice none 0 0)])) (evK (by kernel_rfl)) rfl rfl ?_
    refine sOp rfl (oCall rfl call48 (integer_Of (by omega)) rfl ?_)
    rintro _ w31 ⟨gr_30, Ar_30, nr_30, cr_30, dr_30, rfl, hE32, hr_30, v_30, cn_30, le_30⟩
    have hz33 := hE32.size
    have lr_30 := hr_30.len; have kr_30 := hr_30.cap; have mr_30 := hr_30.max
    have hB35 := (hB13.ext ((hE17.trans hE26).trans hE32))
    refine sOp rfl (oStore [(.bool false), (.slice none 0 0)] rfl rfl rfl sz46 rfl hB35 (Nat.le_of_ble_eq_true rfl) ?_)
    intro w36 hU37 hz38 hB39
    replace hB39 : Blk w36 g8 46 [(.bool false), (.slice none 0 0)] := hB39
    have hB40 := (hB19.frm (((Frm.of_ext (G := fun b => (b = g8)) hE26).trans (Frm.of_ext (G := fun b => (b = g8)) hE32)).trans hU37) q1)
    refine sOp rfl (oStore [(.bool gr_30), (.slice Ar_30 nr_30 cr_30)] rfl rfl rfl sz46 rfl hB40 (Nat.le_of_ble_eq_true rfl) ?_)
    intro w41 hU42 hz43 hB44
    replace hB44 : Blk w41 g14 46 [(.bool gr_30), (.slice Ar_30 nr_30 cr_30)] := hB44
    refine sDone ?_
    refine xN (hK29 _ _ ?_)
    refine wp_ret (xR ?_)
    have hB45 := (hB39.frm hU42 q1)
    refine ret2 (.agg #[(.bool false), (.slice none 0 0)]) (.agg #[(.bool gr_30), (.slice Ar_30 nr_30 cr_30)]) Try.results92 (resB [(.bool false), (.slice none 0 0)] agg46 sz46 rfl hB45) (resB [(.bool gr_30), (.slice Ar_30 nr_30 cr_30)] agg46 sz46 rfl hB44) ?_
    have hz0 : val dav = 0 := by simpa using e_24.symm
    have h46 := (hr_30.frmB ((hU37.mono (G' := fun b => (b = g8) ∨ (b = g14)) fun _ _ h => .inl h).trans (hU42.mono (G' := fun b => (b = g8) ∨ (b = g14)) fun _ _ h => .inr h)) q3)
    exact ⟨false, none, 0, 0, ([]), gr_30, Ar_30, nr_30, cr_30, dr_30, rfl, (Frm.mono (((((((Frm.of_ext (G := fun b => (b = g8) ∨ (b = g14)) hE5).trans (Frm.of_ext (G := fun b => (b = g8) ∨ (b = g14)) hE11)).trans (Frm.of_ext (G := fun b => (b = g8) ∨ (b = g14)) hE17)).trans (Frm.of_ext (G := fun b => (b = g8) ∨ (b = g14)) hE26)).trans (Frm.of_ext (G := fun b => (b = g8) ∨ (b = g14)) hE32)).trans (hU37.mono (G' := fun b => (b = g8) ∨ (b = g14)) fun _ _ h => .inl h)).trans (hU42.mono (G' := fun b => (b = g8) ∨ (b = g14)) fun _ _ h => .inr h)) q4), NatR.nil, (NatR.sub h46 (fun _ _ _ => trivial)), (by rw [zval_nil]; unfold rnum; rw [if_pos hz0]), (by rw [v_30]; unfold rden; rw [if_pos hz0]; rfl), (by omega), (by omega)⟩
  · intro hc28
    subst hc28
    refine wp_skip ?_
    refine xN (hK20 _ _ ?_)
    refine wp_seq_k fun K47 hK47 => ?_
    refine dBegin (fun b => b = g14 ∨ b = g8) mixed ?_
    intro w48 hE49 hz50
    refine dEv 0 rfl (v := (.pointer (some ⟨g2, 0, none⟩))) (fun _ _ => evFA 0 fa64_0 rfl rfl) rfl rfl (by kernel_rfl) ?_
    have hB51 := (hB22.ext (hE26.trans hE49))
    refine dEv 1 rfl (v := (.agg #[(.bool ga), (.slice Aa na ca)])) (fun _ hf => evLoadAB [(.bool ga), (.slice Aa na ca)] agg46 sz46 rfl (hB51.frm hf q1) rfl) rfl rfl (by kernel_rfl) ?_
    refine dEv 2 rfl (v := (.pointer (some ⟨g2, 2, none⟩))) (fun _ _ => evFA 2 fa64_1 rfl rfl) rfl rfl (by kernel_rfl) ?_
    refine dEv 3 rfl (v := (.slice Aav nav cav)) (fun _ hf => evLoadB one44 rfl (hB51.frm hf q1) rfl) rfl rfl (by kernel_rfl) ?_
    refine dEv 4 rfl (v := (.agg #[(.bool false), (.slice Aav nav cav)])) (fun _ _ => evK (by kernel_rfl)) rfl rfl (by kernel_rfl) ?_
    have hB52 := (hB13.ext ((hE17.trans hE26).trans hE49))
    refine dOp 5 rfl rfl (by kernel_rfl) (oStore [(.bool ga), (.slice Aa na ca)] rfl rfl rfl sz46 rfl hB52 (Nat.le_of_ble_eq_true rfl) ?_)
    intro w53 hU54 hz55 hB56
    replace hB56 : Blk w53 g8 46 [(.bool ga), (.slice Aa na ca)] := hB56
    refine ⟨(hU54.mono q4), ?_⟩
    have hB57 := (hB19.frm (((Frm.of_ext (G := fun b => (b = g8)) hE26).trans (Frm.of_ext (G := fun b => (b = g8)) hE49)).trans hU54) q1)
    refine dOp 6 rfl rfl (by kernel_rfl) (oStore [(.bool false), (.slice Aav nav cav)] rfl rfl rfl sz46 rfl hB57 (Nat.le_of_ble_eq_true rfl) ?_)
    intro w58 hU59 hz60 hB61
    replace hB61 : Blk w58 g14 46 [(.bool false), (.slice Aav nav cav)] := hB61
    refine ⟨(hU59.mono q4), ?_⟩
    refine dDone (by kernel_rfl) ?_
    refine xN (hK47 _ _ ?_)
    refine wp_ret ?_
    have hB62 := (hB56.frm hU59 q1)
    refine ret2 (.agg #[(.bool ga), (.slice Aa na ca)]) (.agg #[(.bool false), (.slice Aav nav cav)]) Try.results92 (resB [(.bool ga), (.slice Aa na ca)] agg46 sz46 rfl hB62) (resB [(.bool false), (.slice Aav nav cav)] agg46 sz46 rfl hB61) ?_
    have hz0 : val dav ≠ 0 := by simpa using e_24.symm
    have h63 := (ha.frmB (((((((Frm.of_ext (G := fun b => (b = g8) ∨ (b = g14)) hE5).trans (Frm.of_ext (G := fun b => (b = g8) ∨ (b = g14)) hE11)).trans (Frm.of_ext (G := fun b => (b = g8) ∨ (b = g14)) hE17)).trans (Frm.of_ext (G := fun b => (b = g8) ∨ (b = g14)) hE26)).trans (Frm.of_ext (G := fun b => (b = g8) ∨ (b = g14)) hE49)).trans (hU54.mono (G' := fun b => (b = g8) ∨ (b = g14)) fun _ _ h => .inl h)).trans (hU59.mono (G' := fun b => (b = g8) ∨ (b = g14)) fun _ _ h => .inr h)) q3)
    have h64 := (h23.frmB ((((Frm.of_ext (G := fun b => (b = g8) ∨ (b = g14)) hE26).trans (Frm.of_ext (G := fun b => (b = g8) ∨ (b = g14)) hE49)).trans (hU54.mono (G' := fun b => (b = g8) ∨ (b = g14)) fun _ _ h => .inl h)).trans (hU59.mono (G' := fun b => (b = g8) ∨ (b = g14)) fun _ _ h => .inr h)) q3)
    exact ⟨ga, Aa, na, ca, da, false, Aav, nav, cav, dav, rfl, (Frm.mono (((((((Frm.of_ext (G := fun b => (b = g8) ∨ (b = g14)) hE5).trans (Frm.of_ext (G := fun b => (b = g8) ∨ (b = g14)) hE11)).trans (Frm.of_ext (G := fun b => (b = g8) ∨ (b = g14)) hE17)).trans (Frm.of_ext (G := fun b => (b = g8) ∨ (b = g14)) hE26)).trans (Frm.of_ext (G := fun b => (b = g8) ∨ (b = g14)) hE49)).trans (hU54.mono (G' := fun b => (b = g8) ∨ (b = g14)) fun _ _ h => .inl h)).trans (hU59.mono (G' := fun b => (b = g8) ∨ (b = g14)) fun _ _ h => .inr h)) q4), (NatR.sub h63 (fun _ _ _ => trivial)), (NatR.sub h64 (fun _ _ _ => trivial)), (by unfold rnum; rw [if_neg hz0]), (by rw [zval_false]; unfold rden; rw [if_neg hz0]), (by omega), (by omega)⟩

theorem rational_reduce {w : World} {gn : Bool} {Sn : Nat → Prop} {An : Option Addr} {nn cn : Nat} {dn : List Nat} {gd : Bool} {Sd : Nat → Prop} {Ad : Option Addr} {nd cd : Nat} {dd : List Nat} (hn : NatR w Sn An nn cn dn) (hd : NatR w Sd Ad nd cd dd) (hnn : nn ≤ 34359738368) (hnd : nd ≤ 34359738368) (hd0 : 0 < zval gd dd) : Calls Try.prog 93 #[(.agg #[(.bool gn), (.slice An nn cn)]), (.agg #[(.bool gd), (.slice Ad nd cd)])] w (Ret fun v w' => ∃ (gr : Bool) (Ar : Option Addr) (nr : Nat) (cr : Nat) (dr : List Nat) (Arv : Option Addr) (nrv : Nat) (crv : Nat) (drv : List Nat), v = (.agg #[(.bool gr), (.slice Ar nr cr), (.slice Arv nrv crv)]) ∧ Ext w w' ∧ NatR w' (fun b => w.heap.size ≤ b) Ar nr cr dr ∧ NatR w' (fun b => w.heap.size ≤ b) Arv nrv crv drv ∧ (zval gr dr * zval gd dd = zval gn dn * (val drv : Int)) ∧ (0 < val drv) ∧ (ICan gr dr) ∧ (Canon isZ drv) ∧ (Nat.gcd (val dr) (val drv) = 1) ∧ (nr ≤ nn + 1) ∧ (nrv ≤ nd + 1)) := by
  have ln := hn.len; have kn := hn.cap; have mn := hn.max
  replace hn := hn.low
  have ld := hd.len; have kd := hd.cap; have md := hd.max
  replace hd := hd.low
  refine enter Try.func93 rfl Try.ntmps93 rfl ?_
  refine wp_seq_k fun K1 hK1 => ?_
  refine wp_region_lit ?_
  refine sOp rfl (oBox [(.bool gn), (.slice An nn cn)] rfl rfl ?_)
  intro g2 w3 hg4 hE5 hz6 hB7
  refine sOp rfl (oBox [(.bool gd), (.slice Ad nd cd)] rfl rfl ?_)
  intro g8 w9 hg10 hE11 hz12 hB13
  refine sOp rfl (oAlloc [(.bool false), (.slice none 0 0), (.slice none 0 0)] zero64 rfl ?_)
  intro g14 w15 hg16 hE17 hz18 hB19
  refine sDone ?_
  refine xN (hK1 _ _ ?_)
  refine wp_seq_k fun K20 hK20 => ?_
  refine wp_region_lit ?_
  have hB21 := (hB7.ext (hE11.trans hE17))
  refine sEv (v := (.agg #[(.bool gn), (.slice An nn cn)])) (evLoadAB [(.bool gn), (.slice An nn cn)] agg46 sz46 rfl hB21 rfl) rfl rfl ?_
  have hB22 := (hB13.ext hE17)
  refine sEv (v := (.agg #[(.bool gd), (.slice Ad nd cd)])) (evLoadAB [(.bool gd), (.slice Ad nd cd)] agg46 sz46 rfl hB22 rfl) rfl rfl ?_
  have h23 := (hn.ext ((hE5.trans hE11).trans hE17))
  have h24 := (hd.ext ((hE5.trans hE11).trans hE17))
  refine sOp rfl (oCall rfl call114 (division_Gcd h23 h24 (by omega) (by omega)) rfl ?_)
  rintro _ w26 ⟨gr_25, Ar_25, nr_25, cr_25, dr_25, rfl, hE27, hr_25, v_25, cn_25, le_25⟩
  have hz28 := hE27.size
  have lr_25 := hr_25.len; have kr_25 := hr_25.cap; have mr_25 := hr_25.max
  have hgp : 0 < Nat.gcd (val dn) (val dd) := Nat.gcd_pos_of_pos_right _ (by have h := natAbs_val gd dd; omega)
  have hg0 : zval gr_25 dr_25 ≠ 0 := by rw [v_25]; omega
  refine sOp rfl (oAlloc [(.bool false), (.slice none 0 0)] zero46 rfl ?_)
  intro g30 w31 hg32 hE33 hz34 hB35
  refine sOp rfl (oStore [(.bool gr_25), (.slice Ar_25 nr_25 cr_25)] rfl rfl rfl sz46 rfl hB35 (Nat.le_of_ble_eq_true rfl) ?_)
  intro w36 hU37 hz38 hB39
  replace hB39 : Blk w36 g30 46 [(.bool gr_25), (.slice Ar_25 nr_25 cr_25)] := hB39
  refine sDone ?_
  refine xN (hK20 _ _ ?_)
  refine wp_seq_k fun K40 hK40 => ?_
  refine wp_region_lit ?_
  have hB41 := (hB21.frm (((Frm.of_ext (G := fun b => (b = g30)) hE27).trans (Frm.of_ext (G := fun b => (b = g30)) hE33)).trans hU37) q1)
  refine sEv (v := (.agg #[(.bool gn), (.slice An nn cn)])) (evLoadAB [(.bool gn), (.slice An nn cn)] agg46 sz46 rfl hB41 rfl) rfl rfl ?_
  refine sEv (v := (.agg #[(.bool gr_25), (.slice Ar_25 nr_25 cr_25)])) (evLoadAB [(.bool gr_25), (.slice Ar_25 nr_25 cr_25)] agg46 sz46 rfl hB39 rfl) rfl rfl ?_
  have h42 := (h23.frmB (((Frm.of_ext (G := fun b => (b = g30)) hE27).trans (Frm.of_ext (G := fun b => (b = g30)) hE33)).trans hU37) q3)
  have h43 := (hr_25.frmB ((Frm.of_ext (G := fun b => (b = g30)) hE33).trans hU37) q3)
  refine sOp rfl (oCall rfl call115 (division_Quo h42 h43 (by omega) (by omega) (by omega)) rfl ?_)
  rintro _ w45 ⟨gq_44, Aq_44, nq_44, cq_44, dq_44, gr_44, Ar_44, nr_44, cr_44, dr_44, xe_44, rfl, hE46, hq_44, hr_44, v_44, m_44, cnq_44, cnr_44, ok_44, leq_44, ler_44⟩
  have hz47 := hE46.size
  have lq_44 := hq_44.len; have kq_44 := hq_44.cap; have mq_44 := hq_44.max
  have lr_44 := hr_44.len; have kr_44 := hr_44.cap; have mr_44 := hr_44.max
  refine sEv (v := (.tuple #[(.agg #[(.bool gq_44), (.slice Aq_44 nq_44 cq_44)]), (.agg #[(.bool gr_44), (.slice Ar_44 nr_44 cr_44)]), (.int .i64 (xe_44))])) (rfl) rfl rfl ?_
  refine sEv (v := (.agg #[(.bool gq_44), (.slice Aq_44 nq_44 cq_44)])) (rfl) rfl rfl ?_
  refine sEv (v := (.agg #[(.bool gr_44), (.slice Ar_44 nr_44 cr_44)])) (rfl) rfl rfl ?_
  refine sEv (v := (.int .i64 (xe_44))) (rfl) rfl rfl ?_
  have hB50 := (hB41.ext hE46)
  refine sOp rfl (oStore [(.bool gq_44), (.slice Aq_44 nq_44 cq_44)] rfl rfl rfl sz46 rfl hB50 (Nat.le_of_ble_eq_true rfl) ?_)
  intro w51 hU52 hz53 hB54
  replace hB54 : Blk w51 g2 46 [(.bool gq_44), (.slice Aq_44 nq_44 cq_44)] := hB54
  refine sDone ?_
  refine xN (hK40 _ _ ?_)
  refine wp_seq_k fun K55 hK55 => ?_
  refine wp_region_lit ?_
  have hB56 := (hB22.frm (((((Frm.of_ext (G := fun b => (b = g30) ∨ (b = g2)) hE27).trans (Frm.of_ext (G := fun b => (b = g30) ∨ (b = g2)) hE33)).trans (hU37.mono (G' := fun b => (b = g30) ∨ (b = g2)) fun _ _ h => .inl h)).trans (Frm.of_ext (G := fun b => (b = g30) ∨ (b = g2)) hE46)).trans (hU52.mono (G' := fun b => (b = g30) ∨ (b = g2)) fun _ _ h => .inr h)) q1)
  refine sEv (v := (.agg #[(.bool gd), (.slice Ad nd cd)])) (evLoadAB [(.bool gd), (.slice Ad nd cd)] agg46 sz46 rfl hB56 rfl) rfl rfl ?_
  have hB57 := (hB39.frm ((Frm.of_ext (G := fun b => (b = g2)) hE46).trans hU52) q1)
  refine sEv (v := (.agg #[(.bool gr_25), (.slice Ar_25 nr_25 cr_25)])) (evLoadAB [(.bool gr_25), (.slice Ar_25 nr_25 cr_25)] agg46 sz46 rfl hB57 rfl) rfl rfl ?_
  have h58 := (h24.frmB (((((Frm.of_ext (G := fun b => (b = g30) ∨ (b = g2)) hE27).trans (Frm.of_ext (G := fun b => (b = g30) ∨ (b = g2)) hE33)).trans (hU37.mono (G' := fun b => (b = g30) ∨ (b = g2)) fun _ _ h => .inl h)).trans (Frm.of_ext (G := fun b => (b = g30) ∨ (b = g2)) hE46)).trans (hU52.mono (G' := fun b => (b = g30) ∨ (b = g2)) fun _ _ h => .inr h)) q3)
  have h59 := (h43.frmB ((Frm.of_ext (G := fun b => (b = g2)) hE46).trans hU52) q3)
  refine sOp rfl (oCall rfl call115 (division_Quo h58 h59 (by omega) (by omega) (by omega)) rfl ?_)
  rintro _ w61 ⟨gq_60, Aq_60, nq_60, cq_60, dq_60, gr_60, Ar_60, nr_60, cr_60, dr_60, xe_60, rfl, hE62, hq_60, hr_60, v_60, m_60, cnq_60, cnr_60, ok_60, leq_60, ler_60⟩
  have hz63 := hE62.size
  have lq_60 := hq_60.len; have kq_60 := hq_60.cap; have mq_60 := hq_60.max
  have lr_60 := hr_60.len; have kr_60 := hr_60.cap; have mr_60 := hr_60.max
  refine sEv (v := (.tuple #[(.agg #[(.bool gq_60), (.slice Aq_60 nq_60 cq_60)]), (.agg #[(.bool gr_60), (.slice Ar_60 nr_60 cr_60)]), (.int .i64 (xe_60))])) (rfl) rfl rfl ?_
  refine sEv (v := (.agg #[(.bool gq_60), (.slice Aq_60 nq_60 cq_60)])) (rfl) rfl rfl ?_
  refine sEv (v := (.agg #[(.bool gr_60), (.slice Ar_60 nr_60 cr_60)])) (rfl) rfl rfl ?_
  refine sEv (v := (.int .i64 (xe_60))) (rfl) rfl rfl ?_
  have hB66 := (hB56.ext hE62)
  refine sOp rfl (oStore [(.bool gq_60), (.slice Aq_60 nq_60 cq_60)] rfl rfl rfl sz46 rfl hB66 (Nat.le_of_ble_eq_true rfl) ?_)
  intro w67 hU68 hz69 hB70
  replace hB70 : Blk w67 g8 46 [(.bool gq_60), (.slice Aq_60 nq_60 cq_60)] := hB70
  refine sDone ?_
  refine xN (hK55 _ _ ?_)
  refine wp_seq_k fun K71 hK71 => ?_
  refine wp_region_lit ?_
  have hB72 := (hB54.frm ((Frm.of_ext (G := fun b => (b = g8)) hE62).trans hU68) q1)
  refine sEv (v := (.agg #[(.bool gq_44), (.slice Aq_44 nq_44 cq_44)])) (evLoadAB [(.bool gq_44), (.slice Aq_44 nq_44 cq_44)] agg46 sz46 rfl hB72 rfl) rfl rfl ?_
  refine sEv (v := (.pointer (some ⟨g8, 1, none⟩))) (evFA 1 fa46_1 rfl rfl) rfl rfl ?_
  refine sEv (v := (.slice Aq_60 nq_60 cq_60)) (evLoadB one44 rfl hB70 rfl) rfl rfl ?_
  refine sEv (v := (.agg #[(.bool gq_44), (.slice Aq_44 nq_44 cq_44), (.slice Aq_60 nq_60 cq_60)])) (evK (by kernel_rfl)) rfl rfl ?_
  have hB73 := (hB19.frm (((((((Frm.of_ext (G := fun b => (b = g30) ∨ (b = g2) ∨ (b = g8)) hE27).trans (Frm.of_ext (G := fun b => (b = g30) ∨ (b = g2) ∨ (b = g8)) hE33)).trans (hU37.mono (G' := fun b => (b = g30) ∨ (b = g2) ∨ (b = g8)) fun _ _ h => .inl h)).trans (Frm.of_ext (G := fun b => (b = g30) ∨ (b = g2) ∨ (b = g8)) hE46)).trans (hU52.mono (G' := fun b => (b = g30) ∨ (b = g2) ∨ (b = g8)) fun _ _ h => .inr (.inl h))).trans (Frm.of_ext (G := fun b => (b = g30) ∨ (b = g2) ∨ (b = g8)) hE62)).trans (hU68.mono (G' := fun b => (b = g30) ∨ (b = g2) ∨ (b = g8)) fun _ _ h => .inr (.inr h))) q1)
  refine sOp rfl (oStore [(.bool gq_44), (.slice Aq_44 nq_44 cq_44), (.slice Aq_60 nq_60 cq_60)] rfl rfl rfl sz64 rfl hB73 (Nat.le_of_ble_eq_true rfl) ?_)
  intro w74 hU75 hz76 hB77
  replace hB77 : Blk w74 g14 64 [(.bool gq_44), (.slice Aq_44 nq_44 cq_44), (.slice Aq_60 nq_60 cq_60)] := hB77
  refine sDone ?_
  refine xN (hK71 _ _ ?_)
  refine wp_ret ?_
  refine ret1 (.agg #[(.bool gq_44), (.slice Aq_44 nq_44 cq_44), (.slice Aq_60 nq_60 cq_60)]) Try.results93 (resB [(.bool gq_44), (.slice Aq_44 nq_44 cq_44), (.slice Aq_60 nq_60 cq_60)] agg64 sz64 rfl hB77) ?_
  have hrm := reduce_math (natAbs_val gn dn) (natAbs_val gd dd) v_25 hd0 v_44 v_60
  have hvv : (val dq_60 : Int) = zval gq_60 dq_60 := by have h := natAbs_val gq_60 dq_60; have h2 := hrm.2.1; omega
  have h78 := (hq_44.frmB ((((hU52.mono (G' := fun b => (b = g2) ∨ (b = g8) ∨ (b = g14)) fun _ _ h => .inl h).trans (Frm.of_ext (G := fun b => (b = g2) ∨ (b = g8) ∨ (b = g14)) hE62)).trans (hU68.mono (G' := fun b => (b = g2) ∨ (b = g8) ∨ (b = g14)) fun _ _ h => .inr (.inl h))).trans (hU75.mono (G' := fun b => (b = g2) ∨ (b = g8) ∨ (b = g14)) fun _ _ h => .inr (.inr h))) q3)
  have h79 := (hq_60.frmB ((hU68.mono (G' := fun b => (b = g8) ∨ (b = g14)) fun _ _ h => .inl h).trans (hU75.mono (G' := fun b => (b = g8) ∨ (b = g14)) fun _ _ h => .inr h)) q3)
  exact ⟨(gq_44), Aq_44, nq_44, cq_44, dq_44, Aq_60, nq_60, cq_60, dq_60, rfl, (Frm.mono (((((((((((Frm.of_ext (G := fun b => (b = g30) ∨ (b = g2) ∨ (b = g8) ∨ (b = g14)) hE5).trans (Frm.of_ext (G := fun b => (b = g30) ∨ (b = g2) ∨ (b = g8) ∨ (b = g14)) hE11)).trans (Frm.of_ext (G := fun b => (b = g30) ∨ (b = g2) ∨ (b = g8) ∨ (b = g14)) hE17)).trans (Frm.of_ext (G := fun b => (b = g30) ∨ (b = g2) ∨ (b = g8) ∨ (b = g14)) hE27)).trans (Frm.of_ext (G := fun b => (b = g30) ∨ (b = g2) ∨ (b = g8) ∨ (b = g14)) hE33)).trans (hU37.mono (G' := fun b => (b = g30) ∨ (b = g2) ∨ (b = g8) ∨ (b = g14)) fun _ _ h => .inl h)).trans (Frm.of_ext (G := fun b => (b = g30) ∨ (b = g2) ∨ (b = g8) ∨ (b = g14)) hE46)).trans (hU52.mono (G' := fun b => (b = g30) ∨ (b = g2) ∨ (b = g8) ∨ (b = g14)) fun _ _ h => .inr (.inl h))).trans (Frm.of_ext (G := fun b => (b = g30) ∨ (b = g2) ∨ (b = g8) ∨ (b = g14)) hE62)).trans (hU68.mono (G' := fun b => (b = g30) ∨ (b = g2) ∨ (b = g8) ∨ (b = g14)) fun _ _ h => .inr (.inr (.inl h)))).trans (hU75.mono (G' := fun b => (b = g30) ∨ (b = g2) ∨ (b = g8) ∨ (b = g14)) fun _ _ h => .inr (.inr (.inr h)))) q4), (NatR.sub h78 q5), (NatR.sub h79 q5), (by rw [hvv]; exact hrm.1), (by have h := hrm.2.1; omega), cnq_44, cnq_60.1, (by rw [natAbs_val gq_44 dq_44, natAbs_val gq_60 dq_60]; exact hrm.2.2), (by omega), (by omega)⟩

theorem rational_From {w : World} {ga : Bool} {Sa : Nat → Prop} {Aa : Option Addr} {na ca : Nat} {da : List Nat} (ha : NatR w Sa Aa na ca da) (hna : na ≤ 34359738368) : Calls Try.prog 59 #[(.agg #[(.bool ga), (.slice Aa na ca)])] w (Ret fun v w' => ∃ (gr : Bool) (Ar : Option Addr) (nr : Nat) (cr : Nat) (dr : List Nat) (Arv : Option Addr) (nrv : Nat) (crv : Nat) (drv : List Nat), v = (.agg #[(.bool gr), (.slice Ar nr cr), (.slice Arv nrv crv)]) ∧ Ext w w' ∧ NatR w' (fun b => w.heap.size ≤ b) Ar nr cr dr ∧ NatR w' (fun b => w.heap.size ≤ b) Arv nrv crv drv ∧ (zval gr dr = zval ga da) ∧ (val drv = 1) ∧ (ICan gr dr) ∧ (nr ≤ na) ∧ (nrv ≤ 2)) := by
  have la := ha.len; have ka := ha.cap; have ma := ha.max
  replace ha := ha.low
  refine enter Try.func59 rfl Try.ntmps59 rfl ?_
  refine wp_seq_k fun K1 hK1 => ?_
  refine wp_region_lit ?_
  refine sOp rfl (oBox [(.bool ga), (.slice Aa na ca)] rfl rfl ?_)
  intro g2 w3 hg4 hE5 hz6 hB7
  refine sOp rfl (oAlloc [(.bool false), (.slice none 0 0), (.slice none 0 0)] zero64 rfl ?_)
  intro g8 w9 hg10 hE11 hz12 hB13
  refine sDone ?_
  refine xN (hK1 _ _ ?_)
  refine wp_seq_k fun K14 hK14 => ?_
  refine wp_region_lit ?_
  have hB15 := (hB7.ext hE11)
  refine sEv (v := (.agg #[(.bool ga), (.slice Aa na ca)])) (evLoadAB [(.bool ga), (.slice Aa na ca)] agg46 sz46 rfl hB15 rfl) rfl rfl ?_
  have h16 := (ha.ext (hE5.trans hE11))
  refine sOp rfl (oCall rfl call73 (integer_Normal h16 (by omega)) rfl ?_)
  rintro _ w18 ⟨gr_17, Ar_17, nr_17, cr_17, dr_17, rfl, hE19, hr_17, v_17, cn_17, le_17⟩
  have hz20 := hE19.size
  have lr_17 := hr_17.len; have kr_17 := hr_17.cap; have mr_17 := hr_17.max
  refine sOp rfl (oCall rfl call83 (natural_Of (x1 := 1) (by omega)) rfl ?_)
  rintro _ w23 ⟨Ar_22, nr_22, cr_22, dr_22, rfl, hE24, hr_22, v_22, cn_22, le_22⟩
  have hz25 := hE24.size
  have lr_22 := hr_22.len; have kr_22 := hr_22.cap; have mr_22 := hr_22.max
  refine sEv (v := (.agg #[(.bool gr_17), (.slice Ar_17 nr_17 cr_17), (.slice Ar_22 nr_22 cr_22)])) (evK (by kernel_rfl)) rfl rfl ?_
  have hB27 := (hB13.ext (hE19.trans hE24))
  refine sOp rfl (oStore [(.bool gr_17), (.slice Ar_17 nr_17 cr_17), (.slice Ar_22 nr_22 cr_22)] rfl rfl rfl sz64 rfl hB27 (Nat.le_of_ble_eq_true rfl) ?_)
  intro w28 hU29 hz30 hB31
  replace hB31 : Blk w28 g8 64 [(.bool gr_17), (.slice Ar_17 nr_17 cr_17), (.slice Ar_22 nr_22 cr_22)] := hB31
  refine sDone ?_
  refine xN (hK14 _ _ ?_)
  refine wp_ret ?_
  refine ret1 (.agg #[(.bool gr_17), (.slice Ar_17 nr_17 cr_17), (.slice Ar_22 nr_22 cr_22)]) Try.results59 (resB [(.bool gr_17), (.slice Ar_17 nr_17 cr_17), (.slice Ar_22 nr_22 cr_22)] agg64 sz64 rfl hB31) ?_
  have h32 := (hr_17.frmB ((Frm.of_ext (G := fun b => (b = g8)) hE24).trans hU29) q3)
  have h33 := (hr_22.frmB hU29 q3)
  exact ⟨(gr_17), Ar_17, nr_17, cr_17, dr_17, Ar_22, nr_22, cr_22, dr_22, rfl, (Frm.mono (((((Frm.of_ext (G := fun b => (b = g8)) hE5).trans (Frm.of_ext (G := fun b => (b = g8)) hE11)).trans (Frm.of_ext (G := fun b => (b = g8)) hE19)).trans (Frm.of_ext (G := fun b => (b = g8)) hE24)).trans hU29) q4), (NatR.sub h32 q5), (NatR.sub h33 q5), v_17, v_22, cn_17, (by omega), (by omega)⟩

theorem rational_Make {w : World} {gn : Bool} {Sn : Nat → Prop} {An : Option Addr} {nn cn : Nat} {dn : List Nat} {gd : Bool} {Sd : Nat → Prop} {Ad : Option Addr} {nd cd : Nat} {dd : List Nat} (hn : NatR w Sn An nn cn dn) (hd : NatR w Sd Ad nd cd dd) (hnn : nn ≤ 34359738368) (hnd : nd ≤ 34359738368) (hd0 : zval gd dd ≠ 0) : Calls Try.prog 85 #[(.agg #[(.bool gn), (.slice An nn cn)]), (.agg #[(.bool gd), (.slice Ad nd cd)])] w (Ret fun v w' => ∃ (gr : Bool) (Ar : Option Addr) (nr : Nat) (cr : Nat) (dr : List Nat) (Arv : Option Addr) (nrv : Nat) (crv : Nat) (drv : List Nat) (xe : Int), v = (.tuple #[(.agg #[(.bool gr), (.slice Ar nr cr), (.slice Arv nrv crv)]), (.int .i64 (xe))]) ∧ Ext w w' ∧ NatR w' (fun b => w.heap.size ≤ b) Ar nr cr dr ∧ NatR w' (fun b => w.heap.size ≤ b) Arv nrv crv drv ∧ (zval gr dr * zval gd dd = zval gn dn * (val drv : Int)) ∧ (0 < val drv) ∧ (ICan gr dr) ∧ (Canon isZ drv) ∧ (Nat.gcd (val dr) (val drv) = 1) ∧ (xe = 0) ∧ (nr ≤ nn + 1) ∧ (nrv ≤ nd + 1)) := by
  have ln := hn.len; have kn := hn.cap; have mn := hn.max
  replace hn := hn.low
  have ld := hd.len; have kd := hd.cap; have md := hd.max
  replace hd := hd.low
  refine enter Try.func85 rfl Try.ntmps85 rfl ?_
  refine wp_seq_k fun K1 hK1 => ?_
  refine wp_region_lit ?_
  refine sOp rfl (oBox [(.bool gn), (.slice An nn cn)] rfl rfl ?_)
  intro g2 w3 hg4 hE5 hz6 hB7
  refine sOp rfl (oBox [(.bool gd), (.slice Ad nd cd)] rfl rfl ?_)
  intro g8 w9 hg10 hE11 hz12 hB13
  refine sOp rfl (oAlloc [(.bool false), (.slice none 0 0), (.slice none 0 0)] zero64 rfl ?_)
  intro g14 w15 hg16 hE17 hz18 hB19
  refine sEv (v := (.int .i64 (0))) (rfl) rfl rfl ?_
  refine sDone ?_
  refine xN (hK1 _ _ ?_)
  refine wp_seq_k fun K20 hK20 => ?_
  refine wp_seq_k fun K21 hK21 => ?_
  refine wp_region_lit ?_
  have hB22 := (hB13.ext hE17)
  refine sEv (v := (.agg #[(.bool gd), (.slice Ad nd cd)])) (evLoadAB [(.bool gd), (.slice Ad nd cd)] agg46 sz46 rfl hB22 rfl) rfl rfl ?_
  have h23 := (hd.ext ((hE5.trans hE11).trans hE17))
  refine sOp rfl (oCall rfl call62 (integer_Sign h23) rfl ?_)
  rintro _ w25 ⟨xr_24, rfl, hE26, e_24⟩
  have hz27 := hE26.size
  refine sDone ?_
  refine xN (hK21 _ _ ?_)
  refine wp_block ?_
  refine wp_seq_k fun K28 hK28 => ?_
  refine wp_region_lit ?_
  refine sEv (v := (.bool false)) (evEql false rfl rfl (dF (by have h := (sign0_iff e_24).1; intro hh; exact hd0 (h hh)))) rfl rfl ?_
  refine sEv (v := (.bool false)) (rfl) rfl rfl ?_
  refine sDone ?_
  refine xN (hK28 _ _ ?_)
  refine cF rfl ?_
  refine wp_seq_k fun K29 hK29 => ?_
  refine wp_region_lit ?_
  by_cases hc30 : xr_24 = ((-1))
  · refine sEv (v := (.bool true)) (evEql true rfl rfl (dT hc30)) rfl rfl ?_
    refine sEv (v := (.bool true)) (rfl) rfl rfl ?_
    refine sDone ?_
    refine xN (hK29 _ _ ?_)
    refine cT rfl ?_
    refine wp_region_lit ?_
    have hB31 := (hB7.ext ((hE11.trans hE17).trans hE26))
    refine sEv (v := (.agg #[(.bool gn), (.slice An nn cn)])) (evLoadAB [(.bool gn), (.slice An nn cn)] agg46 sz46 rfl hB31 rfl) rfl rfl ?_
    have h32 := (hn.ext (((hE5.trans hE11).trans hE17).trans hE26))
    refine sOp rfl (oCall rfl call57 (integer_Neg h32 (by omega)) rfl ?_)
    rintro _ w34 ⟨gr_33, Ar_33, nr_33, cr_33, dr_33, rfl, hE35, hr_33, v_33, cn_33, le_33⟩
    have hz36 := hE35.size
    have lr_33 := hr_33.len; have kr_33 := hr_33.cap; have mr_33 := hr_33.max
    have hB38 := (hB31.ext hE35)
    refine sOp rfl (oStore [(.bool gr_33), (.slice Ar_33 nr_33 cr_33)] rfl rfl rfl sz46 rfl hB38 (Nat.le_of_ble_eq_true rfl) ?_)
    intro w39 hU40 hz41 hB42
    replace hB42 : Blk w39 g2 46 [(.bool gr_33), (.slice Ar_33 nr_33 cr_33)] := hB42
    refine sDone ?_
    refine bN ?_
    refine xN (hK20 _ _ ?_)
    refine wp_seq_k fun K43 hK43 => ?_
    have hsr := sign_cases (zval gd dd)
    have hab := natAbs_val gd dd
    refine dBegin (fun b => b = g14) mixed ?_
    intro w44 hE45 hz46
    have hB47 := (hB42.ext hE45)
    refine dEv 0 rfl (v := (.agg #[(.bool gr_33), (.slice Ar_33 nr_33 cr_33)])) (fun _ hf => evLoadAB [(.bool gr_33), (.slice Ar_33 nr_33 cr_33)] agg46 sz46 rfl (hB47.frm hf q1) rfl) rfl rfl (by kernel_rfl) ?_
    have hB48 := (hB22.frm ((((Frm.of_ext (G := fun b => (b = g2)) hE26).trans (Frm.of_ext (G := fun b => (b = g2)) hE35)).trans hU40).trans (Frm.of_ext (G := fun b => (b = g2)) hE45)) q1)
    refine dEv 1 rfl (v := (.agg #[(.bool gd), (.slice Ad nd cd)])) (fun _ hf => evLoadAB [(.bool gd), (.slice Ad nd cd)] agg46 sz46 rfl (hB48.frm hf q1) rfl) rfl rfl (by kernel_rfl) ?_
    have h49 := (h23.frmB ((((Frm.of_ext (G := fun b => (b = g2)) hE26).trans (Frm.of_ext (G := fun b => (b = g2)) hE35)).trans hU40).trans (Frm.of_ext (G := fun b => (b = g2)) hE45)) q3)
    refine dOp 2 rfl rfl (by kernel_rfl) (oCall rfl call77 (integer_Abs h49 (by omega)) rfl ?_)
    rintro _ w51 ⟨gr_50, Ar_50, nr_50, cr_50, dr_50, rfl, hE52, hr_50, v_50, cn_50, le_50⟩
    refine ⟨(Frm.of_ext hE52), ?_⟩
    have hz53 := hE52.size
    have lr_50 := hr_50.len; have kr_50 := hr_50.cap; have mr_50 := hr_50.max
    have hda : zval gr_50 dr_50 = (val dd : Int) := v_50
    have h55 := (hr_33.frmB ((hU40.trans (Frm.of_ext (G := fun b => (b = g2)) hE45)).trans (Frm.of_ext (G := fun b => (b = g2)) hE52)) q3)
    refine dOp 3 rfl rfl (by kernel_rfl) (oCall rfl call93 (rational_reduce h55 hr_50 (by omega) (by omega) (by omega)) rfl ?_)
    rintro _ w57 ⟨gr_56, Ar_56, nr_56, cr_56, dr_56, Arv_56, nrv_56, crv_56, drv_56, rfl, hE58, hr_56, hrv_56, x_56, p_56, cn_56, cv_56, co_56, bn_56, bd_56⟩
    refine ⟨(Frm.of_ext hE58), ?_⟩
    have hz59 := hE58.size
    have lr_56 := hr_56.len; have kr_56 := hr_56.cap; have mr_56 := hr_56.max
    have lrv_56 := hrv_56.len; have krv_56 := hrv_56.cap; have mrv_56 := hrv_56.max
    have hB62 := (hB19.frm ((((((Frm.of_ext (G := fun b => (b = g2)) hE26).trans (Frm.of_ext (G := fun b => (b = g2)) hE35)).trans hU40).trans (Frm.of_ext (G := fun b => (b = g2)) hE45)).trans (Frm.of_ext (G := fun b => (b = g2)) hE52)).trans (Frm.of_ext (G := fun b => (b = g2)) hE58)) q1)
    refine dOp 4 rfl rfl (by kernel_rfl) (oStore [(.bool gr_56), (.slice Ar_56 nr_56 cr_56), (.slice Arv_56 nrv_56 crv_56)] rfl rfl rfl sz64 rfl hB62 (Nat.le_of_ble_eq_true rfl) ?_)
    intro w63 hU64 hz65 hB66
    replace hB66 : Blk w63 g14 64 [(.bool gr_56), (.slice Ar_56 nr_56 cr_56), (.slice Arv_56 nrv_56 crv_56)] := hB66
    refine ⟨hU64, ?_⟩
    refine dEv 5 rfl (v := (.int .i64 (0))) (fun _ _ => rfl) rfl rfl (by kernel_rfl) ?_
    refine dDone (by kernel_rfl) ?_
    refine xN (hK43 _ _ ?_)
    refine wp_ret ?_
    refine ret2 (.agg #[(.bool gr_56), (.slice Ar_56 nr_56 cr_56), (.slice Arv_56 nrv_56 crv_56)]) (.int .i64 (0)) Try.results85 (resB [(.bool gr_56), (.slice Ar_56 nr_56 cr_56), (.slice Arv_56 nrv_56 crv_56)] agg64 sz64 rfl hB66) (resT rfl) ?_
    have h67 := (hr_56.frmB hU64 q3)
    have h68 := (hrv_56.frmB hU64 q3)
    exact ⟨(gr_56), Ar_56, nr_56, cr_56, dr_56, Arv_56, nrv_56, crv_56, drv_56, (0), rfl, (Frm.mono ((((((((((Frm.of_ext (G := fun b => (b = g2) ∨ (b = g14)) hE5).trans (Frm.of_ext (G := fun b => (b = g2) ∨ (b = g14)) hE11)).trans (Frm.of_ext (G := fun b => (b = g2) ∨ (b = g14)) hE17)).trans (Frm.of_ext (G := fun b => (b = g2) ∨ (b = g14)) hE26)).trans (Frm.of_ext (G := fun b => (b = g2) ∨ (b = g14)) hE35)).trans (hU40.mono (G' := fun b => (b = g2) ∨ (b = g14)) fun _ _ h => .inl h)).trans (Frm.of_ext (G := fun b => (b = g2) ∨ (b = g14)) hE45)).trans (Frm.of_ext (G := fun b => (b = g2) ∨ (b = g14)) hE52)).trans (Frm.of_ext (G := fun b => (b = g2) ∨ (b = g14)) hE58)).trans (hU64.mono (G' := fun b => (b = g2) ∨ (b = g14)) fun _ _ h => .inr h)) q4), (NatR.sub h67 q5), (NatR.sub h68 q5), (make_math x_56 (.inr ⟨v_33, by omega⟩)), p_56, cn_56, cv_56, co_56, rfl, (by omega), (by omega)⟩
  · refine sEv (v := (.bool false)) (evEql false rfl rfl (dF hc30)) rfl rfl ?_
    refine sEv (v := (.bool false)) (rfl) rfl rfl ?_
    refine sDone ?_
    refine xN (hK29 _ _ ?_)
    refine cF rfl ?_
    refine wp_skip ?_
    refine bN ?_
    refine xN (hK20 _ _ ?_)
    refine wp_seq_k fun K69 hK69 => ?_
    have hsr := sign_cases (zval gd dd)
    have hab := natAbs_val gd dd
    refine dBegin (fun b => b = g14) mixed ?_
    intro w70 hE71 hz72
    have hB73 := (hB7.ext (((hE11.trans hE17).trans hE26).trans hE71))
    refine dEv 0 rfl (v := (.agg #[(.bool gn), (.slice An nn cn)])) (fun _ hf => evLoadAB [(.bool gn), (.slice An nn cn)] agg46 sz46 rfl (hB73.frm hf q1) rfl) rfl rfl (by kernel_rfl) ?_
    have hB74 := (hB22.ext (hE26.trans hE71))
    refine dEv 1 rfl (v := (.agg #[(.bool gd), (.slice Ad nd cd)])) (fun _ hf => evLoadAB [(.bool gd), (.slice Ad nd cd)] agg46 sz46 rfl (hB74.frm hf q1) rfl) rfl rfl (by kernel_rfl) ?_
    have h75 := (h23.ext (hE26.trans hE71))
    refine dOp 2 rfl rfl (by kernel_rfl) (oCall rfl call77 (integer_Abs h75 (by omega)) rfl ?_)
    rintro _ w77 ⟨gr_76, Ar_76, nr_76, cr_76, dr_76, rfl, hE78, hr_76, v_76, cn_76, le_76⟩
    refine ⟨(Frm.of_ext hE78), ?_⟩
    have hz79 := hE78.size
    have lr_76 := hr_76.len; have kr_76 := hr_76.cap; have mr_76 := hr_76.max
    have hda : zval gr_76 dr_76 = (val dd : Int) := v_76
    have h81 := (hn.ext (((((hE5.trans hE11).trans hE17).trans hE26).trans hE71).trans hE78))
    refine dOp 3 rfl rfl (by kernel_rfl) (oCall rfl call93 (rational_reduce h81 hr_76 (by omega) (by omega) (by omega)) rfl ?_)
    rintro _ w83 ⟨gr_82, Ar_82, nr_82, cr_82, dr_82, Arv_82, nrv_82, crv_82, drv_82, rfl, hE84, hr_82, hrv_82, x_82, p_82, cn_82, cv_82, co_82, bn_82, bd_82⟩
    refine ⟨(Frm.of_ext hE84), ?_⟩
    have hz85 := hE84.size
    have lr_82 := hr_82.len; have kr_82 := hr_82.cap; have mr_82 := hr_82.max
    have lrv_82 := hrv_82.len; have krv_82 := hrv_82.cap; have mrv_82 := hrv_82.max
    have hB88 := (hB19.ext (((hE26.trans hE71).trans hE78).trans hE84))
    refine dOp 4 rfl rfl (by kernel_rfl) (oStore [(.bool gr_82), (.slice Ar_82 nr_82 cr_82), (.slice Arv_82 nrv_82 crv_82)] rfl rfl rfl sz64 rfl hB88 (Nat.le_of_ble_eq_true rfl) ?_)
    intro w89 hU90 hz91 hB92
    replace hB92 : Blk w89 g14 64 [(.bool gr_82), (.slice Ar_82 nr_82 cr_82), (.slice Arv_82 nrv_82 crv_82)] := hB92
    refine ⟨hU90, ?_⟩
    refine dEv 5 rfl (v := (.int .i64 (0))) (fun _ _ => rfl) rfl rfl (by kernel_rfl) ?_
    refine dDone (by kernel_rfl) ?_
    refine xN (hK69 _ _ ?_)
    refine wp_ret ?_
    refine ret2 (.agg #[(.bool gr_82), (.slice Ar_82 nr_82 cr_82), (.slice Arv_82 nrv_82 crv_82)]) (.int .i64 (0)) Try.results85 (resB [(.bool gr_82), (.slice Ar_82 nr_82 cr_82), (.slice Arv_82 nrv_82 crv_82)] agg64 sz64 rfl hB92) (resT rfl) ?_
    have h93 := (hr_82.frmB hU90 q3)
    have h94 := (hrv_82.frmB hU90 q3)
    exact ⟨(gr_82), Ar_82, nr_82, cr_82, dr_82, Arv_82, nrv_82, crv_82, drv_82, (0), rfl, (Frm.mono ((((((((Frm.of_ext (G := fun b => (b = g14)) hE5).trans (Frm.of_ext (G := fun b => (b = g14)) hE11)).trans (Frm.of_ext (G := fun b => (b = g14)) hE17)).trans (Frm.of_ext (G := fun b => (b = g14)) hE26)).trans (Frm.of_ext (G := fun b => (b = g14)) hE71)).trans (Frm.of_ext (G := fun b => (b = g14)) hE78)).trans (Frm.of_ext (G := fun b => (b = g14)) hE84)).trans hU90) q4), (NatR.sub h93 q5), (NatR.sub h94 q5), (make_math x_82 (.inl ⟨rfl, by omega⟩)), p_82, cn_82, cv_82, co_82, rfl, (by omega), (by omega)⟩

theorem rational_Normal {w : World} {ga : Bool} {Sa : Nat → Prop} {Aa : Option Addr} {na ca : Nat} {da : List Nat} {Sav : Nat → Prop} {Aav : Option Addr} {nav cav : Nat} {dav : List Nat} (ha : NatR w Sa Aa na ca da) (hav : NatR w Sav Aav nav cav dav) (hna : na ≤ 8589934592) (hnav : nav ≤ 8589934592) : Calls Try.prog 107 #[(.agg #[(.bool ga), (.slice Aa na ca), (.slice Aav nav cav)])] w (Ret fun v w' => ∃ (gr : Bool) (Ar : Option Addr) (nr : Nat) (cr : Nat) (dr : List Nat) (Arv : Option Addr) (nrv : Nat) (crv : Nat) (drv : List Nat), v = (.agg #[(.bool gr), (.slice Ar nr cr), (.slice Arv nrv crv)]) ∧ Ext w w' ∧ NatR w' (fun b => w.heap.size ≤ b) Ar nr cr dr ∧ NatR w' (fun b => w.heap.size ≤ b) Arv nrv crv drv ∧ (zval gr dr * (rden (val dav) : Int) = rnum (zval ga da) (val dav) * (val drv : Int)) ∧ (0 < val drv) ∧ (ICan gr dr) ∧ (Canon isZ drv) ∧ (Nat.gcd (val dr) (val drv) = 1) ∧ (nr ≤ na + 1) ∧ (nrv ≤ nav + 3)) := by
  have la := ha.len; have ka := ha.cap; have ma := ha.max
  replace ha := ha.low
  have lav := hav.len; have kav := hav.cap; have mav := hav.max
  replace hav := hav.low
  refine enter Try.func107 rfl Try.ntmps107 rfl ?_
  refine wp_seq_k fun K1 hK1 => ?_
  refine wp_region_lit ?_
  refine sOp rfl (oBox [(.bool ga), (.slice Aa na ca), (.slice Aav nav cav)] rfl rfl ?_)
  intro g2 w3 hg4 hE5 hz6 hB7
  refine sOp rfl (oAlloc [(.bool false), (.slice none 0 0), (.slice none 0 0)] zero64 rfl ?_)
  intro g8 w9 hg10 hE11 hz12 hB13
  refine sDone ?_
  refine xN (hK1 _ _ ?_)
  refine wp_seq_k fun K14 hK14 => ?_
  refine wp_region_lit ?_
  have hB15 := (hB7.ext hE11)
  refine sEv (v := (.agg #[(.bool ga), (.slice Aa na ca), (.slice Aav nav cav)])) (evLoadAB [(.bool ga), (.slice Aa na ca), (.slice Aav nav cav)] agg64 sz64 rfl hB15 rfl) rfl rfl ?_
  have h16 := (ha.ext (hE5.trans hE11))
  have h17 := (hav.ext (hE5.trans hE11))
  refine sOp rfl (oCall rfl call92 (rational_parts h16 h17) rfl ?_)
  rintro _ w19 ⟨gn_18, An_18, nn_18, cn_18, dn_18, gd_18, Ad_18, nd_18, cd_18, dd_18, rfl, hE20, hn_18, hd_18, vn_18, vd_18, bn_18, bd_18⟩
  have hz21 := hE20.size
  have ln_18 := hn_18.len; have kn_18 := hn_18.cap; have mn_18 := hn_18.max
  replace hn_18 := hn_18.low
  have ld_18 := hd_18.len; have kd_18 := hd_18.cap; have md_18 := hd_18.max
  replace hd_18 := hd_18.low
  have hdp_18 : 0 < zval gd_18 dd_18 := by rw [vd_18]; have h := rden_pos (val dav); omega
  refine sEv (v := (.agg #[(.bool gn_18), (.slice An_18 nn_18 cn_18)])) (rfl) rfl rfl ?_
  refine sEv (v := (.agg #[(.bool gd_18), (.slice Ad_18 nd_18 cd_18)])) (rfl) rfl rfl ?_
  refine sOp rfl (oCall rfl call93 (rational_reduce hn_18 hd_18 (by omega) (by omega) (by omega)) rfl ?_)
  rintro _ w25 ⟨gr_24, Ar_24, nr_24, cr_24, dr_24, Arv_24, nrv_24, crv_24, drv_24, rfl, hE26, hr_24, hrv_24, x_24, p_24, cn_24, cv_24, co_24, bn_24, bd_24⟩
  have hz27 := hE26.size
  have lr_24 := hr_24.len; have kr_24 := hr_24.cap; have mr_24 := hr_24.max
  have lrv_24 := hrv_24.len; have krv_24 := hrv_24.cap; have mrv_24 := hrv_24.max
  have hB30 := (hB13.ext (hE20.trans hE26))
  refine sOp rfl (oStore [(.bool gr_24), (.slice Ar_24 nr_24 cr_24), (.slice Arv_24 nrv_24 crv_24)] rfl rfl rfl sz64 rfl hB30 (Nat.le_of_ble_eq_true rfl) ?_)
  intro w31 hU32 hz33 hB34
  replace hB34 : Blk w31 g8 64 [(.bool gr_24), (.slice Ar_24 nr_24 cr_24), (.slice Arv_24 nrv_24 crv_24)] := hB34
  refine sDone ?_
  refine xN (hK14 _ _ ?_)
  refine wp_ret ?_
  refine ret1 (.agg #[(.bool gr_24), (.slice Ar_24 nr_24 cr_24), (.slice Arv_24 nrv_24 crv_24)]) Try.results107 (resB [(.bool gr_24), (.slice Ar_24 nr_24 cr_24), (.slice Arv_24 nrv_24 crv_24)] agg64 sz64 rfl hB34) ?_
  have h35 := (hr_24.frmB hU32 q3)
  have h36 := (hrv_24.frmB hU32 q3)
  exact ⟨(gr_24), Ar_24, nr_24, cr_24, dr_24, Arv_24, nrv_24, crv_24, drv_24, rfl, (Frm.mono (((((Frm.of_ext (G := fun b => (b = g8)) hE5).trans (Frm.of_ext (G := fun b => (b = g8)) hE11)).trans (Frm.of_ext (G := fun b => (b = g8)) hE20)).trans (Frm.of_ext (G := fun b => (b = g8)) hE26)).trans hU32) q4), (NatR.sub h35 q5), (NatR.sub h36 q5), (by rw [← vn_18, ← vd_18]; exact x_24), p_24, cn_24, cv_24, co_24, (by omega), (by omega)⟩

theorem rational_Cmp {w : World} {ga : Bool} {Sa : Nat → Prop} {Aa : Option Addr} {na ca : Nat} {da : List Nat} {Sav : Nat → Prop} {Aav : Option Addr} {nav cav : Nat} {dav : List Nat} {gb : Bool} {Sb : Nat → Prop} {Ab : Option Addr} {nb cb : Nat} {db : List Nat} {Sbv : Nat → Prop} {Abv : Option Addr} {nbv cbv : Nat} {dbv : List Nat} (ha : NatR w Sa Aa na ca da) (hav : NatR w Sav Aav nav cav dav) (hb : NatR w Sb Ab nb cb db) (hbv : NatR w Sbv Abv nbv cbv dbv) (hna : na ≤ 8589934592) (hnav : nav ≤ 8589934592) (hnb : nb ≤ 8589934592) (hnbv : nbv ≤ 8589934592) : Calls Try.prog 60 #[(.agg #[(.bool ga), (.slice Aa na ca), (.slice Aav nav cav)]), (.agg #[(.bool gb), (.slice Ab nb cb), (.slice Abv nbv cbv)])] w (Ret fun v w' => ∃ (xr : Int), v = (.int .i64 (xr)) ∧ Ext w w' ∧ (xr = cmpZ (rnum (zval ga da) (val dav) * (rden (val dbv) : Int)) (rnum (zval gb db) (val dbv) * (rden (val dav) : Int)))) := by
  have la := ha.len; have ka := ha.cap; have ma := ha.max
  replace ha := ha.low
  have lav := hav.len; have kav := hav.cap; have mav := hav.max
  replace hav := hav.low
  have lb := hb.len; have kb := hb.cap; have mb := hb.max
  replace hb := hb.low
  have lbv := hbv.len; have kbv := hbv.cap; have mbv := hbv.max
  replace hbv := hbv.low
  refine enter Try.func60 rfl Try.ntmps60 rfl ?_
  refine wp_seq_k fun K1 hK1 => ?_
  refine wp_region_lit ?_
  refine sOp rfl (oBox [(.bool ga), (.slice Aa na ca), (.slice Aav nav cav)] rfl rfl ?_)
  intro g2 w3 hg4 hE5 hz6 hB7
  refine sOp rfl (oBox [(.bool gb), (.slice Ab nb cb), (.slice Abv nbv cbv)] rfl rfl ?_)
  intro g8 w9 hg10 hE11 hz12 hB13
  refine sEv (v := (.int .i64 (0))) (rfl) rfl rfl ?_
  refine sDone ?_
  refine xN (hK1 _ _ ?_)
  refine wp_seq_k fun K14 hK14 => ?_
  refine wp_region_lit ?_
  have hB15 := (hB7.ext hE11)
  refine sEv (v := (.agg #[(.bool ga), (.slice Aa na ca), (.slice Aav nav cav)])) (evLoadAB [(.bool ga), (.slice Aa na ca), (.slice Aav nav cav)] agg64 sz64 rfl hB15 rfl) rfl rfl ?_
  have h16 := (ha.ext (hE5.trans hE11))
  have h17 := (hav.ext (hE5.trans hE11))
  refine sOp rfl (oCall rfl call92 (rational_parts h16 h17) rfl ?_)
  rintro _ w19 ⟨gn_18, An_18, nn_18, cn_18, dn_18, gd_18, Ad_18, nd_18, cd_18, dd_18, rfl, hE20, hn_18, hd_18, vn_18, vd_18, bn_18, bd_18⟩
  have hz21 := hE20.size
  have ln_18 := hn_18.len; have kn_18 := hn_18.cap; have mn_18 := hn_18.max
  replace hn_18 := hn_18.low
  have ld_18 := hd_18.len; have kd_18 := hd_18.cap; have md_18 := hd_18.max
  replace hd_18 := hd_18.low
  have hdp_18 : 0 < zval gd_18 dd_18 := by rw [vd_18]; have h := rden_pos (val dav); omega
  refine sEv (v := (.tuple #[(.agg #[(.bool gn_18), (.slice An_18 nn_18 cn_18)]), (.agg #[(.bool gd_18), (.slice Ad_18 nd_18 cd_18)])])) (rfl) rfl rfl ?_
  refine sEv (v := (.agg #[(.bool gn_18), (.slice An_18 nn_18 cn_18)])) (rfl) rfl rfl ?_
  refine sEv (v := (.agg #[(.bool gd_18), (.slice Ad_18 nd_18 cd_18)])) (rfl) rfl rfl ?_
  refine sOp rfl (oAlloc [(.bool false), (.slice none 0 0)] zero46 rfl ?_)
  intro g24 w25 hg26 hE27 hz28 hB29
  refine sOp rfl (oAlloc [(.bool false), (.slice none 0 0)] zero46 rfl ?_)
  intro g30 w31 hg32 hE33 hz34 hB35
  have hB36 := (hB29.ext hE33)
  refine sOp rfl (oStore [(.bool gn_18), (.slice An_18 nn_18 cn_18)] rfl rfl rfl sz46 rfl hB36 (Nat.le_of_ble_eq_true rfl) ?_)
  intro w37 hU38 hz39 hB40
  replace hB40 : Blk w37 g24 46 [(.bool gn_18), (.slice An_18 nn_18 cn_18)] := hB40
  have hB41 := (hB35.frm hU38 q1)
  refine sOp rfl (oStore [(.bool gd_18), (.slice Ad_18 nd_18 cd_18)] rfl rfl rfl sz46 rfl hB41 (Nat.le_of_ble_eq_true rfl) ?_)
  intro w42 hU43 hz44 hB45
  replace hB45 : Blk w42 g30 46 [(.bool gd_18), (.slice Ad_18 nd_18 cd_18)] := hB45
  refine sDone ?_
  refine xN (hK14 _ _ ?_)
  refine wp_seq_k fun K46 hK46 => ?_
  refine wp_region_lit ?_
  have hB47 := (hB13.frm (((((Frm.of_ext (G := fun b => (b = g24) ∨ (b = g30)) hE20).trans (Frm.of_ext (G := fun b => (b = g24) ∨ (b = g30)) hE27)).trans (Frm.of_ext (G := fun b => (b = g24) ∨ (b = g30)) hE33)).trans (hU38.mono (G' := fun b => (b = g24) ∨ (b = g30)) fun _ _ h => .inl h)).trans (hU43.mono (G' := fun b => (b = g24) ∨ (b = g30)) fun _ _ h => .inr h)) q1)
  refine sEv (v := (.agg #[(.bool gb), (.slice Ab nb cb), (.slice Abv nbv cbv)])) (evLoadAB [(.bool gb), (.slice Ab nb cb), (.slice Abv nbv cbv)] agg64 sz64 rfl hB47 rfl) rfl rfl ?_
  have h48 := (hb.frmB (((((((Frm.of_ext (G := fun b => (b = g24) ∨ (b = g30)) hE5).trans (Frm.of_ext (G := fun b => (b = g24) ∨ (b = g30)) hE11)).trans (Frm.of_ext (G := fun b => (b = g24) ∨ (b = g30)) hE20)).trans (Frm.of_ext (G := fun b => (b = g24) ∨ (b = g30)) hE27)).trans (Frm.of_ext (G := fun b => (b = g24) ∨ (b = g30)) hE33)).trans (hU38.mono (G' := fun b => (b = g24) ∨ (b = g30)) fun _ _ h => .inl h)).trans (hU43.mono (G' := fun b => (b = g24) ∨ (b = g30)) fun _ _ h => .inr h)) q3)
  have h49 := (hbv.frmB (((((((Frm.of_ext (G := fun b => (b = g24) ∨ (b = g30)) hE5).trans (Frm.of_ext (G := fun b => (b = g24) ∨ (b = g30)) hE11)).trans (Frm.of_ext (G := fun b => (b = g24) ∨ (b = g30)) hE20)).trans (Frm.of_ext (G := fun b => (b = g24) ∨ (b = g30)) hE27)).trans (Frm.of_ext (G := fun b => (b = g24) ∨ (b = g30)) hE33)).trans (hU38.mono (G' := fun b => (b = g24) ∨ (b = g30)) fun _ _ h => .inl h)).trans (hU43.mono (G' := fun b => (b = g24) ∨ (b = g30)) fun _ _ h => .inr h)) q3)
  refine sOp rfl (oCall rfl call92 (rational_parts h48 h49) rfl ?_)
  rintro _ w51 ⟨gn_50, An_50, nn_50, cn_50, dn_50, gd_50, Ad_50, nd_50, cd_50, dd_50, rfl, hE52, hn_50, hd_50, vn_50, vd_50, bn_50, bd_50⟩
  have hz53 := hE52.size
  have ln_50 := hn_50.len; have kn_50 := hn_50.cap; have mn_50 := hn_50.max
  replace hn_50 := hn_50.low
  have ld_50 := hd_50.len; have kd_50 := hd_50.cap; have md_50 := hd_50.max
  replace hd_50 := hd_50.low
  have hdp_50 : 0 < zval gd_50 dd_50 := by rw [vd_50]; have h := rden_pos (val dbv); omega
  refine sEv (v := (.tuple #[(.agg #[(.bool gn_50), (.slice An_50 nn_50 cn_50)]), (.agg #[(.bool gd_50), (.slice Ad_50 nd_50 cd_50)])])) (rfl) rfl rfl ?_
  refine sEv (v := (.agg #[(.bool gn_50), (.slice An_50 nn_50 cn_50)])) (rfl) rfl rfl ?_
  refine sEv (v := (.agg #[(.bool gd_50), (.slice Ad_50 nd_50 cd_50)])) (rfl) rfl rfl ?_
  refine sOp rfl (oAlloc [(.bool false), (.slice none 0 0)] zero46 rfl ?_)
  intro g56 w57 hg58 hE59 hz60 hB61
  refine sOp rfl (oAlloc [(.bool false), (.slice none 0 0)] zero46 rfl ?_)
  intro g62 w63 hg64 hE65 hz66 hB67
  have hB68 := (hB61.ext hE65)
  refine sOp rfl (oStore [(.bool gn_50), (.slice An_50 nn_50 cn_50)] rfl rfl rfl sz46 rfl hB68 (Nat.le_of_ble_eq_true rfl) ?_)
  intro w69 hU70 hz71 hB72
  replace hB72 : Blk w69 g56 46 [(.bool gn_50), (.slice An_50 nn_50 cn_50)] := hB72
  have hB73 := (hB67.frm hU70 q1)
  refine sOp rfl (oStore [(.bool gd_50), (.slice Ad_50 nd_50 cd_50)] rfl rfl rfl sz46 rfl hB73 (Nat.le_of_ble_eq_true rfl) ?_)
  intro w74 hU75 hz76 hB77
  replace hB77 : Blk w74 g62 46 [(.bool gd_50), (.slice Ad_50 nd_50 cd_50)] := hB77
  refine sDone ?_
  refine xN (hK46 _ _ ?_)
  refine wp_seq_k fun K78 hK78 => ?_
  refine dBegin (fun _ => False) mixed ?_
  intro w79 hE80 hz81
  have hB82 := (hB40.frm (((((((hU43.mono (G' := fun b => (b = g30) ∨ (b = g56) ∨ (b = g62)) fun _ _ h => .inl h).trans (Frm.of_ext (G := fun b => (b = g30) ∨ (b = g56) ∨ (b = g62)) hE52)).trans (Frm.of_ext (G := fun b => (b = g30) ∨ (b = g56) ∨ (b = g62)) hE59)).trans (Frm.of_ext (G := fun b => (b = g30) ∨ (b = g56) ∨ (b = g62)) hE65)).trans (hU70.mono (G' := fun b => (b = g30) ∨ (b = g56) ∨ (b = g62)) fun _ _ h => .inr (.inl h))).trans (hU75.mono (G' := fun b => (b = g30) ∨ (b = g56) ∨ (b = g62)) fun _ _ h => .inr (.inr h))).trans (Frm.of_ext (G := fun b => (b = g30) ∨ (b = g56) ∨ (b = g62)) hE80)) q1)
  refine dEv 0 rfl (v := (.agg #[(.bool gn_18), (.slice An_18 nn_18 cn_18)])) (fun _ hf => evLoadAB [(.bool gn_18), (.slice An_18 nn_18 cn_18)] agg46 sz46 rfl (hB82.ext hf) rfl) rfl rfl (by kernel_rfl) ?_
  have hB83 := (hB77.ext hE80)
  refine dEv 1 rfl (v := (.agg #[(.bool gd_50), (.slice Ad_50 nd_50 cd_50)])) (fun _ hf => evLoadAB [(.bool gd_50), (.slice Ad_50 nd_50 cd_50)] agg46 sz46 rfl (hB83.ext hf) rfl) rfl rfl (by kernel_rfl) ?_
  have hB84 := (hB72.frm (hU75.trans (Frm.of_ext (G := fun b => (b = g62)) hE80)) q1)
  refine dEv 3 rfl (v := (.agg #[(.bool gn_50), (.slice An_50 nn_50 cn_50)])) (fun _ hf => evLoadAB [(.bool gn_50), (.slice An_50 nn_50 cn_50)] agg46 sz46 rfl (hB84.ext hf) rfl) rfl rfl (by kernel_rfl) ?_
  have hB85 := (hB45.frm ((((((Frm.of_ext (G := fun b => (b = g56) ∨ (b = g62)) hE52).trans (Frm.of_ext (G := fun b => (b = g56) ∨ (b = g62)) hE59)).trans (Frm.of_ext (G := fun b => (b = g56) ∨ (b = g62)) hE65)).trans (hU70.mono (G' := fun b => (b = g56) ∨ (b = g62)) fun _ _ h => .inl h)).trans (hU75.mono (G' := fun b => (b = g56) ∨ (b = g62)) fun _ _ h => .inr h)).trans (Frm.of_ext (G := fun b => (b = g56) ∨ (b = g62)) hE80)) q1)
  refine dEv 4 rfl (v := (.agg #[(.bool gd_18), (.slice Ad_18 nd_18 cd_18)])) (fun _ hf => evLoadAB [(.bool gd_18), (.slice Ad_18 nd_18 cd_18)] agg46 sz46 rfl (hB85.ext hf) rfl) rfl rfl (by kernel_rfl) ?_
  have h86 := (hn_18.frmB ((((((((((Frm.of_ext (G := fun b => (b = g24) ∨ (b = g30) ∨ (b = g56) ∨ (b = g62)) hE27).trans (Frm.of_ext (G := fun b => (b = g24) ∨ (b = g30) ∨ (b = g56) ∨ (b = g62)) hE33)).trans (hU38.mono (G' := fun b => (b = g24) ∨ (b = g30) ∨ (b = g56) ∨ (b = g62)) fun _ _ h => .inl h)).trans (hU43.mono (G' := fun b => (b = g24) ∨ (b = g30) ∨ (b = g56) ∨ (b = g62)) fun _ _ h => .inr (.inl h))).trans (Frm.of_ext (G := fun b => (b = g24) ∨ (b = g30) ∨ (b = g56) ∨ (b = g62)) hE52)).trans (Frm.of_ext (G := fun b => (b = g24) ∨ (b = g30) ∨ (b = g56) ∨ (b = g62)) hE59)).trans (Frm.of_ext (G := fun b => (b = g24) ∨ (b = g30) ∨ (b = g56) ∨ (b = g62)) hE65)).trans (hU70.mono (G' := fun b => (b = g24) ∨ (b = g30) ∨ (b = g56) ∨ (b = g62)) fun _ _ h => .inr (.inr (.inl h)))).trans (hU75.mono (G' := fun b => (b = g24) ∨ (b = g30) ∨ (b = g56) ∨ (b = g62)) fun _ _ h => .inr (.inr (.inr h)))).trans (Frm.of_ext (G := fun b => (b = g24) ∨ (b = g30) ∨ (b = g56) ∨ (b = g62)) hE80)) q3)
  have h87 := (hd_50.frmB (((((Frm.of_ext (G := fun b => (b = g56) ∨ (b = g62)) hE59).trans (Frm.of_ext (G := fun b => (b = g56) ∨ (b = g62)) hE65)).trans (hU70.mono (G' := fun b => (b = g56) ∨ (b = g62)) fun _ _ h => .inl h)).trans (hU75.mono (G' := fun b => (b = g56) ∨ (b = g62)) fun _ _ h => .inr h)).trans (Frm.of_ext (G := fun b => (b = g56) ∨ (b = g62)) hE80)) q3)
  refine dOp 2 rfl rfl (by kernel_rfl) (oCall rfl call69 (integer_Mul h86 h87 (by omega)) rfl ?_)
  rintro _ w89 ⟨gr_88, Ar_88, nr_88, cr_88, dr_88, rfl, hE90, hr_88, v_88, cn_88, le_88⟩
  refine ⟨(Frm.of_ext hE90), ?_⟩
  have hz91 := hE90.size
  have lr_88 := hr_88.len; have kr_88 := hr_88.cap; have mr_88 := hr_88.max
  have h93 := (hn_50.frmB ((((((Frm.of_ext (G := fun b => (b = g56) ∨ (b = g62)) hE59).trans (Frm.of_ext (G := fun b => (b = g56) ∨ (b = g62)) hE65)).trans (hU70.mono (G' := fun b => (b = g56) ∨ (b = g62)) fun _ _ h => .inl h)).trans (hU75.mono (G' := fun b => (b = g56) ∨ (b = g62)) fun _ _ h => .inr h)).trans (Frm.of_ext (G := fun b => (b = g56) ∨ (b = g62)) hE80)).trans (Frm.of_ext (G := fun b => (b = g56) ∨ (b = g62)) hE90)) q3)
  have h94 := (hd_18.frmB (((((((((((Frm.of_ext (G := fun b => (b = g24) ∨ (b = g30) ∨ (b = g56) ∨ (b = g62)) hE27).trans (Frm.of_ext (G := fun b => (b = g24) ∨ (b = g30) ∨ (b = g56) ∨ (b = g62)) hE33)).trans (hU38.mono (G' := fun b => (b = g24) ∨ (b = g30) ∨ (b = g56) ∨ (b = g62)) fun _ _ h => .inl h)).trans (hU43.mono (G' := fun b => (b = g24) ∨ (b = g30) ∨ (b = g56) ∨ (b = g62)) fun _ _ h => .inr (.inl h))).trans (Frm.of_ext (G := fun b => (b = g24) ∨ (b = g30) ∨ (b = g56) ∨ (b = g62)) hE52)).trans (Frm.of_ext (G := fun b => (b = g24) ∨ (b = g30) ∨ (b = g56) ∨ (b = g62)) hE59)).trans (Frm.of_ext (G := fun b => (b = g24) ∨ (b = g30) ∨ (b = g56) ∨ (b = g62)) hE65)).trans (hU70.mono (G' := fun b => (b = g24) ∨ (b = g30) ∨ (b = g56) ∨ (b = g62)) fun _ _ h => .inr (.inr (.inl h)))).trans (hU75.mono (G' := fun b => (b = g24) ∨ (b = g30) ∨ (b = g56) ∨ (b = g62)) fun _ _ h => .inr (.inr (.inr h)))).trans (Frm.of_ext (G := fun b => (b = g24) ∨ (b = g30) ∨ (b = g56) ∨ (b = g62)) hE80)).trans (Frm.of_ext (G := fun b => (b = g24) ∨ (b = g30) ∨ (b = g56) ∨ (b = g62)) hE90)) q3)
  refine dOp 5 rfl rfl (by kernel_rfl) (oCall rfl call69 (integer_Mul h93 h94 (by omega)) rfl ?_)
  rintro _ w96 ⟨gr_95, Ar_95, nr_95, cr_95, dr_95, rfl, hE97, hr_95, v_95, cn_95, le_95⟩
  refine ⟨(Frm.of_ext hE97), ?_⟩
  have hz98 := hE97.size
  have lr_95 := hr_95.len; have kr_95 := hr_95.cap; have mr_95 := hr_95.max
  have h100 := (hr_88.ext hE97)
  refine dOp 6 rfl rfl (by kernel_rfl) (oCall rfl call82 (integer_Cmp h100 hr_95) rfl ?_)
  rintro _ w102 ⟨xr_101, rfl, hE103, e_101⟩
  refine ⟨(Frm.of_ext hE103), ?_⟩
  have hz104 := hE103.size
  refine dEv 7 rfl (v := (.int .i64 (xr_101))) (fun _ _ => rfl) rfl rfl (by kernel_rfl) ?_
  refine dDone (by kernel_rfl) ?_
  refine xN (hK78 _ _ ?_)
  refine wp_ret ?_
  refine ret1 (.int .i64 (xr_101)) Try.results60 (resT rfl) ?_
  exact ⟨(xr_101), rfl, (Frm.mono ((((((((((((((((Frm.of_ext (G := fun b => (b = g24) ∨ (b = g30) ∨ (b = g56) ∨ (b = g62)) hE5).trans (Frm.of_ext (G := fun b => (b = g24) ∨ (b = g30) ∨ (b = g56) ∨ (b = g62)) hE11)).trans (Frm.of_ext (G := fun b => (b = g24) ∨ (b = g30) ∨ (b = g56) ∨ (b = g62)) hE20)).trans (Frm.of_ext (G := fun b => (b = g24) ∨ (b = g30) ∨ (b = g56) ∨ (b = g62)) hE27)).trans (Frm.of_ext (G := fun b => (b = g24) ∨ (b = g30) ∨ (b = g56) ∨ (b = g62)) hE33)).trans (hU38.mono (G' := fun b => (b = g24) ∨ (b = g30) ∨ (b = g56) ∨ (b = g62)) fun _ _ h => .inl h)).trans (hU43.mono (G' := fun b => (b = g24) ∨ (b = g30) ∨ (b = g56) ∨ (b = g62)) fun _ _ h => .inr (.inl h))).trans (Frm.of_ext (G := fun b => (b = g24) ∨ (b = g30) ∨ (b = g56) ∨ (b = g62)) hE52)).trans (Frm.of_ext (G := fun b => (b = g24) ∨ (b = g30) ∨ (b = g56) ∨ (b = g62)) hE59)).trans (Frm.of_ext (G := fun b => (b = g24) ∨ (b = g30) ∨ (b = g56) ∨ (b = g62)) hE65)).trans (hU70.mono (G' := fun b => (b = g24) ∨ (b = g30) ∨ (b = g56) ∨ (b = g62)) fun _ _ h => .inr (.inr (.inl h)))).trans (hU75.mono (G' := fun b => (b = g24) ∨ (b = g30) ∨ (b = g56) ∨ (b = g62)) fun _ _ h => .inr (.inr (.inr h)))).trans (Frm.of_ext (G := fun b => (b = g24) ∨ (b = g30) ∨ (b = g56) ∨ (b = g62)) hE80)).trans (Frm.of_ext (G := fun b => (b = g24) ∨ (b = g30) ∨ (b = g56) ∨ (b = g62)) hE90)).trans (Frm.of_ext (G := fun b => (b = g24) ∨ (b = g30) ∨ (b = g56) ∨ (b = g62)) hE97)).trans (Frm.of_ext (G := fun b => (b = g24) ∨ (b = g30) ∨ (b = g56) ∨ (b = g62)) hE103)) q4), (by rw [e_101, v_88, v_95, vn_18, vn_50, vd_18, vd_50])⟩

theorem rational_Add {w : World} {ga : Bool} {Sa : Nat → Prop} {Aa : Option Addr} {na ca : Nat} {da : List Nat} {Sav : Nat → Prop} {Aav : Option Addr} {nav cav : Nat} {dav : List Nat} {gb : Bool} {Sb : Nat → Prop} {Ab : Option Addr} {nb cb : Nat} {db : List Nat} {Sbv : Nat → Prop} {Abv : Option Addr} {nbv cbv : Nat} {dbv : List Nat} (ha : NatR w Sa Aa na ca da) (hav : NatR w Sav Aav nav cav dav) (hb : NatR w Sb Ab nb cb db) (hbv : NatR w Sbv Abv nbv cbv dbv) (hna : na ≤ 8589934592) (hnav : nav ≤ 8589934592) (hnb : nb ≤ 8589934592) (hnbv : nbv ≤ 8589934592) : Calls Try.prog 61 #[(.agg #[(.bool ga), (.slice Aa na ca), (.slice Aav nav cav)]), (.agg #[(.bool gb), (.slice Ab nb cb), (.slice Abv nbv cbv)])] w (Ret fun v w' => ∃ (gr : Bool) (Ar : Option Addr) (nr : Nat) (cr : Nat) (dr : List Nat) (Arv : Option Addr) (nrv : Nat) (crv : Nat) (drv : List Nat), v = (.agg #[(.bool gr), (.slice Ar nr cr), (.slice Arv nrv crv)]) ∧ Ext w w' ∧ NatR w' (fun b => w.heap.size ≤ b) Ar nr cr dr ∧ NatR w' (fun b => w.heap.size ≤ b) Arv nrv crv drv ∧ (zval gr dr * ((rden (val dav) : Int) * (rden (val dbv) : Int)) = (rnum (zval ga da) (val dav) * (rden (val dbv) : Int) + rnum (zval gb db) (val dbv) * (rden (val dav) : Int)) * (val drv : Int)) ∧ (0 < val drv) ∧ (ICan gr dr) ∧ (Canon isZ drv) ∧ (Nat.gcd (val dr) (val drv) = 1) ∧ (nr ≤ na + nb + nav + nbv + 8) ∧ (nrv ≤ nav + nbv + 8)) := by
  have la := ha.len; have ka := ha.cap; have ma := ha.max
  replace ha := ha.low
  have lav := hav.len; have kav := hav.cap; have mav := hav.max
  replace hav := hav.low
  have lb := hb.len; have kb := hb.cap; have mb := hb.max
  replace hb := hb.low
  have lbv := hbv.len; have kbv := hbv.cap; have mbv := hbv.max
  replace hbv := hbv.low
  refine enter Try.func61 rfl Try.ntmps61 rfl ?_
  refine wp_seq_k fun K1 hK1 => ?_
  refine wp_region_lit ?_
  refine sOp rfl (oBox [(.bool ga), (.slice Aa na ca), (.slice Aav nav cav)] rfl rfl ?_)
  intro g2 w3 hg4 hE5 hz6 hB7
  refine sOp rfl (oBox [(.bool gb), (.slice Ab nb cb), (.slice Abv nbv cbv)] rfl rfl ?_)
  intro g8 w9 hg10 hE11 hz12 hB13
  refine sOp rfl (oAlloc [(.bool false), (.slice none 0 0), (.slice none 0 0)] zero64 rfl ?_)
  intro g14 w15 hg16 hE17 hz18 hB19
  refine sDone ?_
  refine xN (hK1 _ _ ?_)
  refine wp_seq_k fun K20 hK20 => ?_
  refine wp_region_lit ?_
  have hB21 := (hB7.ext (hE11.trans hE17))
  refine sEv (v := (.agg #[(.bool ga), (.slice Aa na ca), (.slice Aav nav cav)])) (evLoadAB [(.bool ga), (.slice Aa na ca), (.slice Aav nav cav)] agg64 sz64 rfl hB21 rfl) rfl rfl ?_
  have h22 := (ha.ext ((hE5.trans hE11).trans hE17))
  have h23 := (hav.ext ((hE5.trans hE11).trans hE17))
  refine sOp rfl (oCall rfl call92 (rational_parts h22 h23) rfl ?_)
  rintro _ w25 ⟨gn_24, An_24, nn_24, cn_24, dn_24, gd_24, Ad_24, nd_24, cd_24, dd_24, rfl, hE26, hn_24, hd_24, vn_24, vd_24, bn_24, bd_24⟩
  have hz27 := hE26.size
  have ln_24 := hn_24.len; have kn_24 := hn_24.cap; have mn_24 := hn_24.max
  replace hn_24 := hn_24.low
  have ld_24 := hd_24.len; have kd_24 := hd_24.cap; have md_24 := hd_24.max
  replace hd_24 := hd_24.low
  have hdp_24 : 0 < zval gd_24 dd_24 := by rw [vd_24]; have h := rden_pos (val dav); omega
  refine sEv (v := (.tuple #[(.agg #[(.bool gn_24), (.slice An_24 nn_24 cn_24)]), (.agg #[(.bool gd_24), (.slice Ad_24 nd_24 cd_24)])])) (rfl) rfl rfl ?_
  refine sEv (v := (.agg #[(.bool gn_24), (.slice An_24 nn_24 cn_24)])) (rfl) rfl rfl ?_
  refine sEv (v := (.agg #[(.bool gd_24), (.slice Ad_24 nd_24 cd_24)])) (rfl) rfl rfl ?_
  refine sOp rfl (oAlloc [(.bool false), (.slice none 0 0)] zero46 rfl ?_)
  intro g30 w31 hg32 hE33 hz34 hB35
  refine sOp rfl (oAlloc [(.bool false), (.slice none 0 0)] zero46 rfl ?_)
  intro g36 w37 hg38 hE39 hz40 hB41
  have hB42 := (hB35.ext hE39)
  refine sOp rfl (oStore [(.bool gn_24), (.slice An_24 nn_24 cn_24)] rfl rfl rfl sz46 rfl hB42 (Nat.le_of_ble_eq_true rfl) ?_)
  intro w43 hU44 hz45 hB46
  replace hB46 : Blk w43 g30 46 [(.bool gn_24), (.slice An_24 nn_24 cn_24)] := hB46
  have hB47 := (hB41.frm hU44 q1)
  refine sOp rfl (oStore [(.bool gd_24), (.slice Ad_24 nd_24 cd_24)] rfl rfl rfl sz46 rfl hB47 (Nat.le_of_ble_eq_true rfl) ?_)
  intro w48 hU49 hz50 hB51
  replace hB51 : Blk w48 g36 46 [(.bool gd_24), (.slice Ad_24 nd_24 cd_24)] := hB51
  refine sDone ?_
  refine xN (hK20 _ _ ?_)
  refine wp_seq_k fun K52 hK52 => ?_
  refine wp_region_lit ?_
  have hB53 := (hB13.frm ((((((Frm.of_ext (G := fun b => (b = g30) ∨ (b = g36)) hE17).trans (Frm.of_ext (G := fun b => (b = g30) ∨ (b = g36)) hE26)).trans (Frm.of_ext (G := fun b => (b = g30) ∨ (b = g36)) hE33)).trans (Frm.of_ext (G := fun b => (b = g30) ∨ (b = g36)) hE39)).trans (hU44.mono (G' := fun b => (b = g30) ∨ (b = g36)) fun _ _ h => .inl h)).trans (hU49.mono (G' := fun b => (b = g30) ∨ (b = g36)) fun _ _ h => .inr h)) q1)
  refine sEv (v := (.agg #[(.bool gb), (.slice Ab nb cb), (.slice Abv nbv cbv)])) (evLoadAB [(.bool gb), (.slice Ab nb cb), (.slice Abv nbv cbv)] agg64 sz64 rfl hB53 rfl) rfl rfl ?_
  have h54 := (hb.frmB ((((((((Frm.of_ext (G := fun b => (b = g30) ∨ (b = g36)) hE5).trans (Frm.of_ext (G := fun b => (b = g30) ∨ (b = g36)) hE11)).trans (Frm.of_ext (G := fun b => (b = g30) ∨ (b = g36)) hE17)).trans (Frm.of_ext (G := fun b => (b = g30) ∨ (b = g36)) hE26)).trans (Frm.of_ext (G := fun b => (b = g30) ∨ (b = g36)) hE33)).trans (Frm.of_ext (G := fun b => (b = g30) ∨ (b = g36)) hE39)).trans (hU44.mono (G' := fun b => (b = g30) ∨ (b = g36)) fun _ _ h => .inl h)).trans (hU49.mono (G' := fun b => (b = g30) ∨ (b = g36)) fun _ _ h => .inr h)) q3)
  have h55 := (hbv.frmB ((((((((Frm.of_ext (G := fun b => (b = g30) ∨ (b = g36)) hE5).trans (Frm.of_ext (G := fun b => (b = g30) ∨ (b = g36)) hE11)).trans (Frm.of_ext (G := fun b => (b = g30) ∨ (b = g36)) hE17)).trans (Frm.of_ext (G := fun b => (b = g30) ∨ (b = g36)) hE26)).trans (Frm.of_ext (G := fun b => (b = g30) ∨ (b = g36)) hE33)).trans (Frm.of_ext (G := fun b => (b = g30) ∨ (b = g36)) hE39)).trans (hU44.mono (G' := fun b => (b = g30) ∨ (b = g36)) fun _ _ h => .inl h)).trans (hU49.mono (G' := fun b => (b = g30) ∨ (b = g36)) fun _ _ h => .inr h)) q3)
  refine sOp rfl (oCall rfl call92 (rational_parts h54 h55) rfl ?_)
  rintro _ w57 ⟨gn_56, An_56, nn_56, cn_56, dn_56, gd_56, Ad_56, nd_56, cd_56, dd_56, rfl, hE58, hn_56, hd_56, vn_56, vd_56, bn_56, bd_56⟩
  have hz59 := hE58.size
  have ln_56 := hn_56.len; have kn_56 := hn_56.cap; have mn_56 := hn_56.max
  replace hn_56 := hn_56.low
  have ld_56 := hd_56.len; have kd_56 := hd_56.cap; have md_56 := hd_56.max
  replace hd_56 := hd_56.low
  have hdp_56 : 0 < zval gd_56 dd_56 := by rw [vd_56]; have h := rden_pos (val dbv); omega
  refine sEv (v := (.tuple #[(.agg #[(.bool gn_56), (.slice An_56 nn_56 cn_56)]), (.agg #[(.bool gd_56), (.slice Ad_56 nd_56 cd_56)])])) (rfl) rfl rfl ?_
  refine sEv (v := (.agg #[(.bool gn_56), (.slice An_56 nn_56 cn_56)])) (rfl) rfl rfl ?_
  refine sEv (v := (.agg #[(.bool gd_56), (.slice Ad_56 nd_56 cd_56)])) (rfl) rfl rfl ?_
  refine sOp rfl (oAlloc [(.bool false), (.slice none 0 0)] zero46 rfl ?_)
  intro g62 w63 hg64 hE65 hz66 hB67
  refine sOp rfl (oAlloc [(.bool false), (.slice none 0 0)] zero46 rfl ?_)
  intro g68 w69 hg70 hE71 hz72 hB73
  have hB74 := (hB67.ext hE71)
  refine sOp rfl (oStore [(.bool gn_56), (.slice An_56 nn_56 cn_56)] rfl rfl rfl sz46 rfl hB74 (Nat.le_of_ble_eq_true rfl) ?_)
  intro w75 hU76 hz77 hB78
  replace hB78 : Blk w75 g62 46 [(.bool gn_56), (.slice An_56 nn_56 cn_56)] := hB78
  have hB79 := (hB73.frm hU76 q1)
  refine sOp rfl (oStore [(.bool gd_56), (.slice Ad_56 nd_56 cd_56)] rfl rfl rfl sz46 rfl hB79 (Nat.le_of_ble_eq_true rfl) ?_)
  intro w80 hU81 hz82 hB83
  replace hB83 : Blk w80 g68 46 [(.bool gd_56), (.slice Ad_56 nd_56 cd_56)] := hB83
  refine sDone ?_
  refine xN (hK52 _ _ ?_)
  refine wp_seq_k fun K84 hK84 => ?_
  refine dBegin (fun b => b = g14) mixed ?_
  intro w85 hE86 hz87
  have hB88 := (hB46.frm (((((((hU49.mono (G' := fun b => (b = g36) ∨ (b = g62) ∨ (b = g68)) fun _ _ h => .inl h).trans (Frm.of_ext (G := fun b => (b = g36) ∨ (b = g62) ∨ (b = g68)) hE58)).trans (Frm.of_ext (G := fun b => (b = g36) ∨ (b = g62) ∨ (b = g68)) hE65)).trans (Frm.of_ext (G := fun b => (b = g36) ∨ (b = g62) ∨ (b = g68)) hE71)).trans (hU76.mono (G' := fun b => (b = g36) ∨ (b = g62) ∨ (b = g68)) fun _ _ h => .inr (.inl h))).trans (hU81.mono (G' := fun b => (b = g36) ∨ (b = g62) ∨ (b = g68)) fun _ _ h => .inr (.inr h))).trans (Frm.of_ext (G := fun b => (b = g36) ∨ (b = g62) ∨ (b = g68)) hE86)) q1)
  refine dEv 0 rfl (v := (.agg #[(.bool gn_24), (.slice An_24 nn_24 cn_24)])) (fun _ hf => evLoadAB [(.bool gn_24), (.slice An_24 nn_24 cn_24)] agg46 sz46 rfl (hB88.frm hf q1) rfl) rfl rfl (by kernel_rfl) ?_
  have hB89 := (hB83.ext hE86)
  refine dEv 1 rfl (v := (.agg #[(.bool gd_56), (.slice Ad_56 nd_56 cd_56)])) (fun _ hf => evLoadAB [(.bool gd_56), (.slice Ad_56 nd_56 cd_56)] agg46 sz46 rfl (hB89.frm hf q1) rfl) rfl rfl (by kernel_rfl) ?_
  have hB90 := (hB78.frm (hU81.trans (Frm.of_ext (G := fun b => (b = g68)) hE86)) q1)
  refine dEv 3 rfl (v := (.agg #[(.bool gn_56), (.slice An_56 nn_56 cn_56)])) (fun _ hf => evLoadAB [(.bool gn_56), (.slice An_56 nn_56 cn_56)] agg46 sz46 rfl (hB90.frm hf q1) rfl) rfl rfl (by kernel_rfl) ?_
  have hB91 := (hB51.frm ((((((Frm.of_ext (G := fun b => (b = g62) ∨ (b = g68)) hE58).trans (Frm.of_ext (G := fun b => (b = g62) ∨ (b = g68)) hE65)).trans (Frm.of_ext (G := fun b => (b = g62) ∨ (b = g68)) hE71)).trans (hU76.mono (G' := fun b => (b = g62) ∨ (b = g68)) fun _ _ h => .inl h)).trans (hU81.mono (G' := fun b => (b = g62) ∨ (b = g68)) fun _ _ h => .inr h)).trans (Frm.of_ext (G := fun b => (b = g62) ∨ (b = g68)) hE86)) q1)
  refine dEv 4 rfl (v := (.agg #[(.bool gd_24), (.slice Ad_24 nd_24 cd_24)])) (fun _ hf => evLoadAB [(.bool gd_24), (.slice Ad_24 nd_24 cd_24)] agg46 sz46 rfl (hB91.frm hf q1) rfl) rfl rfl (by kernel_rfl) ?_
  refine dEv 7 rfl (v := (.agg #[(.bool gd_24), (.slice Ad_24 nd_24 cd_24)])) (fun _ hf => evLoadAB [(.bool gd_24), (.slice Ad_24 nd_24 cd_24)] agg46 sz46 rfl (hB91.frm hf q1) rfl) rfl rfl (by kernel_rfl) ?_
  refine dEv 8 rfl (v := (.agg #[(.bool gd_56), (.slice Ad_56 nd_56 cd_56)])) (fun _ hf => evLoadAB [(.bool gd_56), (.slice Ad_56 nd_56 cd_56)] agg46 sz46 rfl (hB89.frm hf q1) rfl) rfl rfl (by kernel_rfl) ?_
  have h92 := (hn_24.frmB ((((((((((Frm.of_ext (G := fun b => (b = g30) ∨ (b = g36) ∨ (b = g62) ∨ (b = g68)) hE33).trans (Frm.of_ext (G := fun b => (b = g30) ∨ (b = g36) ∨ (b = g62) ∨ (b = g68)) hE39)).trans (hU44.mono (G' := fun b => (b = g30) ∨ (b = g36) ∨ (b = g62) ∨ (b = g68)) fun _ _ h => .inl h)).trans (hU49.mono (G' := fun b => (b = g30) ∨ (b = g36) ∨ (b = g62) ∨ (b = g68)) fun _ _ h => .inr (.inl h))).trans (Frm.of_ext (G := fun b => (b = g30) ∨ (b = g36) ∨ (b = g62) ∨ (b = g68)) hE58)).trans (Frm.of_ext (G := fun b => (b = g30) ∨ (b = g36) ∨ (b = g62) ∨ (b = g68)) hE65)).trans (Frm.of_ext (G := fun b => (b = g30) ∨ (b = g36) ∨ (b = g62) ∨ (b = g68)) hE71)).trans (hU76.mono (G' := fun b => (b = g30) ∨ (b = g36) ∨ (b = g62) ∨ (b = g68)) fun _ _ h => .inr (.inr (.inl h)))).trans (hU81.mono (G' := fun b => (b = g30) ∨ (b = g36) ∨ (b = g62) ∨ (b = g68)) fun _ _ h => .inr (.inr (.inr h)))).trans (Frm.of_ext (G := fun b => (b = g30) ∨ (b = g36) ∨ (b = g62) ∨ (b = g68)) hE86)) q3)
  have h93 := (hd_56.frmB (((((Frm.of_ext (G := fun b => (b = g62) ∨ (b = g68)) hE65).trans (Frm.of_ext (G := fun b => (b = g62) ∨ (b = g68)) hE71)).trans (hU76.mono (G' := fun b => (b = g62) ∨ (b = g68)) fun _ _ h => .inl h)).trans (hU81.mono (G' := fun b => (b = g62) ∨ (b = g68)) fun _ _ h => .inr h)).trans (Frm.of_ext (G := fun b => (b = g62) ∨ (b = g68)) hE86)) q3)
  refine dOp 2 rfl rfl (by kernel_rfl) (oCall rfl call69 (integer_Mul h92 h93 (by omega)) rfl ?_)
  rintro _ w95 ⟨gr_94, Ar_94, nr_94, cr_94, dr_94, rfl, hE96, hr_94, v_94, cn_94, le_94⟩
  refine ⟨(Frm.of_ext hE96), ?_⟩
  have hz97 := hE96.size
  have lr_94 := hr_94.len; have kr_94 := hr_94.cap; have mr_94 := hr_94.max
  have h99 := (hn_56.frmB ((((((Frm.of_ext (G := fun b => (b = g62) ∨ (b = g68)) hE65).trans (Frm.of_ext (G := fun b => (b = g62) ∨ (b = g68)) hE71)).trans (hU76.mono (G' := fun b => (b = g62) ∨ (b = g68)) fun _ _ h => .inl h)).trans (hU81.mono (G' := fun b => (b = g62) ∨ (b = g68)) fun _ _ h => .inr h)).trans (Frm.of_ext (G := fun b => (b = g62) ∨ (b = g68)) hE86)).trans (Frm.of_ext (G := fun b => (b = g62) ∨ (b = g68)) hE96)) q3)
  have h100 := (hd_24.frmB (((((((((((Frm.of_ext (G := fun b => (b = g30) ∨ (b = g36) ∨ (b = g62) ∨ (b = g68)) hE33).trans (Frm.of_ext (G := fun b => (b = g30) ∨ (b = g36) ∨ (b = g62) ∨ (b = g68)) hE39)).trans (hU44.mono (G' := fun b => (b = g30) ∨ (b = g36) ∨ (b = g62) ∨ (b = g68)) fun _ _ h => .inl h)).trans (hU49.mono (G' := fun b => (b = g30) ∨ (b = g36) ∨ (b = g62) ∨ (b = g68)) fun _ _ h => .inr (.inl h))).trans (Frm.of_ext (G := fun b => (b = g30) ∨ (b = g36) ∨ (b = g62) ∨ (b = g68)) hE58)).trans (Frm.of_ext (G := fun b => (b = g30) ∨ (b = g36) ∨ (b = g62) ∨ (b = g68)) hE65)).trans (Frm.of_ext (G := fun b => (b = g30) ∨ (b = g36) ∨ (b = g62) ∨ (b = g68)) hE71)).trans (hU76.mono (G' := fun b => (b = g30) ∨ (b = g36) ∨ (b = g62) ∨ (b = g68)) fun _ _ h => .inr (.inr (.inl h)))).trans (hU81.mono (G' := fun b => (b = g30) ∨ (b = g36) ∨ (b = g62) ∨ (b = g68)) fun _ _ h => .inr (.inr (.inr h)))).trans (Frm.of_ext (G := fun b => (b = g30) ∨ (b = g36) ∨ (b = g62) ∨ (b = g68)) hE86)).trans (Frm.of_ext (G := fun b => (b = g30) ∨ (b = g36) ∨ (b = g62) ∨ (b = g68)) hE96)) q3)
  refine dOp 5 rfl rfl (by kernel_rfl) (oCall rfl call69 (integer_Mul h99 h100 (by omega)) rfl ?_)
  rintro _ w102 ⟨gr_101, Ar_101, nr_101, cr_101, dr_101, rfl, hE103, hr_101, v_101, cn_101, le_101⟩
  refine ⟨(Frm.of_ext hE103), ?_⟩
  have hz104 := hE103.size
  have lr_101 := hr_101.len; have kr_101 := hr_101.cap; have mr_101 := hr_101.max
  have h106 := (hr_94.ext hE103)
  refine dOp 6 rfl rfl (by kernel_rfl) (oCall rfl call56 (integer_Add h106 hr_101 (by omega) (by omega)) rfl ?_)
  rintro _ w108 ⟨gr_107, Ar_107, nr_107, cr_107, dr_107, rfl, hE109, hr_107, v_107, cn_107, le_107⟩
  refine ⟨(Frm.of_ext hE109), ?_⟩
  have hz110 := hE109.size
  have lr_107 := hr_107.len; have kr_107 := hr_107.cap; have mr_107 := hr_107.max
  have h112 := (h100.ext (hE103.trans hE109))
  have h113 := (h93.ext ((hE96.trans hE103).trans hE109))
  refine dOp 9 rfl rfl (by kernel_rfl) (oCall rfl call69 (integer_Mul h112 h113 (by omega)) rfl ?_)
  rintro _ w115 ⟨gr_114, Ar_114, nr_114, cr_114, dr_114, rfl, hE116, hr_114, v_114, cn_114, le_114⟩
  refine ⟨(Frm.of_ext hE116), ?_⟩
  have hz117 := hE116.size
  have lr_114 := hr_114.len; have kr_114 := hr_114.cap; have mr_114 := hr_114.max
  have hdd : 0 < zval gr_114 dr_114 := by rw [v_114]; exact Int.mul_pos hdp_24 hdp_56
  have h119 := (hr_107.ext hE116)
  refine dOp 10 rfl rfl (by kernel_rfl) (oCall rfl call93 (rational_reduce h119 hr_114 (by omega) (by omega) (by omega)) rfl ?_)
  rintro _ w121 ⟨gr_120, Ar_120, nr_120, cr_120, dr_120, Arv_120, nrv_120, crv_120, drv_120, rfl, hE122, hr_120, hrv_120, x_120, p_120, cn_120, cv_120, co_120, bn_120, bd_120⟩
  refine ⟨(Frm.of_ext hE122), ?_⟩
  have hz123 := hE122.size
  have lr_120 := hr_120.len; have kr_120 := hr_120.cap; have mr_120 := hr_120.max
  have lrv_120 := hrv_120.len; have krv_120 := hrv_120.cap; have mrv_120 := hrv_120.max
  have hB126 := (hB19.frm ((((((((((((((((Frm.of_ext (G := fun b => (b = g30) ∨ (b = g36) ∨ (b = g62) ∨ (b = g68)) hE26).trans (Frm.of_ext (G := fun b => (b = g30) ∨ (b = g36) ∨ (b = g62) ∨ (b = g68)) hE33)).trans (Frm.of_ext (G := fun b => (b = g30) ∨ (b = g36) ∨ (b = g62) ∨ (b = g68)) hE39)).trans (hU44.mono (G' := fun b => (b = g30) ∨ (b = g36) ∨ (b = g62) ∨ (b = g68)) fun _ _ h => .inl h)).trans (hU49.mono (G' := fun b => (b = g30) ∨ (b = g36) ∨ (b = g62) ∨ (b = g68)) fun _ _ h => .inr (.inl h))).trans (Frm.of_ext (G := fun b => (b = g30) ∨ (b = g36) ∨ (b = g62) ∨ (b = g68)) hE58)).trans (Frm.of_ext (G := fun b => (b = g30) ∨ (b = g36) ∨ (b = g62) ∨ (b = g68)) hE65)).trans (Frm.of_ext (G := fun b => (b = g30) ∨ (b = g36) ∨ (b = g62) ∨ (b = g68)) hE71)).trans (hU76.mono (G' := fun b => (b = g30) ∨ (b = g36) ∨ (b = g62) ∨ (b = g68)) fun _ _ h => .inr (.inr (.inl h)))).trans (hU81.mono (G' := fun b => (b = g30) ∨ (b = g36) ∨ (b = g62) ∨ (b = g68)) fun _ _ h => .inr (.inr (.inr h)))).trans (Frm.of_ext (G := fun b => (b = g30) ∨ (b = g36) ∨ (b = g62) ∨ (b = g68)) hE86)).trans (Frm.of_ext (G := fun b => (b = g30) ∨ (b = g36) ∨ (b = g62) ∨ (b = g68)) hE96)).trans (Frm.of_ext (G := fun b => (b = g30) ∨ (b = g36) ∨ (b = g62) ∨ (b = g68)) hE103)).trans (Frm.of_ext (G := fun b => (b = g30) ∨ (b = g36) ∨ (b = g62) ∨ (b = g68)) hE109)).trans (Frm.of_ext (G := fun b => (b = g30) ∨ (b = g36) ∨ (b = g62) ∨ (b = g68)) hE116)).trans (Frm.of_ext (G := fun b => (b = g30) ∨ (b = g36) ∨ (b = g62) ∨ (b = g68)) hE122)) q1)
  refine dOp 11 rfl rfl (by kernel_rfl) (oStore [(.bool gr_120), (.slice Ar_120 nr_120 cr_120), (.slice Arv_120 nrv_120 crv_120)] rfl rfl rfl sz64 rfl hB126 (Nat.le_of_ble_eq_true rfl) ?_)
  intro w127 hU128 hz129 hB130
  replace hB130 : Blk w127 g14 64 [(.bool gr_120), (.slice Ar_120 nr_120 cr_120), (.slice Arv_120 nrv_120 crv_120)] := hB130
  refine ⟨hU128, ?_⟩
  refine dDone (by kernel_rfl) ?_
  refine xN (hK84 _ _ ?_)
  refine wp_ret ?_
  refine ret1 (.agg #[(.bool gr_120), (.slice Ar_120 nr_120 cr_120), (.slice Arv_120 nrv_120 crv_120)]) Try.results61 (resB [(.bool gr_120), (.slice Ar_120 nr_120 cr_120), (.slice Arv_120 nrv_120 crv_120)] agg64 sz64 rfl hB130) ?_
  have h131 := (hr_120.frmB hU128 q3)
  have h132 := (hrv_120.frmB hU128 q3)
  exact ⟨(gr_120), Ar_120, nr_120, cr_120, dr_120, Arv_120, nrv_120, crv_120, drv_120, rfl, (Frm.mono ((((((((((((((((((((Frm.of_ext (G := fun b => (b = g30) ∨ (b = g36) ∨ (b = g62) ∨ (b = g68) ∨ (b = g14)) hE5).trans (Frm.of_ext (G := fun b => (b = g30) ∨ (b = g36) ∨ (b = g62) ∨ (b = g68) ∨ (b = g14)) hE11)).trans (Frm.of_ext (G := fun b => (b = g30) ∨ (b = g36) ∨ (b = g62) ∨ (b = g68) ∨ (b = g14)) hE17)).trans (Frm.of_ext (G := fun b => (b = g30) ∨ (b = g36) ∨ (b = g62) ∨ (b = g68) ∨ (b = g14)) hE26)).trans (Frm.of_ext (G := fun b => (b = g30) ∨ (b = g36) ∨ (b = g62) ∨ (b = g68) ∨ (b = g14)) hE33)).trans (Frm.of_ext (G := fun b => (b = g30) ∨ (b = g36) ∨ (b = g62) ∨ (b = g68) ∨ (b = g14)) hE39)).trans (hU44.mono (G' := fun b => (b = g30) ∨ (b = g36) ∨ (b = g62) ∨ (b = g68) ∨ (b = g14)) fun _ _ h => .inl h)).trans (hU49.mono (G' := fun b => (b = g30) ∨ (b = g36) ∨ (b = g62) ∨ (b = g68) ∨ (b = g14)) fun _ _ h => .inr (.inl h))).trans (Frm.of_ext (G := fun b => (b = g30) ∨ (b = g36) ∨ (b = g62) ∨ (b = g68) ∨ (b = g14)) hE58)).trans (Frm.of_ext (G := fun b => (b = g30) ∨ (b = g36) ∨ (b = g62) ∨ (b = g68) ∨ (b = g14)) hE65)).trans (Frm.of_ext (G := fun b => (b = g30) ∨ (b = g36) ∨ (b = g62) ∨ (b = g68) ∨ (b = g14)) hE71)).trans (hU76.mono (G' := fun b => (b = g30) ∨ (b = g36) ∨ (b = g62) ∨ (b = g68) ∨ (b = g14)) fun _ _ h => .inr (.inr (.inl h)))).trans (hU81.mono (G' := fun b => (b = g30) ∨ (b = g36) ∨ (b = g62) ∨ (b = g68) ∨ (b = g14)) fun _ _ h => .inr (.inr (.inr (.inl h))))).trans (Frm.of_ext (G := fun b => (b = g30) ∨ (b = g36) ∨ (b = g62) ∨ (b = g68) ∨ (b = g14)) hE86)).trans (Frm.of_ext (G := fun b => (b = g30) ∨ (b = g36) ∨ (b = g62) ∨ (b = g68) ∨ (b = g14)) hE96)).trans (Frm.of_ext (G := fun b => (b = g30) ∨ (b = g36) ∨ (b = g62) ∨ (b = g68) ∨ (b = g14)) hE103)).trans (Frm.of_ext (G := fun b => (b = g30) ∨ (b = g36) ∨ (b = g62) ∨ (b = g68) ∨ (b = g14)) hE109)).trans (Frm.of_ext (G := fun b => (b = g30) ∨ (b = g36) ∨ (b = g62) ∨ (b = g68) ∨ (b = g14)) hE116)).trans (Frm.of_ext (G := fun b => (b = g30) ∨ (b = g36) ∨ (b = g62) ∨ (b = g68) ∨ (b = g14)) hE122)).trans (hU128.mono (G' := fun b => (b = g30) ∨ (b = g36) ∨ (b = g62) ∨ (b = g68) ∨ (b = g14)) fun _ _ h => .inr (.inr (.inr (.inr h))))) q4), (NatR.sub h131 q5), (NatR.sub h132 q5), (by rw [← vd_24, ← vd_56, ← vn_24, ← vn_56, ← v_114, ← v_94, ← v_101, ← v_107]; exact x_120), p_120, cn_120, cv_120, co_120, (by omega), (by omega)⟩

theorem rational_Mul {w : World} {ga : Bool} {Sa : Nat → Prop} {Aa : Option Addr} {na ca : Nat} {da : List Nat} {Sav : Nat → Prop} {Aav : Option Addr} {nav cav : Nat} {dav : List Nat} {gb : Bool} {Sb : Nat → Prop} {Ab : Option Addr} {nb cb : Nat} {db : List Nat} {Sbv : Nat → Prop} {Abv : Option Addr} {nbv cbv : Nat} {dbv : List Nat} (ha : NatR w Sa Aa na ca da) (hav : NatR w Sav Aav nav cav dav) (hb : NatR w Sb Ab nb cb db) (hbv : NatR w Sbv Abv nbv cbv dbv) (hna : na ≤ 8589934592) (hnav : nav ≤ 8589934592) (hnb : nb ≤ 8589934592) (hnbv : nbv ≤ 8589934592) : Calls Try.prog 63 #[(.agg #[(.bool ga), (.slice Aa na ca), (.slice Aav nav cav)]), (.agg #[(.bool gb), (.slice Ab nb cb), (.slice Abv nbv cbv)])] w (Ret fun v w' => ∃ (gr : Bool) (Ar : Option Addr) (nr : Nat) (cr : Nat) (dr : List Nat) (Arv : Option Addr) (nrv : Nat) (crv : Nat) (drv : List Nat), v = (.agg #[(.bool gr), (.slice Ar nr cr), (.slice Arv nrv crv)]) ∧ Ext w w' ∧ NatR w' (fun b => w.heap.size ≤ b) Ar nr cr dr ∧ NatR w' (fun b => w.heap.size ≤ b) Arv nrv crv drv ∧ (zval gr dr * ((rden (val dav) : Int) * (rden (val dbv) : Int)) = (rnum (zval ga da) (val dav) * rnum (zval gb db) (val dbv)) * (val drv : Int)) ∧ (0 < val drv) ∧ (ICan gr dr) ∧ (Canon isZ drv) ∧ (Nat.gcd (val dr) (val drv) = 1) ∧ (nr ≤ na + nb + nav + nbv + 8) ∧ (nrv ≤ nav + nbv + 8)) := by
  have la := ha.len; have ka := ha.cap; have ma := ha.max
  replace ha := ha.low
  have lav := hav.len; have kav := hav.cap; have mav := hav.max
  replace hav := hav.low
  have lb := hb.len; have kb := hb.cap; have mb := hb.max
  replace hb := hb.low
  have lbv := hbv.len; have kbv := hbv.cap; have mbv := hbv.max
  replace hbv := hbv.low
  refine enter Try.func63 rfl Try.ntmps63 rfl ?_
  refine wp_seq_k fun K1 hK1 => ?_
  refine wp_region_lit ?_
  refine sOp rfl (oBox [(.bool ga), (.slice Aa na ca), (.slice Aav nav cav)] rfl rfl ?_)
  intro g2 w3 hg4 hE5 hz6 hB7
  refine sOp rfl (oBox [(.bool gb), (.slice Ab nb cb), (.slice Abv nbv cbv)] rfl rfl ?_)
  intro g8 w9 hg10 hE11 hz12 hB13
  refine sOp rfl (oAlloc [(.bool false), (.slice none 0 0), (.slice none 0 0)] zero64 rfl ?_)
  intro g14 w15 hg16 hE17 hz18 hB19
  refine sDone ?_
  refine xN (hK1 _ _ ?_)
  refine wp_seq_k fun K20 hK20 => ?_
  refine wp_region_lit ?_
  have hB21 := (hB7.ext (hE11.trans hE17))
  refine sEv (v := (.agg #[(.bool ga), (.slice Aa na ca), (.slice Aav nav cav)])) (evLoadAB [(.bool ga), (.slice Aa na ca), (.slice Aav nav cav)] agg64 sz64 rfl hB21 rfl) rfl rfl ?_
  have h22 := (ha.ext ((hE5.trans hE11).trans hE17))
  have h23 := (hav.ext ((hE5.trans hE11).trans hE17))
  refine sOp rfl (oCall rfl call92 (rational_parts h22 h23) rfl ?_)
  rintro _ w25 ⟨gn_24, An_24, nn_24, cn_24, dn_24, gd_24, Ad_24, nd_24, cd_24, dd_24, rfl, hE26, hn_24, hd_24, vn_24, vd_24, bn_24, bd_24⟩
  have hz27 := hE26.size
  have ln_24 := hn_24.len; have kn_24 := hn_24.cap; have mn_24 := hn_24.max
  replace hn_24 := hn_24.low
  have ld_24 := hd_24.len; have kd_24 := hd_24.cap; have md_24 := hd_24.max
  replace hd_24 := hd_24.low
  have hdp_24 : 0 < zval gd_24 dd_24 := by rw [vd_24]; have h := rden_pos (val dav); omega
  refine sEv (v := (.tuple #[(.agg #[(.bool gn_24), (.slice An_24 nn_24 cn_24)]), (.agg #[(.bool gd_24), (.slice Ad_24 nd_24 cd_24)])])) (rfl) rfl rfl ?_
  refine sEv (v := (.agg #[(.bool gn_24), (.slice An_24 nn_24 cn_24)])) (rfl) rfl rfl ?_
  refine sEv (v := (.agg #[(.bool gd_24), (.slice Ad_24 nd_24 cd_24)])) (rfl) rfl rfl ?_
  refine sOp rfl (oAlloc [(.bool false), (.slice none 0 0)] zero46 rfl ?_)
  intro g30 w31 hg32 hE33 hz34 hB35
  refine sOp rfl (oAlloc [(.bool false), (.slice none 0 0)] zero46 rfl ?_)
  intro g36 w37 hg38 hE39 hz40 hB41
  have hB42 := (hB35.ext hE39)
  refine sOp rfl (oStore [(.bool gn_24), (.slice An_24 nn_24 cn_24)] rfl rfl rfl sz46 rfl hB42 (Nat.le_of_ble_eq_true rfl) ?_)
  intro w43 hU44 hz45 hB46
  replace hB46 : Blk w43 g30 46 [(.bool gn_24), (.slice An_24 nn_24 cn_24)] := hB46
  have hB47 := (hB41.frm hU44 q1)
  refine sOp rfl (oStore [(.bool gd_24), (.slice Ad_24 nd_24 cd_24)] rfl rfl rfl sz46 rfl hB47 (Nat.le_of_ble_eq_true rfl) ?_)
  intro w48 hU49 hz50 hB51
  replace hB51 : Blk w48 g36 46 [(.bool gd_24), (.slice Ad_24 nd_24 cd_24)] := hB51
  refine sDone ?_
  refine xN (hK20 _ _ ?_)
  refine wp_seq_k fun K52 hK52 => ?_
  refine wp_region_lit ?_
  have hB53 := (hB13.frm ((((((Frm.of_ext (G := fun b => (b = g30) ∨ (b = g36)) hE17).trans (Frm.of_ext (G := fun b => (b = g30) ∨ (b = g36)) hE26)).trans (Frm.of_ext (G := fun b => (b = g30) ∨ (b = g36)) hE33)).trans (Frm.of_ext (G := fun b => (b = g30) ∨ (b = g36)) hE39)).trans (hU44.mono (G' := fun b => (b = g30) ∨ (b = g36)) fun _ _ h => .inl h)).trans (hU49.mono (G' := fun b => (b = g30) ∨ (b = g36)) fun _ _ h => .inr h)) q1)
  refine sEv (v := (.agg #[(.bool gb), (.slice Ab nb cb), (.slice Abv nbv cbv)])) (evLoadAB [(.bool gb), (.slice Ab nb cb), (.slice Abv nbv cbv)] agg64 sz64 rfl hB53 rfl) rfl rfl ?_
  have h54 := (hb.frmB ((((((((Frm.of_ext (G := fun b => (b = g30) ∨ (b = g36)) hE5).trans (Frm.of_ext (G := fun b => (b = g30) ∨ (b = g36)) hE11)).trans (Frm.of_ext (G := fun b => (b = g30) ∨ (b = g36)) hE17)).trans (Frm.of_ext (G := fun b => (b = g30) ∨ (b = g36)) hE26)).trans (Frm.of_ext (G := fun b => (b = g30) ∨ (b = g36)) hE33)).trans (Frm.of_ext (G := fun b => (b = g30) ∨ (b = g36)) hE39)).trans (hU44.mono (G' := fun b => (b = g30) ∨ (b = g36)) fun _ _ h => .inl h)).trans (hU49.mono (G' := fun b => (b = g30) ∨ (b = g36)) fun _ _ h => .inr h)) q3)
  have h55 := (hbv.frmB ((((((((Frm.of_ext (G := fun b => (b = g30) ∨ (b = g36)) hE5).trans (Frm.of_ext (G := fun b => (b = g30) ∨ (b = g36)) hE11)).trans (Frm.of_ext (G := fun b => (b = g30) ∨ (b = g36)) hE17)).trans (Frm.of_ext (G := fun b => (b = g30) ∨ (b = g36)) hE26)).trans (Frm.of_ext (G := fun b => (b = g30) ∨ (b = g36)) hE33)).trans (Frm.of_ext (G := fun b => (b = g30) ∨ (b = g36)) hE39)).trans (hU44.mono (G' := fun b => (b = g30) ∨ (b = g36)) fun _ _ h => .inl h)).trans (hU49.mono (G' := fun b => (b = g30) ∨ (b = g36)) fun _ _ h => .inr h)) q3)
  refine sOp rfl (oCall rfl call92 (rational_parts h54 h55) rfl ?_)
  rintro _ w57 ⟨gn_56, An_56, nn_56, cn_56, dn_56, gd_56, Ad_56, nd_56, cd_56, dd_56, rfl, hE58, hn_56, hd_56, vn_56, vd_56, bn_56, bd_56⟩
  have hz59 := hE58.size
  have ln_56 := hn_56.len; have kn_56 := hn_56.cap; have mn_56 := hn_56.max
  replace hn_56 := hn_56.low
  have ld_56 := hd_56.len; have kd_56 := hd_56.cap; have md_56 := hd_56.max
  replace hd_56 := hd_56.low
  have hdp_56 : 0 < zval gd_56 dd_56 := by rw [vd_56]; have h := rden_pos (val dbv); omega
  refine sEv (v := (.tuple #[(.agg #[(.bool gn_56), (.slice An_56 nn_56 cn_56)]), (.agg #[(.bool gd_56), (.slice Ad_56 nd_56 cd_56)])])) (rfl) rfl rfl ?_
  refine sEv (v := (.agg #[(.bool gn_56), (.slice An_56 nn_56 cn_56)])) (rfl) rfl rfl ?_
  refine sEv (v := (.agg #[(.bool gd_56), (.slice Ad_56 nd_56 cd_56)])) (rfl) rfl rfl ?_
  refine sOp rfl (oAlloc [(.bool false), (.slice none 0 0)] zero46 rfl ?_)
  intro g62 w63 hg64 hE65 hz66 hB67
  refine sOp rfl (oAlloc [(.bool false), (.slice none 0 0)] zero46 rfl ?_)
  intro g68 w69 hg70 hE71 hz72 hB73
  have hB74 := (hB67.ext hE71)
  refine sOp rfl (oStore [(.bool gn_56), (.slice An_56 nn_56 cn_56)] rfl rfl rfl sz46 rfl hB74 (Nat.le_of_ble_eq_true rfl) ?_)
  intro w75 hU76 hz77 hB78
  replace hB78 : Blk w75 g62 46 [(.bool gn_56), (.slice An_56 nn_56 cn_56)] := hB78
  have hB79 := (hB73.frm hU76 q1)
  refine sOp rfl (oStore [(.bool gd_56), (.slice Ad_56 nd_56 cd_56)] rfl rfl rfl sz46 rfl hB79 (Nat.le_of_ble_eq_true rfl) ?_)
  intro w80 hU81 hz82 hB83
  replace hB83 : Blk w80 g68 46 [(.bool gd_56), (.slice Ad_56 nd_56 cd_56)] := hB83
  refine sDone ?_
  refine xN (hK52 _ _ ?_)
  refine wp_seq_k fun K84 hK84 => ?_
  refine dBegin (fun b => b = g14) mixed ?_
  intro w85 hE86 hz87
  have hB88 := (hB46.frm (((((((hU49.mono (G' := fun b => (b = g36) ∨ (b = g62) ∨ (b = g68)) fun _ _ h => .inl h).trans (Frm.of_ext (G := fun b => (b = g36) ∨ (b = g62) ∨ (b = g68)) hE58)).trans (Frm.of_ext (G := fun b => (b = g36) ∨ (b = g62) ∨ (b = g68)) hE65)).trans (Frm.of_ext (G := fun b => (b = g36) ∨ (b = g62) ∨ (b = g68)) hE71)).trans (hU76.mono (G' := fun b => (b = g36) ∨ (b = g62) ∨ (b = g68)) fun _ _ h => .inr (.inl h))).trans (hU81.mono (G' := fun b => (b = g36) ∨ (b = g62) ∨ (b = g68)) fun _ _ h => .inr (.inr h))).trans (Frm.of_ext (G := fun b => (b = g36) ∨ (b = g62) ∨ (b = g68)) hE86)) q1)
  refine dEv 0 rfl (v := (.agg #[(.bool gn_24), (.slice An_24 nn_24 cn_24)])) (fun _ hf => evLoadAB [(.bool gn_24), (.slice An_24 nn_24 cn_24)] agg46 sz46 rfl (hB88.frm hf q1) rfl) rfl rfl (by kernel_rfl) ?_
  have hB89 := (hB78.frm (hU81.trans (Frm.of_ext (G := fun b => (b = g68)) hE86)) q1)
  refine dEv 1 rfl (v := (.agg #[(.bool gn_56), (.slice An_56 nn_56 cn_56)])) (fun _ hf => evLoadAB [(.bool gn_56), (.slice An_56 nn_56 cn_56)] agg46 sz46 rfl (hB89.frm hf q1) rfl) rfl rfl (by kernel_rfl) ?_
  have hB90 := (hB51.frm ((((((Frm.of_ext (G := fun b => (b = g62) ∨ (b = g68)) hE58).trans (Frm.of_ext (G := fun b => (b = g62) ∨ (b = g68)) hE65)).trans (Frm.of_ext (G := fun b => (b = g62) ∨ (b = g68)) hE71)).trans (hU76.mono (G' := fun b => (b = g62) ∨ (b = g68)) fun _ _ h => .inl h)).trans (hU81.mono (G' := fun b => (b = g62) ∨ (b = g68)) fun _ _ h => .inr h)).trans (Frm.of_ext (G := fun b => (b = g62) ∨ (b = g68)) hE86)) q1)
  refine dEv 3 rfl (v := (.agg #[(.bool gd_24), (.slice Ad_24 nd_24 cd_24)])) (fun _ hf => evLoadAB [(.bool gd_24), (.slice Ad_24 nd_24 cd_24)] agg46 sz46 rfl (hB90.frm hf q1) rfl) rfl rfl (by kernel_rfl) ?_
  have hB91 := (hB83.ext hE86)
  refine dEv 4 rfl (v := (.agg #[(.bool gd_56), (.slice Ad_56 nd_56 cd_56)])) (fun _ hf => evLoadAB [(.bool gd_56), (.slice Ad_56 nd_56 cd_56)] agg46 sz46 rfl (hB91.frm hf q1) rfl) rfl rfl (by kernel_rfl) ?_
  have h92 := (hn_24.frmB ((((((((((Frm.of_ext (G := fun b => (b = g30) ∨ (b = g36) ∨ (b = g62) ∨ (b = g68)) hE33).trans (Frm.of_ext (G := fun b => (b = g30) ∨ (b = g36) ∨ (b = g62) ∨ (b = g68)) hE39)).trans (hU44.mono (G' := fun b => (b = g30) ∨ (b = g36) ∨ (b = g62) ∨ (b = g68)) fun _ _ h => .inl h)).trans (hU49.mono (G' := fun b => (b = g30) ∨ (b = g36) ∨ (b = g62) ∨ (b = g68)) fun _ _ h => .inr (.inl h))).trans (Frm.of_ext (G := fun b => (b = g30) ∨ (b = g36) ∨ (b = g62) ∨ (b = g68)) hE58)).trans (Frm.of_ext (G := fun b => (b = g30) ∨ (b = g36) ∨ (b = g62) ∨ (b = g68)) hE65)).trans (Frm.of_ext (G := fun b => (b = g30) ∨ (b = g36) ∨ (b = g62) ∨ (b = g68)) hE71)).trans (hU76.mono (G' := fun b => (b = g30) ∨ (b = g36) ∨ (b = g62) ∨ (b = g68)) fun _ _ h => .inr (.inr (.inl h)))).trans (hU81.mono (G' := fun b => (b = g30) ∨ (b = g36) ∨ (b = g62) ∨ (b = g68)) fun _ _ h => .inr (.inr (.inr h)))).trans (Frm.of_ext (G := fun b => (b = g30) ∨ (b = g36) ∨ (b = g62) ∨ (b = g68)) hE86)) q3)
  have h93 := (hn_56.frmB (((((Frm.of_ext (G := fun b => (b = g62) ∨ (b = g68)) hE65).trans (Frm.of_ext (G := fun b => (b = g62) ∨ (b = g68)) hE71)).trans (hU76.mono (G' := fun b => (b = g62) ∨ (b = g68)) fun _ _ h => .inl h)).trans (hU81.mono (G' := fun b => (b = g62) ∨ (b = g68)) fun _ _ h => .inr h)).trans (Frm.of_ext (G := fun b => (b = g62) ∨ (b = g68)) hE86)) q3)
  refine dOp 2 rfl rfl (by kernel_rfl) (oCall rfl call69 (integer_Mul h92 h93 (by omega)) rfl ?_)
  rintro _ w95 ⟨gr_94, Ar_94, nr_94, cr_94, dr_94, rfl, hE96, hr_94, v_94, cn_94, le_94⟩
  refine ⟨(Frm.of_ext hE96), ?_⟩
  have hz97 := hE96.size
  have lr_94 := hr_94.len; have kr_94 := hr_94.cap; have mr_94 := hr_94.max
  have h99 := (hd_24.frmB (((((((((((Frm.of_ext (G := fun b => (b = g30) ∨ (b = g36) ∨ (b = g62) ∨ (b = g68)) hE33).trans (Frm.of_ext (G := fun b => (b = g30) ∨ (b = g36) ∨ (b = g62) ∨ (b = g68)) hE39)).trans (hU44.mono (G' := fun b => (b = g30) ∨ (b = g36) ∨ (b = g62) ∨ (b = g68)) fun _ _ h => .inl h)).trans (hU49.mono (G' := fun b => (b = g30) ∨ (b = g36) ∨ (b = g62) ∨ (b = g68)) fun _ _ h => .inr (.inl h))).trans (Frm.of_ext (G := fun b => (b = g30) ∨ (b = g36) ∨ (b = g62) ∨ (b = g68)) hE58)).trans (Frm.of_ext (G := fun b => (b = g30) ∨ (b = g36) ∨ (b = g62) ∨ (b = g68)) hE65)).trans (Frm.of_ext (G := fun b => (b = g30) ∨ (b = g36) ∨ (b = g62) ∨ (b = g68)) hE71)).trans (hU76.mono (G' := fun b => (b = g30) ∨ (b = g36) ∨ (b = g62) ∨ (b = g68)) fun _ _ h => .inr (.inr (.inl h)))).trans (hU81.mono (G' := fun b => (b = g30) ∨ (b = g36) ∨ (b = g62) ∨ (b = g68)) fun _ _ h => .inr (.inr (.inr h)))).trans (Frm.of_ext (G := fun b => (b = g30) ∨ (b = g36) ∨ (b = g62) ∨ (b = g68)) hE86)).trans (Frm.of_ext (G := fun b => (b = g30) ∨ (b = g36) ∨ (b = g62) ∨ (b = g68)) hE96)) q3)
  have h100 := (hd_56.frmB ((((((Frm.of_ext (G := fun b => (b = g62) ∨ (b = g68)) hE65).trans (Frm.of_ext (G := fun b => (b = g62) ∨ (b = g68)) hE71)).trans (hU76.mono (G' := fun b => (b = g62) ∨ (b = g68)) fun _ _ h => .inl h)).trans (hU81.mono (G' := fun b => (b = g62) ∨ (b = g68)) fun _ _ h => .inr h)).trans (Frm.of_ext (G := fun b => (b = g62) ∨ (b = g68)) hE86)).trans (Frm.of_ext (G := fun b => (b = g62) ∨ (b = g68)) hE96)) q3)
  refine dOp 5 rfl rfl (by kernel_rfl) (oCall rfl call69 (integer_Mul h99 h100 (by omega)) rfl ?_)
  rintro _ w102 ⟨gr_101, Ar_101, nr_101, cr_101, dr_101, rfl, hE103, hr_101, v_101, cn_101, le_101⟩
  refine ⟨(Frm.of_ext hE103), ?_⟩
  have hz104 := hE103.size
  have lr_101 := hr_101.len; have kr_101 := hr_101.cap; have mr_101 := hr_101.max
  have hdd : 0 < zval gr_101 dr_101 := by rw [v_101]; exact Int.mul_pos hdp_24 hdp_56
  have h106 := (hr_94.ext hE103)
  refine dOp 6 rfl rfl (by kernel_rfl) (oCall rfl call93 (rational_reduce h106 hr_101 (by omega) (by omega) (by omega)) rfl ?_)
  rintro _ w108 ⟨gr_107, Ar_107, nr_107, cr_107, dr_107, Arv_107, nrv_107, crv_107, drv_107, rfl, hE109, hr_107, hrv_107, x_107, p_107, cn_107, cv_107, co_107, bn_107, bd_107⟩
  refine ⟨(Frm.of_ext hE109), ?_⟩
  have hz110 := hE109.size
  have lr_107 := hr_107.len; have kr_107 := hr_107.cap; have mr_107 := hr_107.max
  have lrv_107 := hrv_107.len; have krv_107 := hrv_107.cap; have mrv_107 := hrv_107.max
  have hB113 := (hB19.frm ((((((((((((((Frm.of_ext (G := fun b => (b = g30) ∨ (b = g36) ∨ (b = g62) ∨ (b = g68)) hE26).trans (Frm.of_ext (G := fun b => (b = g30) ∨ (b = g36) ∨ (b = g62) ∨ (b = g68)) hE33)).trans (Frm.of_ext (G := fun b => (b = g30) ∨ (b = g36) ∨ (b = g62) ∨ (b = g68)) hE39)).trans (hU44.mono (G' := fun b => (b = g30) ∨ (b = g36) ∨ (b = g62) ∨ (b = g68)) fun _ _ h => .inl h)).trans (hU49.mono (G' := fun b => (b = g30) ∨ (b = g36) ∨ (b = g62) ∨ (b = g68)) fun _ _ h => .inr (.inl h))).trans (Frm.of_ext (G := fun b => (b = g30) ∨ (b = g36) ∨ (b = g62) ∨ (b = g68)) hE58)).trans (Frm.of_ext (G := fun b => (b = g30) ∨ (b = g36) ∨ (b = g62) ∨ (b = g68)) hE65)).trans (Frm.of_ext (G := fun b => (b = g30) ∨ (b = g36) ∨ (b = g62) ∨ (b = g68)) hE71)).trans (hU76.mono (G' := fun b => (b = g30) ∨ (b = g36) ∨ (b = g62) ∨ (b = g68)) fun _ _ h => .inr (.inr (.inl h)))).trans (hU81.mono (G' := fun b => (b = g30) ∨ (b = g36) ∨ (b = g62) ∨ (b = g68)) fun _ _ h => .inr (.inr (.inr h)))).trans (Frm.of_ext (G := fun b => (b = g30) ∨ (b = g36) ∨ (b = g62) ∨ (b = g68)) hE86)).trans (Frm.of_ext (G := fun b => (b = g30) ∨ (b = g36) ∨ (b = g62) ∨ (b = g68)) hE96)).trans (Frm.of_ext (G := fun b => (b = g30) ∨ (b = g36) ∨ (b = g62) ∨ (b = g68)) hE103)).trans (Frm.of_ext (G := fun b => (b = g30) ∨ (b = g36) ∨ (b = g62) ∨ (b = g68)) hE109)) q1)
  refine dOp 7 rfl rfl (by kernel_rfl) (oStore [(.bool gr_107), (.slice Ar_107 nr_107 cr_107), (.slice Arv_107 nrv_107 crv_107)] rfl rfl rfl sz64 rfl hB113 (Nat.le_of_ble_eq_true rfl) ?_)
  intro w114 hU115 hz116 hB117
  replace hB117 : Blk w114 g14 64 [(.bool gr_107), (.slice Ar_107 nr_107 cr_107), (.slice Arv_107 nrv_107 crv_107)] := hB117
  refine ⟨hU115, ?_⟩
  refine dDone (by kernel_rfl) ?_
  refine xN (hK84 _ _ ?_)
  refine wp_ret ?_
  refine ret1 (.agg #[(.bool gr_107), (.slice Ar_107 nr_107 cr_107), (.slice Arv_107 nrv_107 crv_107)]) Try.results63 (resB [(.bool gr_107), (.slice Ar_107 nr_107 cr_107), (.slice Arv_107 nrv_107 crv_107)] agg64 sz64 rfl hB117) ?_
  have h118 := (hr_107.frmB hU115 q3)
  have h119 := (hrv_107.frmB hU115 q3)
  exact ⟨(gr_107), Ar_107, nr_107, cr_107, dr_107, Arv_107, nrv_107, crv_107, drv_107, rfl, (Frm.mono ((((((((((((((((((Frm.of_ext (G := fun b => (b = g30) ∨ (b = g36) ∨ (b = g62) ∨ (b = g68) ∨ (b = g14)) hE5).trans (Frm.of_ext (G := fun b => (b = g30) ∨ (b = g36) ∨ (b = g62) ∨ (b = g68) ∨ (b = g14)) hE11)).trans (Frm.of_ext (G := fun b => (b = g30) ∨ (b = g36) ∨ (b = g62) ∨ (b = g68) ∨ (b = g14)) hE17)).trans (Frm.of_ext (G := fun b => (b = g30) ∨ (b = g36) ∨ (b = g62) ∨ (b = g68) ∨ (b = g14)) hE26)).trans (Frm.of_ext (G := fun b => (b = g30) ∨ (b = g36) ∨ (b = g62) ∨ (b = g68) ∨ (b = g14)) hE33)).trans (Frm.of_ext (G := fun b => (b = g30) ∨ (b = g36) ∨ (b = g62) ∨ (b = g68) ∨ (b = g14)) hE39)).trans (hU44.mono (G' := fun b => (b = g30) ∨ (b = g36) ∨ (b = g62) ∨ (b = g68) ∨ (b = g14)) fun _ _ h => .inl h)).trans (hU49.mono (G' := fun b => (b = g30) ∨ (b = g36) ∨ (b = g62) ∨ (b = g68) ∨ (b = g14)) fun _ _ h => .inr (.inl h))).trans (Frm.of_ext (G := fun b => (b = g30) ∨ (b = g36) ∨ (b = g62) ∨ (b = g68) ∨ (b = g14)) hE58)).trans (Frm.of_ext (G := fun b => (b = g30) ∨ (b = g36) ∨ (b = g62) ∨ (b = g68) ∨ (b = g14)) hE65)).trans (Frm.of_ext (G := fun b => (b = g30) ∨ (b = g36) ∨ (b = g62) ∨ (b = g68) ∨ (b = g14)) hE71)).trans (hU76.mono (G' := fun b => (b = g30) ∨ (b = g36) ∨ (b = g62) ∨ (b = g68) ∨ (b = g14)) fun _ _ h => .inr (.inr (.inl h)))).trans (hU81.mono (G' := fun b => (b = g30) ∨ (b = g36) ∨ (b = g62) ∨ (b = g68) ∨ (b = g14)) fun _ _ h => .inr (.inr (.inr (.inl h))))).trans (Frm.of_ext (G := fun b => (b = g30) ∨ (b = g36) ∨ (b = g62) ∨ (b = g68) ∨ (b = g14)) hE86)).trans (Frm.of_ext (G := fun b => (b = g30) ∨ (b = g36) ∨ (b = g62) ∨ (b = g68) ∨ (b = g14)) hE96)).trans (Frm.of_ext (G := fun b => (b = g30) ∨ (b = g36) ∨ (b = g62) ∨ (b = g68) ∨ (b = g14)) hE103)).trans (Frm.of_ext (G := fun b => (b = g30) ∨ (b = g36) ∨ (b = g62) ∨ (b = g68) ∨ (b = g14)) hE109)).trans (hU115.mono (G' := fun b => (b = g30) ∨ (b = g36) ∨ (b = g62) ∨ (b = g68) ∨ (b = g14)) fun _ _ h => .inr (.inr (.inr (.inr h))))) q4), (NatR.sub h118 q5), (NatR.sub h119 q5), (by rw [← vd_24, ← vd_56, ← vn_24, ← vn_56, ← v_101, ← v_94]; exact x_107), p_107, cn_107, cv_107, co_107, (by omega), (by omega)⟩

end Go.Proofs.Ytppegjbdencefaa
