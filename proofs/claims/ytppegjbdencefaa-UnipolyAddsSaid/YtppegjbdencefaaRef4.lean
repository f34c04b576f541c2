/-
  Walks of package cylinderref08: polynomials of the reference.
-/
import Derived.Test.YtppegjbdencefaaRef3
import Derived.Test.YtppegjbdencefaaPZPreds
import Derived.Test.YtppegjbdencefaaPolyMath2
namespace Go.Proofs.Ytppegjbdencefaa
open Go.RowKit Go.Gx
theorem ref08_Trim {w : World} {Sa : Nat → Prop} {Aa : Option Addr} {na ca Ma : Nat} {fa : List Int} (ha : PZR w Sa Aa na ca fa Ma)  : Calls Try.prog 29 #[(.slice Aa na ca)] w (Ret fun v w' => ∃ (Ar : Option Addr) (nr : Nat) (cr : Nat) (fr : List Int), v = (.slice Ar nr cr) ∧ Ext w w' ∧ PZR w' (Sa) Ar nr cr fr (Ma) ∧ (fr = trimZ fa) ∧ (nr ≤ na)) := by
  have la := ha.len; have ka := ha.cap; have ma := ha.max
  replace ha := ha.sub (S' := fun b => Sa b ∧ b < w.heap.size) fun _ hb hs => ⟨hs, hb⟩
  refine enter Try.func29 rfl Try.ntmps29 rfl ?_
  refine wp_seq_k fun K1 hK1 => ?_
  refine wp_region_lit ?_
  refine sEv (v := (.slice none 0 0)) (rfl) rfl rfl ?_
  refine sDone ?_
  refine xN (hK1 _ _ ?_)
  refine wp_seq_k fun K2 hK2 => ?_
  refine wp_region_lit ?_
  refine sEv (v := (.slice Aa na ca)) (rfl) rfl rfl ?_
  refine sEv (v := (.int .i64 ((na : Int)))) (evLen Try.underlying27 rfl) rfl rfl ?_
  refine sEv (v := (.int .i64 ((na : Int)))) (rfl) rfl rfl ?_
  refine sDone ?_
  refine xN (hK2 _ _ ?_)
  refine wp_seq_k fun K3 hK3 => ?_
  refine wp_block ?_
  refine lLoop (fun m e w_ => ∃ (k : Nat), m = k ∧ e 0 = (.slice Aa na ca) ∧ e 3 = (.int .i64 ((k : Int))) ∧ Frm (fun b => False) w w_ ∧ (k ≤ na) ∧ (∀ j, k ≤ j → fa.getD j 0 = 0)) ((na)) ?_ ?_
  · refine ⟨(na), rfl, rfl, (congrArg (Value.int .i64) (by omega)), (Frm.refl _ _), ?_, ?_⟩
    · omega
    · exact zget_ge (by omega)
  · rintro m4 e10 w5 ⟨k, hm9, hs6, hs7, hF8, hk, hz⟩
    obtain ⟨r11, rfl⟩ := sq (e := e10) (t := 0) hs6
    obtain ⟨r12, rfl⟩ := sq (e := r11) (t := 3) hs7
    have hz13 := hF8.size
    refine wp_seq_k fun K14 hK14 => ?_
    refine wp_seq_k fun K15 hK15 => ?_
    refine wp_region_lit ?_
    refine sEv (v := (.int .i64 ((k : Int)))) (rfl) rfl rfl ?_
    by_cases hc16 : ((k : Int)) > 0
    · refine sEv (v := (.bool true)) (evGtr true rfl rfl (dT hc16)) rfl rfl ?_
      refine sEv (v := (.bool true)) (rfl) rfl rfl ?_
      refine sEv (v := (.slice Aa na ca)) (rfl) rfl rfl ?_
      refine sEv (v := (.int .i64 ((k : Int)))) (rfl) rfl rfl ?_
      refine sEv (v := (.int .i64 (((k : Int)) - 1))) (evSub (((k : Int)) - 1) rfl rfl (wI64 (by omega))) rfl rfl ?_
      have h17 := (ha.ext hF8)
      obtain ⟨b18, o19, rfl⟩ := h17.base (by omega)
      refine sEv (v := (.pointer (some ⟨b18, o19 + ((k - 1) * 2), none⟩))) (evIndex (k - 1) Try.underlying27 sz31 rfl rfl (by omega) (by omega) (o19 + ((k - 1) * 2)) (by omega)) rfl rfl ?_
      refine sEv (v := (.pointer (some ⟨b18, o19 + ((k - 1) * 2), none⟩))) (evFA (o19 + ((k - 1) * 2)) fa31_0 rfl rfl) rfl rfl ?_
      obtain ⟨s_20, A_20, n_20, c_20, z_20, hp_20, hq_20, h_20, hM_20, hS_20, hb_20, hz_20⟩ := h17.at_ (i := k - 1) (by omega)
      have sg_20 := h_20.1; have k_20 := h_20.cap; have m_20 := h_20.max
      refine sEv (v := (.int .i64 (s_20))) (evLoad one3 rfl hp_20) rfl rfl ?_
      by_cases hc21 : s_20 = 0
      · refine sEv (v := (.bool true)) (evEql true rfl rfl (dT hc21)) rfl rfl ?_
        have hzz := (zsign_iff sg_20 hz_20).1 hc21
        refine sEv (v := (.bool true)) (rfl) rfl rfl ?_
        refine sDone ?_
        refine xN (hK15 _ _ ?_)
        refine cT rfl ?_
        refine wp_skip ?_
        refine xN (hK14 _ _ ?_)
        refine wp_block ?_
        refine wp_region_lit ?_
        refine sEv (v := (.int .i64 ((k : Int)))) (rfl) rfl rfl ?_
        refine sEv (v := (.int .i64 (((k : Int)) - 1))) (evSub (((k : Int)) - 1) rfl rfl (wI64 (by omega))) rfl rfl ?_
        refine sEv (v := (.int .i64 (((k : Int)) - 1))) (rfl) rfl rfl ?_
        refine sDone ?_
        refine bN ?_
        refine again ((k - 1)) (by omega) ⟨(k - 1), rfl, rfl, (congrArg (Value.int .i64) (by omega)), hF8, ?_, ?_⟩
        · omega
        · exact zeros_downZ hz hzz
      · refine sEv (v := (.bool false)) (evEql false rfl rfl (dF hc21)) rfl rfl ?_
        have hzz := fun hh => hc21 ((zsign_iff sg_20 hz_20).2 hh)
        refine sEv (v := (.bool false)) (rfl) rfl rfl ?_
        refine sDone ?_
        refine xN (hK15 _ _ ?_)
        refine cF rfl ?_
        refine wp_exit (xE (xE (bE ?_)))
        refine xN (hK3 _ _ ?_)
        refine wp_seq_k fun K22 hK22 => ?_
        refine wp_region_lit ?_
        refine sEv (v := (.slice (some ⟨b18, o19, none⟩) na ca)) (rfl) rfl rfl ?_
        refine sEv (v := (.int .i64 ((k : Int)))) (rfl) rfl rfl ?_
        have h23 := h17.take (m := k) (by omega)
        refine sEv (v := (.slice (some ⟨b18, o19, none⟩) k ca)) (evSliceHi k Try.underlying27 sz31 rfl rfl (by omega) (by omega)) rfl rfl ?_
        refine sEv (v := (.slice (some ⟨b18, o19, none⟩) k ca)) (rfl) rfl rfl ?_
        refine sDone ?_
        refine xN (hK22 _ _ ?_)
        refine wp_ret ?_
        refine ret1 (.slice (some ⟨b18, o19, none⟩) k ca) Try.results29 (resT rfl) ?_
        exact ⟨(some ⟨b18, o19, none⟩), k, ca, ((fa).take k), rfl, hF8, (PZR.le (PZR.sub h23 fun _ _ h => h.1) (by omega)), (trimZ_of (by omega) hz (by first | omega | exact .inr hzz)), (by omega)⟩
    · refine sEv (v := (.bool false)) (evGtr false rfl rfl (dF hc16)) rfl rfl ?_
      refine sEv (v := (.bool false)) (rfl) rfl rfl ?_
      refine sSkip rfl rfl ?_
      refine sSkip rfl rfl ?_
      refine sSkip rfl rfl ?_
      refine sSkip rfl rfl ?_
      refine sSkip rfl rfl ?_
      refine sSkip rfl rfl ?_
      refine sSkip rfl rfl ?_
      refine sEv (v := (.bool false)) (rfl) rfl rfl ?_
      refine sDone ?_
      refine xN (hK15 _ _ ?_)
      refine cF rfl ?_
      refine wp_exit (xE (xE (bE ?_)))
      refine xN (hK3 _ _ ?_)
      refine wp_seq_k fun K25 hK25 => ?_
      refine wp_region_lit ?_
      refine sEv (v := (.slice Aa na ca)) (rfl) rfl rfl ?_
      refine sEv (v := (.int .i64 ((k : Int)))) (rfl) rfl rfl ?_
      have h26 := (ha.ext hF8)
      have h27 := h26.take (m := k) (by omega)
      refine sEv (v := (.slice Aa k ca)) (evSliceHi k Try.underlying27 sz31 rfl rfl (by omega) (by omega)) rfl rfl ?_
      refine sEv (v := (.slice Aa k ca)) (rfl) rfl rfl ?_
      refine sDone ?_
      refine xN (hK25 _ _ ?_)
      refine wp_ret ?_
      refine ret1 (.slice Aa k ca) Try.results29 (resT rfl) ?_
      exact ⟨Aa, k, ca, ((fa).take k), rfl, hF8, (PZR.le (PZR.sub h27 fun _ _ h => h.1) (by omega)), (trimZ_of (by omega) hz (by first | omega | exact .inr hzz)), (by omega)⟩

theorem ref08_At {w : World} {Sf : Nat → Prop} {Af : Option Addr} {nf cf Mf : Nat} {ff : List Int} {xi : Int} (hf : PZR w Sf Af nf cf ff Mf)  : Calls Try.prog 44 #[(.slice Af nf cf), (.int .i64 (xi))] w (Ret fun v w' => ∃ (sr : Int) (Ar : Option Addr) (nr : Nat) (cr : Nat) (zr : Int), v = (.agg #[(.int .i64 (sr)), (.slice Ar nr cr)]) ∧ Ext w w' ∧ ZR w' (Sf) sr Ar nr cr zr ∧ (zr = coI ff xi) ∧ (nr ≤ Mf)) := by
  have lf := hf.len; have kf := hf.cap; have mf := hf.max
  replace hf := hf.sub (S' := fun b => Sf b ∧ b < w.heap.size) fun _ hb hs => ⟨hs, hb⟩
  refine enter Try.func44 rfl Try.ntmps44 rfl ?_
  refine wp_seq_k fun K1 hK1 => ?_
  refine wp_region_lit ?_
  refine sOp rfl (oAlloc [(.int .i64 (0)), (.slice none 0 0)] zero31 rfl ?_)
  intro g2 w3 hg4 hE5 hz6 hB7
  refine sDone ?_
  refine xN (hK1 _ _ ?_)
  refine wp_seq_k fun K8 hK8 => ?_
  refine wp_seq_k fun K9 hK9 => ?_
  refine wp_region_lit ?_
  refine sEv (v := (.int .i64 (xi))) (rfl) rfl rfl ?_
  by_cases hc10 : xi < 0
  · refine sEv (v := (.bool true)) (evLss true rfl rfl (dT hc10)) rfl rfl ?_
    refine sEv (v := (.bool true)) (rfl) rfl rfl ?_
    refine sSkip rfl rfl ?_
    refine sSkip rfl rfl ?_
    refine sSkip rfl rfl ?_
    refine sSkip rfl rfl ?_
    refine sEv (v := (.bool true)) (rfl) rfl rfl ?_
    refine sDone ?_
    refine xN (hK9 _ _ ?_)
    refine cT rfl ?_
    refine wp_seq_k fun K11 hK11 => ?_
    refine wp_region_lit ?_
    refine sEv (v := (.agg #[(.int .i64 (0)), (.slice none 0 0)])) (evK (by kernel_rfl)) rfl rfl ?_
    refine sOp rfl (oStore [(.int .i64 (0)), (.slice none 0 0)] rfl rfl rfl sz31 rfl hB7 (Nat.le_of_ble_eq_true rfl) ?_)
    intro w12 hU13 hz14 hB15
    replace hB15 : Blk w12 g2 31 [(.int .i64 (0)), (.slice none 0 0)] := hB15
    refine sDone ?_
    refine xN (hK11 _ _ ?_)
    refine wp_ret (xR ?_)
    refine ret1 (.agg #[(.int .i64 (0)), (.slice none 0 0)]) Try.results44 (resB [(.int .i64 (0)), (.slice none 0 0)] agg31 sz31 rfl hB15) ?_
    exact ⟨0, none, 0, 0, 0, rfl, (Frm.mono ((Frm.of_ext (G := fun b => (b = g2)) hE5).trans hU13) q4), ZR.zero, (coI_out (by omega)), (by omega)⟩
  · refine sEv (v := (.bool false)) (evLss false rfl rfl (dF hc10)) rfl rfl ?_
    refine sEv (v := (.bool false)) (rfl) rfl rfl ?_
    refine sEv (v := (.int .i64 (xi))) (rfl) rfl rfl ?_
    refine sEv (v := (.slice Af nf cf)) (rfl) rfl rfl ?_
    refine sEv (v := (.int .i64 ((nf : Int)))) (evLen Try.underlying27 rfl) rfl rfl ?_
    by_cases hc16 : xi ≥ ((nf : Int))
    · refine sEv (v := (.bool true)) (evGeq true rfl rfl (dT hc16)) rfl rfl ?_
      refine sEv (v := (.bool true)) (rfl) rfl rfl ?_
      refine sDone ?_
      refine xN (hK9 _ _ ?_)
      refine cT rfl ?_
      refine wp_seq_k fun K17 hK17 => ?_
      refine wp_region_lit ?_
      refine sEv (v := (.agg #[(.int .i64 (0)), (.slice none 0 0)])) (evK (by kernel_rfl)) rfl rfl ?_
      refine sOp rfl (oStore [(.int .i64 (0)), (.slice none 0 0)] rfl rfl rfl sz31 rfl hB7 (Nat.le_of_ble_eq_true rfl) ?_)
      intro w18 hU19 hz20 hB21
      replace hB21 : Blk w18 g2 31 [(.int .i64 (0)), (.slice none 0 0)] := hB21
      refine sDone ?_
      refine xN (hK17 _ _ ?_)
      refine wp_ret (xR ?_)
      refine ret1 (.agg #[(.int .i64 (0)), (.slice none 0 0)]) Try.results44 (resB [(.int .i64 (0)), (.slice none 0 0)] agg31 sz31 rfl hB21) ?_
      exact ⟨0, none, 0, 0, 0, rfl, (Frm.mono ((Frm.of_ext (G := fun b => (b = g2)) hE5).trans hU19) q4), ZR.zero, (coI_out (by omega)), (by omega)⟩
    · refine sEv (v := (.bool false)) (evGeq false rfl rfl (dF hc16)) rfl rfl ?_
      refine sEv (v := (.bool false)) (rfl) rfl rfl ?_
      refine sDone ?_
      refine xN (hK9 _ _ ?_)
      refine cF rfl ?_
      refine wp_skip ?_
      refine xN (hK8 _ _ ?_)
      refine wp_seq_k fun K22 hK22 => ?_
      refine wp_region_lit ?_
      refine sEv (v := (.slice Af nf cf)) (rfl) rfl rfl ?_
      refine sEv (v := (.int .i64 (xi))) (rfl) rfl rfl ?_
      have h23 := (hf.ext hE5)
      obtain ⟨b24, o25, rfl⟩ := h23.base (by omega)
      refine sEv (v := (.pointer (some ⟨b24, o25 + (xi.toNat * 2), none⟩))) (evIndex xi.toNat Try.underlying27 sz31 rfl rfl (by omega) (by omega) (o25 + (xi.toNat * 2)) (by omega)) rfl rfl ?_
      obtain ⟨s_26, A_26, n_26, c_26, z_26, hp_26, hq_26, h_26, hM_26, hS_26, hb_26, hz_26⟩ := h23.at_ (i := xi.toNat) (by omega)
      have sg_26 := h_26.1; have k_26 := h_26.cap; have m_26 := h_26.max
      refine sEv (v := (.agg #[(.int .i64 (s_26)), (.slice A_26 n_26 c_26)])) (evLoadA [(.int .i64 (s_26)), (.slice A_26 n_26 c_26)] agg31 sz31 rfl (cell2 hp_26 hq_26)) rfl rfl ?_
      refine sOp rfl (oStore [(.int .i64 (s_26)), (.slice A_26 n_26 c_26)] rfl rfl rfl sz31 rfl hB7 (Nat.le_of_ble_eq_true rfl) ?_)
      intro w28 hU29 hz30 hB31
      replace hB31 : Blk w28 g2 31 [(.int .i64 (s_26)), (.slice A_26 n_26 c_26)] := hB31
      refine sDone ?_
      refine xN (hK22 _ _ ?_)
      refine wp_ret ?_
      refine ret1 (.agg #[(.int .i64 (s_26)), (.slice A_26 n_26 c_26)]) Try.results44 (resB [(.int .i64 (s_26)), (.slice A_26 n_26 c_26)] agg31 sz31 rfl hB31) ?_
      have h32 := (h_26.frmB hU29 q3)
      exact ⟨(s_26), A_26, n_26, c_26, (z_26), rfl, (Frm.mono ((Frm.of_ext (G := fun b => (b = g2)) hE5).trans hU29) q4), (ZR.sub h32 fun _ _ h => h.1), (hz_26.trans (coI_in (by omega))), (by omega)⟩

theorem ref08_Add {w : World} {Sf : Nat → Prop} {Af : Option Addr} {nf cf Mf : Nat} {ff : List Int} {Sg : Nat → Prop} {Ag : Option Addr} {ng cg Mg : Nat} {fg : List Int} (hf : PZR w Sf Af nf cf ff Mf) (hg : PZR w Sg Ag ng cg fg Mg) (hnf : nf ≤ 65536) (hMf : Mf ≤ 268435456) (hng : ng ≤ 65536) (hMg : Mg ≤ 268435456) : Calls Try.prog 38 #[(.slice Af nf cf), (.slice Ag ng cg)] w (Ret fun v w' => ∃ (Ar : Option Addr) (nr : Nat) (cr : Nat) (fr : List Int), v = (.slice Ar nr cr) ∧ Ext w w' ∧ PZR w' (fun _ => True) Ar nr cr fr (max Mf Mg + 1) ∧ (fr = trimZ (padd ff fg)) ∧ (nr ≤ max nf ng)) := by
  have lf := hf.len; have kf := hf.cap; have mf := hf.max
  replace hf := hf.low
  have lg := hg.len; have kg := hg.cap; have mg := hg.max
  replace hg := hg.low
  refine enter Try.func38 rfl Try.ntmps38 rfl ?_
  refine wp_seq_k fun K1 hK1 => ?_
  refine wp_region_lit ?_
  refine sEv (v := (.slice none 0 0)) (rfl) rfl rfl ?_
  refine sDone ?_
  refine xN (hK1 _ _ ?_)
  refine wp_seq_k fun K2 hK2 => ?_
  refine wp_region_lit ?_
  refine sEv (v := (.slice none 0 0)) (rfl) rfl rfl ?_
  refine sDone ?_
  refine xN (hK2 _ _ ?_)
  refine wp_seq_k fun K3 hK3 => ?_
  refine wp_seq_k fun K4 hK4 => ?_
  refine wp_region_lit ?_
  refine sEv (v := (.int .i64 (0))) (rfl) rfl rfl ?_
  refine sDone ?_
  refine xN (hK4 _ _ ?_)
  refine wp_block ?_
  refine lLoop (fun m e w_ => ∃ (k : Nat) (O : List Int) (Ao : Option Addr) (cp : Nat) (no : Nat), m = max nf ng - k ∧ e 0 = (.slice Af nf cf) ∧ e 1 = (.slice Ag ng cg) ∧ e 5 = (.slice Ao no cp) ∧ e 6 = (.int .i64 ((k : Int))) ∧ Frm (fun b => w.heap.size ≤ b) w w_ ∧ (k ≤ max nf ng) ∧ (no = k) ∧ (O = (List.range k).map (fun i => co ff i + co fg i)) ∧ (OwnZ (fun _ => True) w_ w.heap.size 31 Ao no cp O (max Mf Mg + 1))) (max nf ng - (0)) ?_ ?_
  · refine ⟨(0), ([]), (none), (0), (0), rfl, rfl, rfl, rfl, (congrArg (Value.int .i64) (by omega)), (Frm.refl _ _), ?_, ?_, ?_, ?_⟩
    · omega
    · omega
    · rfl
    · exact OwnZ.nil
  · rintro m5 e13 w6 ⟨k, O, Ao, cp, no, hm12, hs7, hs8, hs9, hs10, hF11, hk, hno, hF, hO⟩
    obtain ⟨r14, rfl⟩ := sq (e := e13) (t := 0) hs7
    obtain ⟨r15, rfl⟩ := sq (e := r14) (t := 1) hs8
    obtain ⟨r16, rfl⟩ := sq (e := r15) (t := 5) hs9
    obtain ⟨r17, rfl⟩ := sq (e := r16) (t := 6) hs10
    have hz18 := hF11.size
    have lO := hO.len; have kO := hO.cap; have mO := hO.max
    refine wp_seq_k fun K19 hK19 => ?_
    refine wp_seq_k fun K20 hK20 => ?_
    refine wp_region_lit ?_
    refine sEv (v := (.int .i64 ((k : Int)))) (rfl) rfl rfl ?_
    refine sEv (v := (.slice Af nf cf)) (rfl) rfl rfl ?_
    refine sEv (v := (.int .i64 ((nf : Int)))) (evLen Try.underlying27 rfl) rfl rfl ?_
    by_cases hc21 : ((k : Int)) < ((nf : Int))
    · refine sEv (v := (.bool true)) (evLss true rfl rfl (dT hc21)) rfl rfl ?_
      refine sEv (v := (.bool true)) (rfl) rfl rfl ?_
      refine sSkip rfl rfl ?_
      refine sSkip rfl rfl ?_
      refine sSkip rfl rfl ?_
      refine sSkip rfl rfl ?_
      refine sEv (v := (.bool true)) (rfl) rfl rfl ?_
      refine sDone ?_
      refine xN (hK20 _ _ ?_)
      refine cT rfl ?_
      refine wp_skip ?_
      refine xN (hK19 _ _ ?_)
      refine wp_seq_k fun K22 hK22 => ?_
      refine wp_block ?_
      refine wp_region_lit ?_
      refine sEv (v := (.slice Ao no cp)) (rfl) rfl rfl ?_
      refine sEv (v := (.slice Af nf cf)) (rfl) rfl rfl ?_
      refine sEv (v := (.int .i64 ((k : Int)))) (rfl) rfl rfl ?_
      have h23 := (hf.frmB hF11 q3)
      refine sOp rfl (oCall rfl call44 (ref08_At h23) rfl ?_)
      rintro _ w25 ⟨sr_24, Ar_24, nr_24, cr_24, zr_24, rfl, hE26, hr_24, v_24, le_24⟩
      have hz27 := hE26.size
      have sgr_24 := hr_24.1; have kr_24 := hr_24.cap; have mr_24 := hr_24.max
      refine sEv (v := (.slice Ag ng cg)) (rfl) rfl rfl ?_
      refine sEv (v := (.int .i64 ((k : Int)))) (rfl) rfl rfl ?_
      have h29 := (hg.frmB (hF11.trans (Frm.of_ext (G := fun b => (w.heap.size ≤ b)) hE26)) q3)
      refine sOp rfl (oCall rfl call44 (ref08_At h29) rfl ?_)
      rintro _ w31 ⟨sr_30, Ar_30, nr_30, cr_30, zr_30, rfl, hE32, hr_30, v_30, le_30⟩
      have hz33 := hE32.size
      have sgr_30 := hr_30.1; have kr_30 := hr_30.cap; have mr_30 := hr_30.max
      have h35 := (hr_24.ext hE32)
      refine sOp rfl (oCall rfl call79 (ref02_Add h35 hr_30 (by omega) (by omega)) rfl ?_)
      rintro _ w37 ⟨sr_36, Ar_36, nr_36, cr_36, zr_36, rfl, hE38, hr_36, v_36, le_36⟩
      have hz39 := hE38.size
      have sgr_36 := hr_36.1; have kr_36 := hr_36.cap; have mr_36 := hr_36.max
      refine sOp rfl (oBuildSlice [(.agg #[(.int .i64 (sr_36)), (.slice Ar_36 nr_36 cr_36)])] [[(.int .i64 (sr_36)), (.slice Ar_36 nr_36 cr_36)]] Try.underlying27 inf31 rfl rfl rfl rfl rfl ?_)
      intro g41 w42 hg43 hE44 hz45 hB46
      replace hB46 : Blk w42 g41 31 [(.int .i64 (sr_36)), (.slice Ar_36 nr_36 cr_36)] := hB46
      have hO47 := (hO.ext (((hE26.trans hE32).trans hE38).trans hE44))
      have h53 := (hr_36.ext hE44)
      refine sOp rfl (oAppZ (B := w.heap.size) Try.underlying27 inf31 rfl rfl rfl hO47 hB46 h53 (by omega) (by intro b hlt hb a ha; have h1 := hO.lt a ha; (try dsimp only at hb); omega) (fun _ _ _ => trivial) (by omega) (by omega) (by omega) ?_)
      intro A48 c49 w50 hO51 hF52
      refine sEv (v := (.slice A48 (no + 1) c49)) (rfl) rfl rfl ?_
      refine sDone ?_
      refine bN ?_
      refine xN (hK22 _ _ ?_)
      refine wp_region_lit ?_
      refine sEv (v := (.int .i64 ((k : Int)))) (rfl) rfl rfl ?_
      refine sEv (v := (.int .i64 (((k : Int)) + 1))) (evAdd (((k : Int)) + 1) rfl rfl (wI64 (by omega))) rfl rfl ?_
      refine sEv (v := (.int .i64 (((k : Int)) + 1))) (rfl) rfl rfl ?_
      refine sDone ?_
      refine again (max nf ng - (k + 1)) (by omega) ⟨(k + 1), (O ++ [zr_36]), (A48), (c49), (no + 1), rfl, rfl, rfl, rfl, (congrArg (Value.int .i64) (by omega)), (((((hF11.trans (Frm.of_ext (G := fun b => (w.heap.size ≤ b)) hE26)).trans (Frm.of_ext (G := fun b => (w.heap.size ≤ b)) hE32)).trans (Frm.of_ext (G := fun b => (w.heap.size ≤ b)) hE38)).trans (Frm.of_ext (G := fun b => (w.heap.size ≤ b)) hE44)).trans hF52), ?_, ?_, ?_, ?_⟩
      · omega
      · omega
      · exact range_snoc hF (by rw [v_36, v_24, v_30, coI_nat, coI_nat])
      · exact hO51
    · refine sEv (v := (.bool false)) (evLss false rfl rfl (dF hc21)) rfl rfl ?_
      refine sEv (v := (.bool false)) (rfl) rfl rfl ?_
      refine sEv (v := (.int .i64 ((k : Int)))) (rfl) rfl rfl ?_
      refine sEv (v := (.slice Ag ng cg)) (rfl) rfl rfl ?_
      refine sEv (v := (.int .i64 ((ng : Int)))) (evLen Try.underlying27 rfl) rfl rfl ?_
      by_cases hc54 : ((k : Int)) < ((ng : Int))
      · refine sEv (v := (.bool true)) (evLss true rfl rfl (dT hc54)) rfl rfl ?_
        refine sEv (v := (.bool true)) (rfl) rfl rfl ?_
        refine sDone ?_
        refine xN (hK20 _ _ ?_)
        refine cT rfl ?_
        refine wp_skip ?_
        refine xN (hK19 _ _ ?_)
        refine wp_seq_k fun K55 hK55 => ?_
        refine wp_block ?_
        refine wp_region_lit ?_
        refine sEv (v := (.slice Ao no cp)) (rfl) rfl rfl ?_
        refine sEv (v := (.slice Af nf cf)) (rfl) rfl rfl ?_
        refine sEv (v := (.int .i64 ((k : Int)))) (rfl) rfl rfl ?_
        have h56 := (hf.frmB hF11 q3)
        refine sOp rfl (oCall rfl call44 (ref08_At h56) rfl ?_)
        rintro _ w58 ⟨sr_57, Ar_57, nr_57, cr_57, zr_57, rfl, hE59, hr_57, v_57, le_57⟩
        have hz60 := hE59.size
        have sgr_57 := hr_57.1; have kr_57 := hr_57.cap; have mr_57 := hr_57.max
        refine sEv (v := (.slice Ag ng cg)) (rfl) rfl rfl ?_
        refine sEv (v := (.int .i64 ((k : Int)))) (rfl) rfl rfl ?_
        have h62 := (hg.frmB (hF11.trans (Frm.of_ext (G := fun b => (w.heap.size ≤ b)) hE59)) q3)
        refine sOp rfl (oCall rfl call44 (ref08_At h62) rfl ?_)
        rintro _ w64 ⟨sr_63, Ar_63, nr_63, cr_63, zr_63, rfl, hE65, hr_63, v_63, le_63⟩
        have hz66 := hE65.size
        have sgr_63 := hr_63.1; have kr_63 := hr_63.cap; have mr_63 := hr_63.max
        have h68 := (hr_57.ext hE65)
        refine sOp rfl (oCall rfl call79 (ref02_Add h68 hr_63 (by omega) (by omega)) rfl ?_)
        rintro _ w70 ⟨sr_69, Ar_69, nr_69, cr_69, zr_69, rfl, hE71, hr_69, v_69, le_69⟩
        have hz72 := hE71.size
        have sgr_69 := hr_69.1; have kr_69 := hr_69.cap; have mr_69 := hr_69.max
        refine sOp rfl (oBuildSlice [(.agg #[(.int .i64 (sr_69)), (.slice Ar_69 nr_69 cr_69)])] [[(.int .i64 (sr_69)), (.slice Ar_69 nr_69 cr_69)]] Try.underlying27 inf31 rfl rfl rfl rfl rfl ?_)
        intro g74 w75 hg76 hE77 hz78 hB79
        replace hB79 : Blk w75 g74 31 [(.int .i64 (sr_69)), (.slice Ar_69 nr_69 cr_69)] := hB79
        have hO80 := (hO.ext (((hE59.trans hE65).trans hE71).trans hE77))
        have h86 := (hr_69.ext hE77)
        refine sOp rfl (oAppZ (B := w.heap.size) Try.underlying27 inf31 rfl rfl rfl hO80 hB79 h86 (by omega) (by intro b hlt hb a ha; have h1 := hO.lt a ha; (try dsimp only at hb); omega) (fun _ _ _ => trivial) (by omega) (by omega) (by omega) ?_)
        intro A81 c82 w83 hO84 hF85
        refine sEv (v := (.slice A81 (no + 1) c82)) (rfl) rfl rfl ?_
        refine sDone ?_
        refine bN ?_
        refine xN (hK55 _ _ ?_)
        refine wp_region_lit ?_
        refine sEv (v := (.int .i64 ((k : Int)))) (rfl) rfl rfl ?_
        refine sEv (v := (.int .i64 (((k : Int)) + 1))) (evAdd (((k : Int)) + 1) rfl rfl (wI64 (by omega))) rfl rfl ?_
        refine sEv (v := (.int .i64 (((k : Int)) + 1))) (rfl) rfl rfl ?_
        refine sDone ?_
        refine again (max nf ng - (k + 1)) (by omega) ⟨(k + 1), (O ++ [zr_69]), (A81), (c82), (no + 1), rfl, rfl, rfl, rfl, (congrArg (Value.int .i64) (by omega)), (((((hF11.trans (Frm.of_ext (G := fun b => (w.heap.size ≤ b)) hE59)).trans (Frm.of_ext (G := fun b => (w.heap.size ≤ b)) hE65)).trans (Frm.of_ext (G := fun b => (w.heap.size ≤ b)) hE71)).trans (Frm.of_ext (G := fun b => (w.heap.size ≤ b)) hE77)).trans hF85), ?_, ?_, ?_, ?_⟩
        · omega
        · omega
        · exact range_snoc hF (by rw [v_69, v_57, v_63, coI_nat, coI_nat])
        · exact hO84
      · refine sEv (v := (.bool false)) (evLss false rfl rfl (dF hc54)) rfl rfl ?_
        refine sEv (v := (.bool false)) (rfl) rfl rfl ?_
        refine sDone ?_
        refine xN (hK20 _ _ ?_)
        refine cF rfl ?_
        refine wp_exit (xE (xE (bE ?_)))
        refine xN (hK3 _ _ ?_)
        refine wp_seq_k fun K87 hK87 => ?_
        refine wp_region_lit ?_
        refine sEv (v := (.slice Ao no cp)) (rfl) rfl rfl ?_
        refine sOp rfl (oCall rfl call29 (ref08_Trim (OwnZ.pzr hO)) rfl ?_)
        rintro _ w89 ⟨Ar_88, nr_88, cr_88, fr_88, rfl, hE90, hr_88, e_88, le_88⟩
        have hz91 := hE90.size
        have lr_88 := hr_88.len; have kr_88 := hr_88.cap; have mr_88 := hr_88.max
        replace hr_88 := hr_88.low
        refine sEv (v := (.slice Ar_88 nr_88 cr_88)) (rfl) rfl rfl ?_
        refine sDone ?_
        refine xN (hK87 _ _ ?_)
        refine wp_ret ?_
        refine ret1 (.slice Ar_88 nr_88 cr_88) Try.results38 (resT rfl) ?_
        exact ⟨Ar_88, nr_88, cr_88, fr_88, rfl, (Frm.mono (hF11.trans (Frm.of_ext (G := fun b => (w.heap.size ≤ b)) hE90)) q4), (PZR.le (PZR.sub hr_88 fun _ _ _ => trivial) (by omega)), (by rw [e_88, hF, show k = max nf ng by omega]; unfold padd; rw [lf, lg]), (by omega)⟩

theorem ref08_Scale {w : World} {Sf : Nat → Prop} {Af : Option Addr} {nf cf Mf : Nat} {ff : List Int} {Sc : Nat → Prop} {sc : Int} {Ac : Option Addr} {nc cc : Nat} {zc : Int} (hf : PZR w Sf Af nf cf ff Mf) (hc : ZR w Sc sc Ac nc cc zc) (hnf : nf ≤ 65536) (hMf : Mf ≤ 268435456) (hnc : nc ≤ 268435456) : Calls Try.prog 39 #[(.slice Af nf cf), (.agg #[(.int .i64 (sc)), (.slice Ac nc cc)])] w (Ret fun v w' => ∃ (Ar : Option Addr) (nr : Nat) (cr : Nat) (fr : List Int), v = (.slice Ar nr cr) ∧ Ext w w' ∧ PZR w' (fun _ => True) Ar nr cr fr (Mf + nc) ∧ (fr = trimZ (scaleP ff zc)) ∧ (nr ≤ nf)) := by
  have lf := hf.len; have kf := hf.cap; have mf := hf.max
  replace hf := hf.low
  have sgc := hc.1; have kc := hc.cap; have mc := hc.max
  replace hc := hc.low
  refine enter Try.func39 rfl Try.ntmps39 rfl ?_
  refine wp_seq_k fun K1 hK1 => ?_
  refine wp_region_lit ?_
  refine sOp rfl (oBox [(.int .i64 (sc)), (.slice Ac nc cc)] rfl rfl ?_)
  intro g2 w3 hg4 hE5 hz6 hB7
  refine sEv (v := (.slice none 0 0)) (rfl) rfl rfl ?_
  refine sDone ?_
  refine xN (hK1 _ _ ?_)
  refine wp_seq_k fun K8 hK8 => ?_
  refine wp_region_lit ?_
  refine sEv (v := (.slice none 0 0)) (rfl) rfl rfl ?_
  refine sDone ?_
  refine xN (hK8 _ _ ?_)
  refine wp_seq_k fun K9 hK9 => ?_
  refine wp_seq_k fun K10 hK10 => ?_
  refine wp_region_lit ?_
  refine sEv (v := (.int .i64 (0))) (rfl) rfl rfl ?_
  refine sDone ?_
  refine xN (hK10 _ _ ?_)
  refine wp_block ?_
  refine lLoop (fun m e w_ => ∃ (k : Nat) (O : List Int) (Ao : Option Addr) (cp : Nat) (no : Nat), m = nf - k ∧ e 0 = (.slice Af nf cf) ∧ e 3 = (.pointer (some ⟨g2, 0, none⟩)) ∧ e 5 = (.slice Ao no cp) ∧ e 6 = (.int .i64 ((k : Int))) ∧ Frm (fun b => w3.heap.size ≤ b) w3 w_ ∧ (k ≤ nf) ∧ (no = k) ∧ (O = (ff.take k).map (· * zc)) ∧ (OwnZ (fun _ => True) w_ w3.heap.size 31 Ao no cp O (Mf + nc))) (nf - (0)) ?_ ?_
  · refine ⟨(0), ([]), (none), (0), (0), rfl, rfl, rfl, rfl, (congrArg (Value.int .i64) (by omega)), (Frm.refl _ _), ?_, ?_, ?_, ?_⟩
    · omega
    · omega
    · rfl
    · exact OwnZ.nil
  · rintro m11 e19 w12 ⟨k, O, Ao, cp, no, hm18, hs13, hs14, hs15, hs16, hF17, hk, hno, hF, hO⟩
    obtain ⟨r20, rfl⟩ := sq (e := e19) (t := 0) hs13
    obtain ⟨r21, rfl⟩ := sq (e := r20) (t := 3) hs14
    obtain ⟨r22, rfl⟩ := sq (e := r21) (t := 5) hs15
    obtain ⟨r23, rfl⟩ := sq (e := r22) (t := 6) hs16
    have hz24 := hF17.size
    have lO := hO.len; have kO := hO.cap; have mO := hO.max
    refine wp_seq_k fun K25 hK25 => ?_
    refine wp_seq_k fun K26 hK26 => ?_
    refine wp_region_lit ?_
    refine sEv (v := (.int .i64 ((k : Int)))) (rfl) rfl rfl ?_
    refine sEv (v := (.slice Af nf cf)) (rfl) rfl rfl ?_
    refine sEv (v := (.int .i64 ((nf : Int)))) (evLen Try.underlying27 rfl) rfl rfl ?_
    by_cases hc27 : ((k : Int)) < ((nf : Int))
    · refine sEv (v := (.bool true)) (evLss true rfl rfl (dT hc27)) rfl rfl ?_
      refine sDone ?_
      refine xN (hK26 _ _ ?_)
      refine cT rfl ?_
      refine wp_skip ?_
      refine xN (hK25 _ _ ?_)
      refine wp_seq_k fun K28 hK28 => ?_
      refine wp_block ?_
      refine dBegin (fun b => w3.heap.size ≤ b) mixed ?_
      intro w29 hE30 hz31
      refine dEv 0 rfl (v := (.slice Ao no cp)) (fun _ _ => rfl) rfl rfl (by kernel_rfl) ?_
      refine dEv 1 rfl (v := (.slice Af nf cf)) (fun _ _ => rfl) rfl rfl (by kernel_rfl) ?_
      refine dEv 2 rfl (v := (.int .i64 ((k : Int)))) (fun _ _ => rfl) rfl rfl (by kernel_rfl) ?_
      have h32 := (hf.frmB (((Frm.of_ext (G := fun b => (w3.heap.size ≤ b)) hE5).trans hF17).trans (Frm.of_ext (G := fun b => (w3.heap.size ≤ b)) hE30)) q3)
      obtain ⟨b33, o34, rfl⟩ := h32.base (by omega)
      refine dEv 3 rfl (v := (.pointer (some ⟨b33, o34 + (k * 2), none⟩))) (fun _ _ => evIndex k Try.underlying27 sz31 rfl rfl (by omega) (by omega) (o34 + (k * 2)) (by omega)) rfl rfl (by kernel_rfl) ?_
      obtain ⟨s_35, A_35, n_35, c_35, z_35, hp_35, hq_35, h_35, hM_35, hS_35, hb_35, hz_35⟩ := h32.at_ (i := k) (by omega)
      have sg_35 := h_35.1; have k_35 := h_35.cap; have m_35 := h_35.max
      refine dEv 4 rfl (v := (.agg #[(.int .i64 (s_35)), (.slice A_35 n_35 c_35)])) (fun _ hf => evLoadA [(.int .i64 (s_35)), (.slice A_35 n_35 c_35)] agg31 sz31 rfl (cell2F hp_35 hq_35 hf hb_35 (by (try dsimp only at hS_35 ⊢); omega))) rfl rfl (by kernel_rfl) ?_
      have hB37 := (hB7.frm (hF17.trans (Frm.of_ext (G := fun b => (w3.heap.size ≤ b)) hE30)) q1)
      refine dEv 5 rfl (v := (.agg #[(.int .i64 (sc)), (.slice Ac nc cc)])) (fun _ hf => evLoadAB [(.int .i64 (sc)), (.slice Ac nc cc)] agg31 sz31 rfl (hB37.frm hf q1) rfl) rfl rfl (by kernel_rfl) ?_
      have h38 := (hc.frmB (((Frm.of_ext (G := fun b => (w3.heap.size ≤ b)) hE5).trans hF17).trans (Frm.of_ext (G := fun b => (w3.heap.size ≤ b)) hE30)) q3)
      refine dOp 6 rfl rfl (by kernel_rfl) (oCall rfl call70 (ref02_Mul h_35 h38 (by omega) (by omega)) rfl ?_)
      rintro _ w40 ⟨sr_39, Ar_39, nr_39, cr_39, zr_39, rfl, hE41, hr_39, v_39, le_39⟩
      refine ⟨(Frm.of_ext hE41), ?_⟩
      have hz42 := hE41.size
      have sgr_39 := hr_39.1; have kr_39 := hr_39.cap; have mr_39 := hr_39.max
      refine dOp 7 rfl rfl (by kernel_rfl) (oBuildSlice [(.agg #[(.int .i64 (sr_39)), (.slice Ar_39 nr_39 cr_39)])] [[(.int .i64 (sr_39)), (.slice Ar_39 nr_39 cr_39)]] Try.underlying27 inf31 rfl rfl rfl rfl rfl ?_)
      intro g44 w45 hg46 hE47 hz48 hB49
      refine ⟨(Frm.of_ext hE47), ?_⟩
      replace hB49 : Blk w45 g44 31 [(.int .i64 (sr_39)), (.slice Ar_39 nr_39 cr_39)] := hB49
      have hO50 := (hO.ext ((hE30.trans hE41).trans hE47))
      have h56 := (hr_39.ext hE47)
      refine dOp 8 rfl rfl (by kernel_rfl) (oAppZ (B := w3.heap.size) Try.underlying27 inf31 rfl rfl rfl hO50 hB49 h56 (by omega) (by intro b hlt hb a ha; have h1 := hO.lt a ha; (try dsimp only at hb); omega) (fun _ _ _ => trivial) (by omega) (by omega) (by omega) ?_)
      intro A51 c52 w53 hO54 hF55
      refine ⟨hF55, ?_⟩
      refine dEv 9 rfl (v := (.slice A51 (no + 1) c52)) (fun _ _ => rfl) rfl rfl (by kernel_rfl) ?_
      refine dDone (by kernel_rfl) ?_
      refine bN ?_
      refine xN (hK28 _ _ ?_)
      refine wp_region_lit ?_
      refine sEv (v := (.int .i64 ((k : Int)))) (rfl) rfl rfl ?_
      refine sEv (v := (.int .i64 (((k : Int)) + 1))) (evAdd (((k : Int)) + 1) rfl rfl (wI64 (by omega))) rfl rfl ?_
      refine sEv (v := (.int .i64 (((k : Int)) + 1))) (rfl) rfl rfl ?_
      refine sDone ?_
      refine again (nf - (k + 1)) (by omega) ⟨(k + 1), (O ++ [zr_39]), (A51), (c52), (no + 1), rfl, rfl, rfl, rfl, (congrArg (Value.int .i64) (by omega)), ((((hF17.trans (Frm.of_ext (G := fun b => (w3.heap.size ≤ b)) hE30)).trans (Frm.of_ext (G := fun b => (w3.heap.size ≤ b)) hE41)).trans (Frm.of_ext (G := fun b => (w3.heap.size ≤ b)) hE47)).trans hF55), ?_, ?_, ?_, ?_⟩
      · omega
      · omega
      · exact scale_snoc hF (by omega) (by rw [v_39, hz_35])
      · exact hO54
    · refine sEv (v := (.bool false)) (evLss false rfl rfl (dF hc27)) rfl rfl ?_
      refine sDone ?_
      refine xN (hK26 _ _ ?_)
      refine cF rfl ?_
      refine wp_exit (xE (xE (bE ?_)))
      refine xN (hK9 _ _ ?_)
      refine wp_seq_k fun K57 hK57 => ?_
      refine wp_region_lit ?_
      refine sEv (v := (.slice Ao no cp)) (rfl) rfl rfl ?_
      refine sOp rfl (oCall rfl call29 (ref08_Trim (OwnZ.pzr hO)) rfl ?_)
      rintro _ w59 ⟨Ar_58, nr_58, cr_58, fr_58, rfl, hE60, hr_58, e_58, le_58⟩
      have hz61 := hE60.size
      have lr_58 := hr_58.len; have kr_58 := hr_58.cap; have mr_58 := hr_58.max
      replace hr_58 := hr_58.low
      refine sEv (v := (.slice Ar_58 nr_58 cr_58)) (rfl) rfl rfl ?_
      refine sDone ?_
      refine xN (hK57 _ _ ?_)
      refine wp_ret ?_
      refine ret1 (.slice Ar_58 nr_58 cr_58) Try.results39 (resT rfl) ?_
      exact ⟨Ar_58, nr_58, cr_58, fr_58, rfl, (Frm.mono (((Frm.of_ext (G := fun b => (w3.heap.size ≤ b)) hE5).trans hF17).trans (Frm.of_ext (G := fun b => (w3.heap.size ≤ b)) hE60)) q4), (PZR.le (PZR.sub hr_58 fun _ _ _ => trivial) (by omega)), (by rw [e_58, hF, List.take_of_length_le (by omega)]; rfl), (by omega)⟩

theorem ref08_Up {w : World} {Sf : Nat → Prop} {Af : Option Addr} {nf cf Mf : Nat} {ff : List Int} {xn : Nat} (hf : PZR w Sf Af nf cf ff Mf) (bn : xn ≤ 9223372036854775807) (hnf : nf ≤ 65536) (hMf : Mf ≤ 268435456) (hxn : xn ≤ 65536) : Calls Try.prog 66 #[(.slice Af nf cf), (.int .i64 ((xn : Int)))] w (Ret fun v w' => ∃ (Ar : Option Addr) (nr : Nat) (cr : Nat) (fr : List Int), v = (.slice Ar nr cr) ∧ Ext w w' ∧ PZR w' (fun _ => True) Ar nr cr fr (Mf) ∧ (fr = upP ff xn) ∧ (nr ≤ nf + xn)) := by
  have lf := hf.len; have kf := hf.cap; have mf := hf.max
  replace hf := hf.low
  refine enter Try.func66 rfl Try.ntmps66 rfl ?_
  refine wp_seq_k fun K1 hK1 => ?_
  refine wp_region_lit ?_
  refine sEv (v := (.slice none 0 0)) (rfl) rfl rfl ?_
  refine sDone ?_
  refine xN (hK1 _ _ ?_)
  refine wp_seq_k fun K2 hK2 => ?_
  refine wp_region_lit ?_
  refine sEv (v := (.slice none 0 0)) (rfl) rfl rfl ?_
  refine sDone ?_
  refine xN (hK2 _ _ ?_)
  refine wp_seq_k fun K3 hK3 => ?_
  refine wp_seq_k fun K4 hK4 => ?_
  refine wp_region_lit ?_
  refine sEv (v := (.int .i64 (0))) (rfl) rfl rfl ?_
  refine sDone ?_
  refine xN (hK4 _ _ ?_)
  refine wp_block ?_
  refine lLoop (fun m e w_ => ∃ (k : Nat) (O : List Int) (Ao : Option Addr) (cp : Nat) (no : Nat), m = xn - k ∧ e 0 = (.slice Af nf cf) ∧ e 1 = (.int .i64 ((xn : Int))) ∧ e 5 = (.slice Ao no cp) ∧ e 6 = (.int .i64 ((k : Int))) ∧ Frm (fun b => w.heap.size ≤ b) w w_ ∧ (k ≤ xn) ∧ (no = k) ∧ (nf = 0 → k = 0) ∧ (O = List.replicate k 0) ∧ (OwnZ (fun _ => True) w_ w.heap.size 31 Ao no cp O (Mf))) (xn - (0)) ?_ ?_
  · refine ⟨(0), ([]), (none), (0), (0), rfl, rfl, rfl, rfl, (congrArg (Value.int .i64) (by omega)), (Frm.refl _ _), ?_, ?_, ?_, ?_, ?_⟩
    · omega
    · omega
    · omega
    · rfl
    · exact OwnZ.nil
  · rintro m5 e13 w6 ⟨k, O, Ao, cp, no, hm12, hs7, hs8, hs9, hs10, hF11, hk, hno, hnf0, hF, hO⟩
    obtain ⟨r14, rfl⟩ := sq (e := e13) (t := 0) hs7
    obtain ⟨r15, rfl⟩ := sq (e := r14) (t := 1) hs8
    obtain ⟨r16, rfl⟩ := sq (e := r15) (t := 5) hs9
    obtain ⟨r17, rfl⟩ := sq (e := r16) (t := 6) hs10
    have hz18 := hF11.size
    have lO := hO.len; have kO := hO.cap; have mO := hO.max
    refine wp_seq_k fun K19 hK19 => ?_
    refine wp_seq_k fun K20 hK20 => ?_
    refine wp_region_lit ?_
    refine sEv (v := (.int .i64 ((k : Int)))) (rfl) rfl rfl ?_
    refine sEv (v := (.int .i64 ((xn : Int)))) (rfl) rfl rfl ?_
    by_cases hc21 : ((k : Int)) < ((xn : Int))
    · refine sEv (v := (.bool true)) (evLss true rfl rfl (dT hc21)) rfl rfl ?_
      refine sEv (v := (.bool true)) (rfl) rfl rfl ?_
      refine sEv (v := (.slice Af nf cf)) (rfl) rfl rfl ?_
      refine sEv (v := (.int .i64 ((nf : Int)))) (evLen Try.underlying27 rfl) rfl rfl ?_
      by_cases hc22 : ((nf : Int)) > 0
      · refine sEv (v := (.bool true)) (evGtr true rfl rfl (dT hc22)) rfl rfl ?_
        refine sEv (v := (.bool true)) (rfl) rfl rfl ?_
        refine sDone ?_
        refine xN (hK20 _ _ ?_)
        refine cT rfl ?_
        refine wp_skip ?_
        refine xN (hK19 _ _ ?_)
        refine wp_seq_k fun K23 hK23 => ?_
        refine wp_block ?_
        refine wp_region_lit ?_
        refine sEv (v := (.slice Ao no cp)) (rfl) rfl rfl ?_
        refine sEv (v := (.agg #[(.int .i64 (0)), (.slice none 0 0)])) (evK (by kernel_rfl)) rfl rfl ?_
        refine sOp rfl (oBuildSlice [(.agg #[(.int .i64 (0)), (.slice none 0 0)])] [[(.int .i64 (0)), (.slice none 0 0)]] Try.underlying27 inf31 rfl rfl rfl rfl rfl ?_)
        intro g24 w25 hg26 hE27 hz28 hB29
        replace hB29 : Blk w25 g24 31 [(.int .i64 (0)), (.slice none 0 0)] := hB29
        have hO30 := (hO.ext hE27)
        refine sOp rfl (oAppZ (B := w.heap.size) Try.underlying27 inf31 rfl rfl rfl hO30 hB29 (ZR.zero (S := fun _ => False)) (by omega) (fun _ _ h => h.elim) (fun _ _ h => h.elim) (by omega) (by omega) (by omega) ?_)
        intro A31 c32 w33 hO34 hF35
        refine sEv (v := (.slice A31 (no + 1) c32)) (rfl) rfl rfl ?_
        refine sDone ?_
        refine bN ?_
        refine xN (hK23 _ _ ?_)
        refine wp_region_lit ?_
        refine sEv (v := (.int .i64 ((k : Int)))) (rfl) rfl rfl ?_
        refine sEv (v := (.int .i64 (((k : Int)) + 1))) (evAdd (((k : Int)) + 1) rfl rfl (wI64 (by omega))) rfl rfl ?_
        refine sEv (v := (.int .i64 (((k : Int)) + 1))) (rfl) rfl rfl ?_
        refine sDone ?_
        refine again (xn - (k + 1)) (by omega) ⟨(k + 1), (O ++ [0]), (A31), (c32), (no + 1), rfl, rfl, rfl, rfl, (congrArg (Value.int .i64) (by omega)), ((hF11.trans (Frm.of_ext (G := fun b => (w.heap.size ≤ b)) hE27)).trans hF35), ?_, ?_, ?_, ?_, ?_⟩
        · omega
        · omega
        · omega
        · rw [hF]; exact List.replicate_succ'.symm
        · exact hO34
      · refine sEv (v := (.bool false)) (evGtr false rfl rfl (dF hc22)) rfl rfl ?_
        refine sEv (v := (.bool false)) (rfl) rfl rfl ?_
        refine sDone ?_
        refine xN (hK20 _ _ ?_)
        refine cF rfl ?_
        refine wp_exit (xE (xE (bE ?_)))
        refine xN (hK3 _ _ ?_)
        refine wp_seq_k fun K36 hK36 => ?_
        refine wp_region_lit ?_
        refine sEv (v := (.slice Ao no cp)) (rfl) rfl rfl ?_
        refine sEv (v := (.slice Af nf cf)) (rfl) rfl rfl ?_
        have h42 := (hf.frmB hF11 q3)
        refine sOp rfl (oAppZS (B := w.heap.size) Try.underlying27 inf31 rfl rfl rfl hO h42 (by intro b hlt hb a ha; have h1 := hO.lt a ha; (try dsimp only at hb); omega) (by omega) (by omega) (by omega) ?_)
        intro A37 n43 c38 w39 hn44 hO40 hF41
        refine sEv (v := (.slice A37 n43 c38)) (rfl) rfl rfl ?_
        refine sDone ?_
        refine xN (hK36 _ _ ?_)
        refine wp_ret ?_
        refine ret1 (.slice A37 n43 c38) Try.results66 (resT rfl) ?_
        exact ⟨A37, n43, c38, (O ++ ff), rfl, (Frm.mono (hF11.trans hF41) q4), (PZR.le (PZR.sub hO40 fun _ _ _ => trivial) (by omega)), (up_end hF lf (by omega)), (by omega)⟩
    · refine sEv (v := (.bool false)) (evLss false rfl rfl (dF hc21)) rfl rfl ?_
      refine sEv (v := (.bool false)) (rfl) rfl rfl ?_
      refine sSkip rfl rfl ?_
      refine sSkip rfl rfl ?_
      refine sSkip rfl rfl ?_
      refine sEv (v := (.bool false)) (rfl) rfl rfl ?_
      refine sDone ?_
      refine xN (hK20 _ _ ?_)
      refine cF rfl ?_
      refine wp_exit (xE (xE (bE ?_)))
      refine xN (hK3 _ _ ?_)
      refine wp_seq_k fun K46 hK46 => ?_
      refine wp_region_lit ?_
      refine sEv (v := (.slice Ao no cp)) (rfl) rfl rfl ?_
      refine sEv (v := (.slice Af nf cf)) (rfl) rfl rfl ?_
      have h52 := (hf.frmB hF11 q3)
      refine sOp rfl (oAppZS (B := w.heap.size) Try.underlying27 inf31 rfl rfl rfl hO h52 (by intro b hlt hb a ha; have h1 := hO.lt a ha; (try dsimp only at hb); omega) (by omega) (by omega) (by omega) ?_)
      intro A47 n53 c48 w49 hn54 hO50 hF51
      refine sEv (v := (.slice A47 n53 c48)) (rfl) rfl rfl ?_
      refine sDone ?_
      refine xN (hK46 _ _ ?_)
      refine wp_ret ?_
      refine ret1 (.slice A47 n53 c48) Try.results66 (resT rfl) ?_
      exact ⟨A47, n53, c48, (O ++ ff), rfl, (Frm.mono (hF11.trans hF51) q4), (PZR.le (PZR.sub hO50 fun _ _ _ => trivial) (by omega)), (up_end hF lf (by omega)), (by omega)⟩

theorem ref08_Mul {w : World} {Sf : Nat → Prop} {Af : Option Addr} {nf cf Mf : Nat} {ff : List Int} {Sg : Nat → Prop} {Ag : Option Addr} {ng cg Mg : Nat} {fg : List Int} (hf : PZR w Sf Af nf cf ff Mf) (hg : PZR w Sg Ag ng cg fg Mg) (hnf : nf ≤ 16384) (hMf : Mf ≤ 33554432) (hng : ng ≤ 16384) (hMg : Mg ≤ 33554432) : Calls Try.prog 16 #[(.slice Af nf cf), (.slice Ag ng cg)] w (Ret fun v w' => ∃ (Ar : Option Addr) (nr : Nat) (cr : Nat) (fr : List Int), v = (.slice Ar nr cr) ∧ Ext w w' ∧ PZR w' (fun _ => True) Ar nr cr fr (Mf + Mg + ng) ∧ (fr = trimZ (pmul ff fg)) ∧ (nr ≤ nf + ng)) := by
  have lf := hf.len; have kf := hf.cap; have mf := hf.max
  replace hf := hf.low
  have lg := hg.len; have kg := hg.cap; have mg := hg.max
  replace hg := hg.low
  refine enter Try.func16 rfl Try.ntmps16 rfl ?_
  refine wp_seq_k fun K1 hK1 => ?_
  refine wp_region_lit ?_
  refine sEv (v := (.slice none 0 0)) (rfl) rfl rfl ?_
  refine sDone ?_
  refine xN (hK1 _ _ ?_)
  refine wp_seq_k fun K2 hK2 => ?_
  refine wp_region_lit ?_
  refine sEv (v := (.slice none 0 0)) (rfl) rfl rfl ?_
  refine sDone ?_
  refine xN (hK2 _ _ ?_)
  refine wp_seq_k fun K3 hK3 => ?_
  refine wp_seq_k fun K4 hK4 => ?_
  refine wp_region_lit ?_
  refine sEv (v := (.int .i64 (0))) (rfl) rfl rfl ?_
  refine sDone ?_
  refine xN (hK4 _ _ ?_)
  refine wp_block ?_
  refine lLoop (fun m e w_ => ∃ (k : Nat) (O : List Int) (Ao : Option Addr) (cp : Nat) (no : Nat), m = ng - k ∧ e 0 = (.slice Af nf cf) ∧ e 1 = (.slice Ag ng cg) ∧ e 5 = (.slice Ao no cp) ∧ e 6 = (.int .i64 ((k : Int))) ∧ Frm (fun b => False) w w_ ∧ (k ≤ ng) ∧ (no ≤ nf + k) ∧ (O = trimZ (pmul ff (fg.take k))) ∧ (PZR w_ (fun _ => True) Ao no cp O (Mf + Mg + k))) (ng - (0)) ?_ ?_
  · refine ⟨(0), ([]), (none), (0), (0), rfl, rfl, rfl, rfl, (congrArg (Value.int .i64) (by omega)), (Frm.refl _ _), ?_, ?_, ?_, ?_⟩
    · omega
    · omega
    · exact refmul_nil _ _
    · exact PZR.nil
  · rintro m5 e13 w6 ⟨k, O, Ao, cp, no, hm12, hs7, hs8, hs9, hs10, hF11, hk, hno, hF, hR⟩
    obtain ⟨r14, rfl⟩ := sq (e := e13) (t := 0) hs7
    obtain ⟨r15, rfl⟩ := sq (e := r14) (t := 1) hs8
    obtain ⟨r16, rfl⟩ := sq (e := r15) (t := 5) hs9
    obtain ⟨r17, rfl⟩ := sq (e := r16) (t := 6) hs10
    have hz18 := hF11.size
    have lO := hR.len; have kO := hR.cap; have mO := hR.max
    refine wp_seq_k fun K19 hK19 => ?_
    refine wp_seq_k fun K20 hK20 => ?_
    refine wp_region_lit ?_
    refine sEv (v := (.int .i64 ((k : Int)))) (rfl) rfl rfl ?_
    refine sEv (v := (.slice Ag ng cg)) (rfl) rfl rfl ?_
    refine sEv (v := (.int .i64 ((ng : Int)))) (evLen Try.underlying27 rfl) rfl rfl ?_
    by_cases hc21 : ((k : Int)) < ((ng : Int))
    · refine sEv (v := (.bool true)) (evLss true rfl rfl (dT hc21)) rfl rfl ?_
      refine sDone ?_
      refine xN (hK20 _ _ ?_)
      refine cT rfl ?_
      refine wp_skip ?_
      refine xN (hK19 _ _ ?_)
      refine wp_seq_k fun K22 hK22 => ?_
      refine wp_block ?_
      refine wp_region_lit ?_
      refine sEv (v := (.slice Ao no cp)) (rfl) rfl rfl ?_
      refine sEv (v := (.slice Af nf cf)) (rfl) rfl rfl ?_
      refine sEv (v := (.slice Ag ng cg)) (rfl) rfl rfl ?_
      refine sEv (v := (.int .i64 ((k : Int)))) (rfl) rfl rfl ?_
      have h23 := (hg.ext hF11)
      obtain ⟨b24, o25, rfl⟩ := h23.base (by omega)
      refine sEv (v := (.pointer (some ⟨b24, o25 + (k * 2), none⟩))) (evIndex k Try.underlying27 sz31 rfl rfl (by omega) (by omega) (o25 + (k * 2)) (by omega)) rfl rfl ?_
      obtain ⟨s_26, A_26, n_26, c_26, z_26, hp_26, hq_26, h_26, hM_26, hS_26, hb_26, hz_26⟩ := h23.at_ (i := k) (by omega)
      have sg_26 := h_26.1; have k_26 := h_26.cap; have m_26 := h_26.max
      refine sEv (v := (.agg #[(.int .i64 (s_26)), (.slice A_26 n_26 c_26)])) (evLoadA [(.int .i64 (s_26)), (.slice A_26 n_26 c_26)] agg31 sz31 rfl (cell2 hp_26 hq_26)) rfl rfl ?_
      have h28 := (hf.ext hF11)
      refine sOp rfl (oCall rfl call39 (ref08_Scale h28 h_26 (by omega) (by omega) (by omega)) rfl ?_)
      rintro _ w30 ⟨Ar_29, nr_29, cr_29, fr_29, rfl, hE31, hr_29, e_29, ln_29⟩
      have hz32 := hE31.size
      have lr_29 := hr_29.len; have kr_29 := hr_29.cap; have mr_29 := hr_29.max
      replace hr_29 := hr_29.low
      refine sEv (v := (.int .i64 ((k : Int)))) (rfl) rfl rfl ?_
      refine sOp rfl (oCall rfl call66 (ref08_Up hr_29 (xn := k) (by omega) (by omega) (by omega) (by omega)) rfl ?_)
      rintro _ w35 ⟨Ar_34, nr_34, cr_34, fr_34, rfl, hE36, hr_34, e_34, ln_34⟩
      have hz37 := hE36.size
      have lr_34 := hr_34.len; have kr_34 := hr_34.cap; have mr_34 := hr_34.max
      replace hr_34 := hr_34.low
      have h39 := (hR.ext (hE31.trans hE36))
      refine sOp rfl (oCall rfl call38 (ref08_Add h39 hr_34 (by omega) (by omega) (by omega) (by omega)) rfl ?_)
      rintro _ w41 ⟨Ar_40, nr_40, cr_40, fr_40, rfl, hE42, hr_40, e_40, ln_40⟩
      have hz43 := hE42.size
      have lr_40 := hr_40.len; have kr_40 := hr_40.cap; have mr_40 := hr_40.max
      replace hr_40 := hr_40.low
      refine sEv (v := (.slice Ar_40 nr_40 cr_40)) (rfl) rfl rfl ?_
      refine sDone ?_
      refine bN ?_
      refine xN (hK22 _ _ ?_)
      refine wp_region_lit ?_
      refine sEv (v := (.int .i64 ((k : Int)))) (rfl) rfl rfl ?_
      refine sEv (v := (.int .i64 (((k : Int)) + 1))) (evAdd (((k : Int)) + 1) rfl rfl (wI64 (by omega))) rfl rfl ?_
      refine sEv (v := (.int .i64 (((k : Int)) + 1))) (rfl) rfl rfl ?_
      refine sDone ?_
      refine again (ng - (k + 1)) (by omega) ⟨(k + 1), (fr_40), (Ar_40), (cr_40), (nr_40), rfl, rfl, rfl, rfl, (congrArg (Value.int .i64) (by omega)), (((hF11.trans hE31).trans hE36).trans hE42), ?_, ?_, ?_, ?_⟩
      · omega
      · omega
      · rw [e_40, hF, e_34, e_29, hz_26]; exact refmul_step _ _ _
      · exact PZR.le (PZR.sub hr_40 fun _ _ _ => trivial) (by omega)
    · refine sEv (v := (.bool false)) (evLss false rfl rfl (dF hc21)) rfl rfl ?_
      refine sDone ?_
      refine xN (hK20 _ _ ?_)
      refine cF rfl ?_
      refine wp_exit (xE (xE (bE ?_)))
      refine xN (hK3 _ _ ?_)
      refine wp_seq_k fun K45 hK45 => ?_
      refine wp_region_lit ?_
      refine sEv (v := (.slice Ao no cp)) (rfl) rfl rfl ?_
      refine sEv (v := (.slice Ao no cp)) (rfl) rfl rfl ?_
      refine sDone ?_
      refine xN (hK45 _ _ ?_)
      refine wp_ret ?_
      refine ret1 (.slice Ao no cp) Try.results16 (resT rfl) ?_
      exact ⟨Ao, no, cp, O, rfl, hF11, (PZR.le (PZR.sub hR fun _ _ _ => trivial) (by omega)), (refmul_end hF (by omega)), (by omega)⟩

theorem ref08_Derivative {w : World} {Sf : Nat → Prop} {Af : Option Addr} {nf cf Mf : Nat} {ff : List Int} (hf : PZR w Sf Af nf cf ff Mf) (hnf : nf ≤ 65536) (hMf : Mf ≤ 268435456) : Calls Try.prog 21 #[(.slice Af nf cf)] w (Ret fun v w' => ∃ (Ar : Option Addr) (nr : Nat) (cr : Nat) (fr : List Int), v = (.slice Ar nr cr) ∧ Ext w w' ∧ PZR w' (fun _ => True) Ar nr cr fr (Mf + 41) ∧ (fr = trimZ (derivP ff)) ∧ (nr ≤ nf)) := by
  have lf := hf.len; have kf := hf.cap; have mf := hf.max
  replace hf := hf.low
  refine enter Try.func21 rfl Try.ntmps21 rfl ?_
  refine wp_seq_k fun K1 hK1 => ?_
  refine wp_region_lit ?_
  refine sEv (v := (.slice none 0 0)) (rfl) rfl rfl ?_
  refine sDone ?_
  refine xN (hK1 _ _ ?_)
  refine wp_seq_k fun K2 hK2 => ?_
  refine wp_region_lit ?_
  refine sEv (v := (.slice none 0 0)) (rfl) rfl rfl ?_
  refine sDone ?_
  refine xN (hK2 _ _ ?_)
  refine wp_seq_k fun K3 hK3 => ?_
  refine wp_seq_k fun K4 hK4 => ?_
  refine wp_region_lit ?_
  refine sEv (v := (.int .i64 (1))) (rfl) rfl rfl ?_
  refine sDone ?_
  refine xN (hK4 _ _ ?_)
  refine wp_block ?_
  refine lLoop (fun m e w_ => ∃ (k : Nat) (O : List Int) (Ao : Option Addr) (cp : Nat) (no : Nat), m = nf - k ∧ e 0 = (.slice Af nf cf) ∧ e 3 = (.slice Ao no cp) ∧ e 4 = (.int .i64 ((k : Int))) ∧ Frm (fun b => w.heap.size ≤ b) w w_ ∧ (k ≤ nf ∨ k = 1) ∧ (1 ≤ k) ∧ (no = k - 1) ∧ (O = (List.range (k - 1)).map (fun i => co ff (i + 1) * ((i + 1 : Nat) : Int))) ∧ (OwnZ (fun _ => True) w_ w.heap.size 31 Ao no cp O (Mf + 41))) (nf - (1)) ?_ ?_
  · refine ⟨(1), ([]), (none), (0), (0), rfl, rfl, rfl, (congrArg (Value.int .i64) (by omega)), (Frm.refl _ _), ?_, ?_, ?_, ?_, ?_⟩
    · omega
    · omega
    · omega
    · rfl
    · exact OwnZ.nil
  · rintro m5 e12 w6 ⟨k, O, Ao, cp, no, hm11, hs7, hs8, hs9, hF10, hk, hk1, hno, hF, hO⟩
    obtain ⟨r13, rfl⟩ := sq (e := e12) (t := 0) hs7
    obtain ⟨r14, rfl⟩ := sq (e := r13) (t := 3) hs8
    obtain ⟨r15, rfl⟩ := sq (e := r14) (t := 4) hs9
    have hz16 := hF10.size
    have lO := hO.len; have kO := hO.cap; have mO := hO.max
    refine wp_seq_k fun K17 hK17 => ?_
    refine wp_seq_k fun K18 hK18 => ?_
    refine wp_region_lit ?_
    refine sEv (v := (.int .i64 ((k : Int)))) (rfl) rfl rfl ?_
    refine sEv (v := (.slice Af nf cf)) (rfl) rfl rfl ?_
    refine sEv (v := (.int .i64 ((nf : Int)))) (evLen Try.underlying27 rfl) rfl rfl ?_
    by_cases hc19 : ((k : Int)) < ((nf : Int))
    · refine sEv (v := (.bool true)) (evLss true rfl rfl (dT hc19)) rfl rfl ?_
      refine sDone ?_
      refine xN (hK18 _ _ ?_)
      refine cT rfl ?_
      refine wp_skip ?_
      refine xN (hK17 _ _ ?_)
      refine wp_seq_k fun K20 hK20 => ?_
      refine wp_block ?_
      refine dBegin (fun b => w.heap.size ≤ b) mixed ?_
      intro w21 hE22 hz23
      refine dEv 0 rfl (v := (.slice Ao no cp)) (fun _ _ => rfl) rfl rfl (by kernel_rfl) ?_
      refine dEv 1 rfl (v := (.slice Af nf cf)) (fun _ _ => rfl) rfl rfl (by kernel_rfl) ?_
      refine dEv 2 rfl (v := (.int .i64 ((k : Int)))) (fun _ _ => rfl) rfl rfl (by kernel_rfl) ?_
      have h24 := (hf.frmB (hF10.trans (Frm.of_ext (G := fun b => (w.heap.size ≤ b)) hE22)) q3)
      obtain ⟨b25, o26, rfl⟩ := h24.base (by omega)
      refine dEv 3 rfl (v := (.pointer (some ⟨b25, o26 + (k * 2), none⟩))) (fun _ _ => evIndex k Try.underlying27 sz31 rfl rfl (by omega) (by omega) (o26 + (k * 2)) (by omega)) rfl rfl (by kernel_rfl) ?_
      obtain ⟨s_27, A_27, n_27, c_27, z_27, hp_27, hq_27, h_27, hM_27, hS_27, hb_27, hz_27⟩ := h24.at_ (i := k) (by omega)
      have sg_27 := h_27.1; have k_27 := h_27.cap; have m_27 := h_27.max
      refine dEv 4 rfl (v := (.agg #[(.int .i64 (s_27)), (.slice A_27 n_27 c_27)])) (fun _ hf => evLoadA [(.int .i64 (s_27)), (.slice A_27 n_27 c_27)] agg31 sz31 rfl (cell2F hp_27 hq_27 hf hb_27 (by (try dsimp only at hS_27 ⊢); omega))) rfl rfl (by kernel_rfl) ?_
      refine dEv 5 rfl (v := (.int .i64 ((k : Int)))) (fun _ _ => rfl) rfl rfl (by kernel_rfl) ?_
      refine dOp 6 rfl rfl (by kernel_rfl) (oCall rfl call15 (ref02_Small (by omega)) rfl ?_)
      rintro _ w30 ⟨sr_29, Ar_29, nr_29, cr_29, zr_29, rfl, hE31, hr_29, v_29, le_29⟩
      refine ⟨(Frm.of_ext hE31), ?_⟩
      have hz32 := hE31.size
      have sgr_29 := hr_29.1; have kr_29 := hr_29.cap; have mr_29 := hr_29.max
      have h34 := (h_27.ext hE31)
      refine dOp 7 rfl rfl (by kernel_rfl) (oCall rfl call70 (ref02_Mul h34 hr_29 (by omega) (by omega)) rfl ?_)
      rintro _ w36 ⟨sr_35, Ar_35, nr_35, cr_35, zr_35, rfl, hE37, hr_35, v_35, le_35⟩
      refine ⟨(Frm.of_ext hE37), ?_⟩
      have hz38 := hE37.size
      have sgr_35 := hr_35.1; have kr_35 := hr_35.cap; have mr_35 := hr_35.max
      refine dOp 8 rfl rfl (by kernel_rfl) (oBuildSlice [(.agg #[(.int .i64 (sr_35)), (.slice Ar_35 nr_35 cr_35)])] [[(.int .i64 (sr_35)), (.slice Ar_35 nr_35 cr_35)]] Try.underlying27 inf31 rfl rfl rfl rfl rfl ?_)
      intro g40 w41 hg42 hE43 hz44 hB45
      refine ⟨(Frm.of_ext hE43), ?_⟩
      replace hB45 : Blk w41 g40 31 [(.int .i64 (sr_35)), (.slice Ar_35 nr_35 cr_35)] := hB45
      have hO46 := (hO.ext (((hE22.trans hE31).trans hE37).trans hE43))
      have h52 := (hr_35.ext hE43)
      refine dOp 9 rfl rfl (by kernel_rfl) (oAppZ (B := w.heap.size) Try.underlying27 inf31 rfl rfl rfl hO46 hB45 h52 (by omega) (by intro b hlt hb a ha; have h1 := hO.lt a ha; (try dsimp only at hb); omega) (fun _ _ _ => trivial) (by omega) (by omega) (by omega) ?_)
      intro A47 c48 w49 hO50 hF51
      refine ⟨hF51, ?_⟩
      refine dEv 10 rfl (v := (.slice A47 (no + 1) c48)) (fun _ _ => rfl) rfl rfl (by kernel_rfl) ?_
      refine dDone (by kernel_rfl) ?_
      refine bN ?_
      refine xN (hK20 _ _ ?_)
      refine wp_region_lit ?_
      refine sEv (v := (.int .i64 ((k : Int)))) (rfl) rfl rfl ?_
      refine sEv (v := (.int .i64 (((k : Int)) + 1))) (evAdd (((k : Int)) + 1) rfl rfl (wI64 (by omega))) rfl rfl ?_
      refine sEv (v := (.int .i64 (((k : Int)) + 1))) (rfl) rfl rfl ?_
      refine sDone ?_
      refine again (nf - (k + 1)) (by omega) ⟨(k + 1), (O ++ [zr_35]), (A47), (c48), (no + 1), rfl, rfl, rfl, (congrArg (Value.int .i64) (by omega)), (((((hF10.trans (Frm.of_ext (G := fun b => (w.heap.size ≤ b)) hE22)).trans (Frm.of_ext (G := fun b => (w.heap.size ≤ b)) hE31)).trans (Frm.of_ext (G := fun b => (w.heap.size ≤ b)) hE37)).trans (Frm.of_ext (G := fun b => (w.heap.size ≤ b)) hE43)).trans hF51), ?_, ?_, ?_, ?_, ?_⟩
      · omega
      · omega
      · omega
      · exact deriv_snoc hF (by omega) (by rw [v_35, v_29, hz_27])
      · exact hO50
    · refine sEv (v := (.bool false)) (evLss false rfl rfl (dF hc19)) rfl rfl ?_
      refine sDone ?_
      refine xN (hK18 _ _ ?_)
      refine cF rfl ?_
      refine wp_exit (xE (xE (bE ?_)))
      refine xN (hK3 _ _ ?_)
      refine wp_seq_k fun K53 hK53 => ?_
      refine wp_region_lit ?_
      refine sEv (v := (.slice Ao no cp)) (rfl) rfl rfl ?_
      refine sOp rfl (oCall rfl call29 (ref08_Trim (OwnZ.pzr hO)) rfl ?_)
      rintro _ w55 ⟨Ar_54, nr_54, cr_54, fr_54, rfl, hE56, hr_54, e_54, le_54⟩
      have hz57 := hE56.size
      have lr_54 := hr_54.len; have kr_54 := hr_54.cap; have mr_54 := hr_54.max
      replace hr_54 := hr_54.low
      refine sEv (v := (.slice Ar_54 nr_54 cr_54)) (rfl) rfl rfl ?_
      refine sDone ?_
      refine xN (hK53 _ _ ?_)
      refine wp_ret ?_
      refine ret1 (.slice Ar_54 nr_54 cr_54) Try.results21 (resT rfl) ?_
      exact ⟨Ar_54, nr_54, cr_54, fr_54, rfl, (Frm.mono (hF10.trans (Frm.of_ext (G := fun b => (w.heap.size ≤ b)) hE56)) q4), (PZR.le (PZR.sub hr_54 fun _ _ _ => trivial) (by omega)), (by rw [e_54, hF]; unfold derivP; congr 2; rw [lf, show k - 1 = nf - 1 by omega]), (by omega)⟩

end Go.Proofs.Ytppegjbdencefaa
