/-
  Walks of package cylinderref08: composition, comparison.
-/
import Derived.Test.YtppegjbdencefaaRef4
namespace Go.Proofs.Ytppegjbdencefaa
open Go.RowKit Go.Gx
theorem ref08_Compose {w : World} {Sf : Nat → Prop} {Af : Option Addr} {nf cf Mf : Nat} {ff : List Int} {Sg : Nat → Prop} {Ag : Option Addr} {ng cg Mg : Nat} {fg : List Int} (hf : PZR w Sf Af nf cf ff Mf) (hg : PZR w Sg Ag ng cg fg Mg) (hnf : nf ≤ 64) (hMf : Mf ≤ 32768) (hng : ng ≤ 64) (hMg : Mg ≤ 32768) : Calls Try.prog 28 #[(.slice Af nf cf), (.slice Ag ng cg)] w (Ret fun v w' => ∃ (Ar : Option Addr) (nr : Nat) (cr : Nat) (fr : List Int), v = (.slice Ar nr cr) ∧ Ext w w' ∧ PZR w' (fun _ => True) Ar nr cr fr (8388608) ∧ (fr = trimZ (pcs ff fg nf)) ∧ (nr ≤ 8192)) := by
  have lf := hf.len; have kf := hf.cap; have mf := hf.max
  replace hf := hf.low
  have lg := hg.len; have kg := hg.cap; have mg := hg.max
  replace hg := hg.low
  refine enter Try.func28 rfl Try.ntmps28 rfl ?_
  refine wp_seq_k fun K1 hK1 => ?_
  refine wp_region_lit ?_
  refine sEv (v := (.slice none 0 0)) (rfl) rfl rfl ?_
  refine sDone ?_
  refine xN (hK1 _ _ ?_)
  refine wp_seq_k fun K2 hK2 => ?_
  refine wp_region_lit ?_
  refine sEv (v := (.slice none 0 0)) (rfl) rfl rfl ?_
  refine sDone ?_
  refine xN (hK2 _ _ ?_)
  refine wp_seq_k fun K3 hK3 => ?_
  refine wp_region_lit ?_
  refine sOp rfl (oCall rfl call15 (ref02_Small (by omega)) rfl ?_)
  rintro _ w5 ⟨sr_4, Ar_4, nr_4, cr_4, zr_4, rfl, hE6, hr_4, v_4, le_4⟩
  have hz7 := hE6.size
  have sgr_4 := hr_4.1; have kr_4 := hr_4.cap; have mr_4 := hr_4.max
  refine sOp rfl (oBuildSlice [(.agg #[(.int .i64 (sr_4)), (.slice Ar_4 nr_4 cr_4)])] [[(.int .i64 (sr_4)), (.slice Ar_4 nr_4 cr_4)]] Try.underlying27 inf31 rfl rfl rfl rfl rfl ?_)
  intro g9 w10 hg11 hE12 hz13 hB14
  replace hB14 : Blk w10 g9 31 [(.int .i64 (sr_4)), (.slice Ar_4 nr_4 cr_4)] := hB14
  refine sEv (v := (.slice (some ⟨g9, 0, none⟩) 1 1)) (rfl) rfl rfl ?_
  refine sDone ?_
  refine xN (hK3 _ _ ?_)
  refine wp_seq_k fun K15 hK15 => ?_
  refine wp_seq_k fun K16 hK16 => ?_
  refine wp_region_lit ?_
  refine sEv (v := (.int .i64 (0))) (rfl) rfl rfl ?_
  refine sDone ?_
  refine xN (hK16 _ _ ?_)
  refine wp_block ?_
  have h19 := (hr_4.ext hE12)
  have h18 : PZR w10 (fun _ => True) (some ⟨g9, 0, none⟩) 1 1 ([zr_4]) (nr_4) := PZR.one hB14 h19 (by omega)
  refine lLoop (fun m e w_ => ∃ (k : Nat) (O : List Int) (Ao : Option Addr) (no : Nat) (co_ : Nat) (W : List Int) (Ap : Option Addr) (np : Nat) (cp : Nat), m = nf - k ∧ e 0 = (.slice Af nf cf) ∧ e 1 = (.slice Ag ng cg) ∧ e 5 = (.slice Ao no co_) ∧ e 6 = (.slice Ap np cp) ∧ e 7 = (.int .i64 ((k : Int))) ∧ Frm (fun b => False) w10 w_ ∧ (k ≤ nf) ∧ (no ≤ 64 * k + 1) ∧ (np ≤ 64 * k + 1) ∧ (O = trimZ (pcs ff fg k)) ∧ (W = trimZ (ppow fg k)) ∧ (PZR w_ (fun _ => True) Ao no co_ O (100000 * k + 41)) ∧ (PZR w_ (fun _ => True) Ap np cp W (40000 * k + 41))) (nf - (0)) ?_ ?_
  · refine ⟨(0), ([]), (none), (0), (0), ([zr_4]), ((some ⟨g9, 0, none⟩)), (1), (1), rfl, rfl, rfl, rfl, rfl, (congrArg (Value.int .i64) (by omega)), (Frm.refl _ _), ?_, ?_, ?_, ?_, ?_, ?_, ?_⟩
    · omega
    · omega
    · omega
    · rfl
    · rw [v_4]; exact trim_one.symm
    · exact PZR.nil
    · exact PZR.le h18 (by omega)
  · rintro m17 e28 w20 ⟨k, O, Ao, no, co_, W, Ap, np, cp, hm27, hs21, hs22, hs23, hs24, hs25, hF26, hk, hno, hnp, hO, hW, hR, hP⟩
    obtain ⟨r29, rfl⟩ := sq (e := e28) (t := 0) hs21
    obtain ⟨r30, rfl⟩ := sq (e := r29) (t := 1) hs22
    obtain ⟨r31, rfl⟩ := sq (e := r30) (t := 5) hs23
    obtain ⟨r32, rfl⟩ := sq (e := r31) (t := 6) hs24
    obtain ⟨r33, rfl⟩ := sq (e := r32) (t := 7) hs25
    have hz34 := hF26.size
    have lO := hR.len; have kO := hR.cap; have mO := hR.max; have lP := hP.len; have kP := hP.cap; have mP := hP.max
    refine wp_seq_k fun K35 hK35 => ?_
    refine wp_seq_k fun K36 hK36 => ?_
    refine wp_region_lit ?_
    refine sEv (v := (.int .i64 ((k : Int)))) (rfl) rfl rfl ?_
    refine sEv (v := (.slice Af nf cf)) (rfl) rfl rfl ?_
    refine sEv (v := (.int .i64 ((nf : Int)))) (evLen Try.underlying27 rfl) rfl rfl ?_
    by_cases hc37 : ((k : Int)) < ((nf : Int))
    · refine sEv (v := (.bool true)) (evLss true rfl rfl (dT hc37)) rfl rfl ?_
      refine sDone ?_
      refine xN (hK36 _ _ ?_)
      refine cT rfl ?_
      refine wp_skip ?_
      refine xN (hK35 _ _ ?_)
      refine wp_seq_k fun K38 hK38 => ?_
      refine wp_block ?_
      refine wp_seq_k fun K39 hK39 => ?_
      refine wp_region_lit ?_
      refine sEv (v := (.slice Ao no co_)) (rfl) rfl rfl ?_
      refine sEv (v := (.slice Ap np cp)) (rfl) rfl rfl ?_
      refine sEv (v := (.slice Af nf cf)) (rfl) rfl rfl ?_
      refine sEv (v := (.int .i64 ((k : Int)))) (rfl) rfl rfl ?_
      have h40 := (hf.ext ((hE6.trans hE12).trans hF26))
      obtain ⟨b41, o42, rfl⟩ := h40.base (by omega)
      refine sEv (v := (.pointer (some ⟨b41, o42 + (k * 2), none⟩))) (evIndex k Try.underlying27 sz31 rfl rfl (by omega) (by omega) (o42 + (k * 2)) (by omega)) rfl rfl ?_
      obtain ⟨s_43, A_43, n_43, c_43, z_43, hp_43, hq_43, h_43, hM_43, hS_43, hb_43, hz_43⟩ := h40.at_ (i := k) (by omega)
      have sg_43 := h_43.1; have k_43 := h_43.cap; have m_43 := h_43.max
      refine sEv (v := (.agg #[(.int .i64 (s_43)), (.slice A_43 n_43 c_43)])) (evLoadA [(.int .i64 (s_43)), (.slice A_43 n_43 c_43)] agg31 sz31 rfl (cell2 hp_43 hq_43)) rfl rfl ?_
      refine sOp rfl (oCall rfl call39 (ref08_Scale hP h_43 (by omega) (by omega) (by omega)) rfl ?_)
      rintro _ w46 ⟨Ar_45, nr_45, cr_45, fr_45, rfl, hE47, hr_45, e_45, ln_45⟩
      have hz48 := hE47.size
      have lr_45 := hr_45.len; have kr_45 := hr_45.cap; have mr_45 := hr_45.max
      replace hr_45 := hr_45.low
      have h50 := (hR.ext hE47)
      refine sOp rfl (oCall rfl call38 (ref08_Add h50 hr_45 (by omega) (by omega) (by omega) (by omega)) rfl ?_)
      rintro _ w52 ⟨Ar_51, nr_51, cr_51, fr_51, rfl, hE53, hr_51, e_51, ln_51⟩
      have hz54 := hE53.size
      have lr_51 := hr_51.len; have kr_51 := hr_51.cap; have mr_51 := hr_51.max
      replace hr_51 := hr_51.low
      refine sEv (v := (.slice Ar_51 nr_51 cr_51)) (rfl) rfl rfl ?_
      refine sDone ?_
      refine xN (hK39 _ _ ?_)
      refine wp_region_lit ?_
      refine sEv (v := (.slice Ap np cp)) (rfl) rfl rfl ?_
      refine sEv (v := (.slice Ag ng cg)) (rfl) rfl rfl ?_
      have h56 := (hP.ext (hE47.trans hE53))
      have h57 := (hg.ext ((((hE6.trans hE12).trans hF26).trans hE47).trans hE53))
      refine sOp rfl (oCall rfl call16 (ref08_Mul h56 h57 (by omega) (by omega) (by omega) (by omega)) rfl ?_)
      rintro _ w59 ⟨Ar_58, nr_58, cr_58, fr_58, rfl, hE60, hr_58, e_58, ln_58⟩
      have hz61 := hE60.size
      have lr_58 := hr_58.len; have kr_58 := hr_58.cap; have mr_58 := hr_58.max
      replace hr_58 := hr_58.low
      refine sEv (v := (.slice Ar_58 nr_58 cr_58)) (rfl) rfl rfl ?_
      refine sDone ?_
      refine bN ?_
      refine xN (hK38 _ _ ?_)
      refine wp_region_lit ?_
      refine sEv (v := (.int .i64 ((k : Int)))) (rfl) rfl rfl ?_
      refine sEv (v := (.int .i64 (((k : Int)) + 1))) (evAdd (((k : Int)) + 1) rfl rfl (wI64 (by omega))) rfl rfl ?_
      refine sEv (v := (.int .i64 (((k : Int)) + 1))) (rfl) rfl rfl ?_
      refine sDone ?_
      have h63 := (hr_51.ext hE60)
      refine again (nf - (k + 1)) (by omega) ⟨(k + 1), (fr_51), (Ar_51), (nr_51), (cr_51), (fr_58), (Ar_58), (nr_58), (cr_58), rfl, rfl, rfl, rfl, rfl, (congrArg (Value.int .i64) (by omega)), (((hF26.trans hE47).trans hE53).trans hE60), ?_, ?_, ?_, ?_, ?_, ?_, ?_⟩
      · omega
      · omega
      · omega
      · rw [e_51, hO, e_45, hW, hz_43]; exact refcomp_step _ _ _
      · rw [e_58, hW]; exact refpow_step _ _ _ fun _ => rfl
      · exact PZR.le (PZR.sub h63 fun _ _ _ => trivial) (by omega)
      · exact PZR.le (PZR.sub hr_58 fun _ _ _ => trivial) (by omega)
    · refine sEv (v := (.bool false)) (evLss false rfl rfl (dF hc37)) rfl rfl ?_
      refine sDone ?_
      refine xN (hK36 _ _ ?_)
      refine cF rfl ?_
      refine wp_exit (xE (xE (bE ?_)))
      refine xN (hK15 _ _ ?_)
      refine wp_seq_k fun K64 hK64 => ?_
      refine wp_region_lit ?_
      refine sEv (v := (.slice Ao no co_)) (rfl) rfl rfl ?_
      refine sEv (v := (.slice Ao no co_)) (rfl) rfl rfl ?_
      refine sDone ?_
      refine xN (hK64 _ _ ?_)
      refine wp_ret ?_
      refine ret1 (.slice Ao no co_) Try.results28 (resT rfl) ?_
      exact ⟨Ao, no, co_, O, rfl, ((hE6.trans hE12).trans hF26), (PZR.le (PZR.sub hR fun _ _ _ => trivial) (by omega)), (by rw [hO, show k = nf by omega]), (by omega)⟩

theorem ref08_Same {w : World} {Sf : Nat → Prop} {Af : Option Addr} {nf cf Mf : Nat} {ff : List Int} {Sg : Nat → Prop} {Ag : Option Addr} {ng cg Mg : Nat} {fg : List Int} (hf : PZR w Sf Af nf cf ff Mf) (hg : PZR w Sg Ag ng cg fg Mg) (hMf : Mf ≤ 268435456) (hMg : Mg ≤ 268435456) : Calls Try.prog 45 #[(.slice Af nf cf), (.slice Ag ng cg)] w (Ret fun v w' => ∃ (gr : Bool), v = (.bool gr) ∧ Ext w w' ∧ (gr = decide (ff = fg))) := by
  have lf := hf.len; have kf := hf.cap; have mf := hf.max
  replace hf := hf.low
  have lg := hg.len; have kg := hg.cap; have mg := hg.max
  replace hg := hg.low
  refine enter Try.func45 rfl Try.ntmps45 rfl ?_
  refine wp_seq_k fun K1 hK1 => ?_
  refine wp_region_lit ?_
  refine sEv (v := (.bool false)) (rfl) rfl rfl ?_
  refine sDone ?_
  refine xN (hK1 _ _ ?_)
  refine wp_seq_k fun K2 hK2 => ?_
  refine wp_seq_k fun K3 hK3 => ?_
  refine wp_region_lit ?_
  refine sEv (v := (.slice Af nf cf)) (rfl) rfl rfl ?_
  refine sEv (v := (.int .i64 ((nf : Int)))) (evLen Try.underlying27 rfl) rfl rfl ?_
  refine sEv (v := (.slice Ag ng cg)) (rfl) rfl rfl ?_
  refine sEv (v := (.int .i64 ((ng : Int)))) (evLen Try.underlying27 rfl) rfl rfl ?_
  by_cases hc4 : ((nf : Int)) ≠ ((ng : Int))
  · refine sEv (v := (.bool true)) (evNeq true rfl rfl (dT hc4)) rfl rfl ?_
    refine sDone ?_
    refine xN (hK3 _ _ ?_)
    refine cT rfl ?_
    refine wp_seq_k fun K5 hK5 => ?_
    refine wp_region_lit ?_
    refine sEv (v := (.bool false)) (rfl) rfl rfl ?_
    refine sDone ?_
    refine xN (hK5 _ _ ?_)
    refine wp_ret (xR ?_)
    refine ret1 (.bool false) Try.results45 (resT rfl) ?_
    exact ⟨(false), rfl, (Frm.refl _ _), (same_len (by omega))⟩
  · refine sEv (v := (.bool false)) (evNeq false rfl rfl (dF hc4)) rfl rfl ?_
    refine sDone ?_
    refine xN (hK3 _ _ ?_)
    refine cF rfl ?_
    refine wp_skip ?_
    refine xN (hK2 _ _ ?_)
    refine wp_seq_k fun K6 hK6 => ?_
    refine wp_seq_k fun K7 hK7 => ?_
    refine wp_region_lit ?_
    refine sEv (v := (.int .i64 (0))) (rfl) rfl rfl ?_
    refine sDone ?_
    refine xN (hK7 _ _ ?_)
    refine wp_block ?_
    refine lLoop (fun m e w_ => ∃ (k : Nat), m = nf - k ∧ e 0 = (.slice Af nf cf) ∧ e 1 = (.slice Ag ng cg) ∧ e 5 = (.int .i64 ((k : Int))) ∧ Frm (fun b => False) w w_ ∧ (k ≤ nf) ∧ (∀ i, i < k → co ff i = co fg i)) (nf - (0)) ?_ ?_
    · refine ⟨(0), rfl, rfl, rfl, (congrArg (Value.int .i64) (by omega)), (Frm.refl _ _), ?_, ?_⟩
      · omega
      · intro i hi; omega
    · rintro m8 e15 w9 ⟨k, hm14, hs10, hs11, hs12, hF13, hk, hq⟩
      obtain ⟨r16, rfl⟩ := sq (e := e15) (t := 0) hs10
      obtain ⟨r17, rfl⟩ := sq (e := r16) (t := 1) hs11
      obtain ⟨r18, rfl⟩ := sq (e := r17) (t := 5) hs12
      have hz19 := hF13.size
      refine wp_seq_k fun K20 hK20 => ?_
      refine wp_seq_k fun K21 hK21 => ?_
      refine wp_region_lit ?_
      refine sEv (v := (.int .i64 ((k : Int)))) (rfl) rfl rfl ?_
      refine sEv (v := (.slice Af nf cf)) (rfl) rfl rfl ?_
      refine sEv (v := (.int .i64 ((nf : Int)))) (evLen Try.underlying27 rfl) rfl rfl ?_
      by_cases hc22 : ((k : Int)) < ((nf : Int))
      · refine sEv (v := (.bool true)) (evLss true rfl rfl (dT hc22)) rfl rfl ?_
        refine sDone ?_
        refine xN (hK21 _ _ ?_)
        refine cT rfl ?_
        refine wp_skip ?_
        refine xN (hK20 _ _ ?_)
        refine wp_seq_k fun K23 hK23 => ?_
        refine wp_block ?_
        refine wp_seq_k fun K24 hK24 => ?_
        refine dBegin (fun _ => False) mixed ?_
        intro w25 hE26 hz27
        refine dEv 0 rfl (v := (.slice Af nf cf)) (fun _ _ => rfl) rfl rfl (by kernel_rfl) ?_
        refine dEv 1 rfl (v := (.int .i64 ((k : Int)))) (fun _ _ => rfl) rfl rfl (by kernel_rfl) ?_
        have h28 := (hf.ext (hF13.trans hE26))
        obtain ⟨b29, o30, rfl⟩ := h28.base (by omega)
        refine dEv 2 rfl (v := (.pointer (some ⟨b29, o30 + (k * 2), none⟩))) (fun _ _ => evIndex k Try.underlying27 sz31 rfl rfl (by omega) (by omega) (o30 + (k * 2)) (by omega)) rfl rfl (by kernel_rfl) ?_
        obtain ⟨s_31, A_31, n_31, c_31, z_31, hp_31, hq_31, h_31, hM_31, hS_31, hb_31, hz_31⟩ := h28.at_ (i := k) (by omega)
        have sg_31 := h_31.1; have k_31 := h_31.cap; have m_31 := h_31.max
        refine dEv 3 rfl (v := (.agg #[(.int .i64 (s_31)), (.slice A_31 n_31 c_31)])) (fun _ hf => evLoadA [(.int .i64 (s_31)), (.slice A_31 n_31 c_31)] agg31 sz31 rfl (cell2F hp_31 hq_31 hf hb_31 (fun h => h))) rfl rfl (by kernel_rfl) ?_
        refine dEv 4 rfl (v := (.slice Ag ng cg)) (fun _ _ => rfl) rfl rfl (by kernel_rfl) ?_
        refine dEv 5 rfl (v := (.int .i64 ((k : Int)))) (fun _ _ => rfl) rfl rfl (by kernel_rfl) ?_
        have h33 := (hg.ext (hF13.trans hE26))
        obtain ⟨b34, o35, rfl⟩ := h33.base (by omega)
        refine dEv 6 rfl (v := (.pointer (some ⟨b34, o35 + (k * 2), none⟩))) (fun _ _ => evIndex k Try.underlying27 sz31 rfl rfl (by omega) (by omega) (o35 + (k * 2)) (by omega)) rfl rfl (by kernel_rfl) ?_
        obtain ⟨s_36, A_36, n_36, c_36, z_36, hp_36, hq_36, h_36, hM_36, hS_36, hb_36, hz_36⟩ := h33.at_ (i := k) (by omega)
        have sg_36 := h_36.1; have k_36 := h_36.cap; have m_36 := h_36.max
        refine dEv 7 rfl (v := (.agg #[(.int .i64 (s_36)), (.slice A_36 n_36 c_36)])) (fun _ hf => evLoadA [(.int .i64 (s_36)), (.slice A_36 n_36 c_36)] agg31 sz31 rfl (cell2F hp_36 hq_36 hf hb_36 (fun h => h))) rfl rfl (by kernel_rfl) ?_
        refine dOp 8 rfl rfl (by kernel_rfl) (oCall rfl call34 (ref02_Cmp h_31 h_36 (by omega) (by omega)) rfl ?_)
        rintro _ w39 ⟨xr_38, rfl, hE40, e_38⟩
        refine ⟨(Frm.of_ext hE40), ?_⟩
        have hz41 := hE40.size
        by_cases hc42 : xr_38 ≠ 0
        · refine dEv 9 rfl (v := (.bool true)) (fun _ _ => evNeq true rfl rfl (dT hc42)) rfl rfl (by kernel_rfl) ?_
          refine dDone (by kernel_rfl) ?_
          refine xN (hK24 _ _ ?_)
          refine cT rfl ?_
          refine wp_seq_k fun K43 hK43 => ?_
          refine wp_region_lit ?_
          refine sEv (v := (.bool false)) (rfl) rfl rfl ?_
          refine sDone ?_
          refine xN (hK43 _ _ ?_)
          refine wp_ret (bR (xR (xR (bR (xR ?_)))))
          refine ret1 (.bool false) Try.results45 (resT rfl) ?_
          exact ⟨(false), rfl, ((hF13.trans hE26).trans hE40), (same_no hz_31 hz_36 e_38 hc42)⟩
        · refine dEv 9 rfl (v := (.bool false)) (fun _ _ => evNeq false rfl rfl (dF hc42)) rfl rfl (by kernel_rfl) ?_
          refine dDone (by kernel_rfl) ?_
          refine xN (hK24 _ _ ?_)
          refine cF rfl ?_
          refine wp_skip ?_
          refine bN ?_
          refine xN (hK23 _ _ ?_)
          refine wp_region_lit ?_
          refine sEv (v := (.int .i64 ((k : Int)))) (rfl) rfl rfl ?_
          refine sEv (v := (.int .i64 (((k : Int)) + 1))) (evAdd (((k : Int)) + 1) rfl rfl (wI64 (by omega))) rfl rfl ?_
          refine sEv (v := (.int .i64 (((k : Int)) + 1))) (rfl) rfl rfl ?_
          refine sDone ?_
          refine again (nf - (k + 1)) (by omega) ⟨(k + 1), rfl, rfl, rfl, (congrArg (Value.int .i64) (by omega)), ((hF13.trans hE26).trans hE40), ?_, ?_⟩
          · omega
          · exact same_step hq hz_31 hz_36 e_38 hc42
      · refine sEv (v := (.bool false)) (evLss false rfl rfl (dF hc22)) rfl rfl ?_
        refine sDone ?_
        refine xN (hK21 _ _ ?_)
        refine cF rfl ?_
        refine wp_exit (xE (xE (bE ?_)))
        refine xN (hK6 _ _ ?_)
        refine wp_seq_k fun K44 hK44 => ?_
        refine wp_region_lit ?_
        refine sEv (v := (.bool true)) (rfl) rfl rfl ?_
        refine sDone ?_
        refine xN (hK44 _ _ ?_)
        refine wp_ret ?_
        refine ret1 (.bool true) Try.results45 (resT rfl) ?_
        exact ⟨(true), rfl, hF13, (same_all hq (by omega) (by omega))⟩

theorem ref08_Compare {w : World} {Sf : Nat → Prop} {Af : Option Addr} {nf cf Mf : Nat} {ff : List Int} {Sg : Nat → Prop} {Ag : Option Addr} {ng cg Mg : Nat} {fg : List Int} (hf : PZR w Sf Af nf cf ff Mf) (hg : PZR w Sg Ag ng cg fg Mg) (hMf : Mf ≤ 268435456) (hMg : Mg ≤ 268435456) : Calls Try.prog 47 #[(.slice Af nf cf), (.slice Ag ng cg)] w (Ret fun v w' => ∃ (xr : Int), v = (.int .i64 (xr)) ∧ Ext w w' ∧ (xr = cmpP ff fg)) := by
  have lf := hf.len; have kf := hf.cap; have mf := hf.max
  replace hf := hf.low
  have lg := hg.len; have kg := hg.cap; have mg := hg.max
  replace hg := hg.low
  refine enter Try.func47 rfl Try.ntmps47 rfl ?_
  refine wp_seq_k fun K1 hK1 => ?_
  refine wp_region_lit ?_
  refine sEv (v := (.int .i64 (0))) (rfl) rfl rfl ?_
  refine sDone ?_
  refine xN (hK1 _ _ ?_)
  refine wp_seq_k fun K2 hK2 => ?_
  refine wp_seq_k fun K3 hK3 => ?_
  refine wp_region_lit ?_
  refine sEv (v := (.slice Af nf cf)) (rfl) rfl rfl ?_
  refine sEv (v := (.int .i64 ((nf : Int)))) (evLen Try.underlying27 rfl) rfl rfl ?_
  refine sEv (v := (.slice Ag ng cg)) (rfl) rfl rfl ?_
  refine sEv (v := (.int .i64 ((ng : Int)))) (evLen Try.underlying27 rfl) rfl rfl ?_
  by_cases hc4 : ((nf : Int)) ≠ ((ng : Int))
  · refine sEv (v := (.bool true)) (evNeq true rfl rfl (dT hc4)) rfl rfl ?_
    refine sDone ?_
    refine xN (hK3 _ _ ?_)
    refine cT rfl ?_
    refine wp_seq_k fun K5 hK5 => ?_
    refine wp_seq_k fun K6 hK6 => ?_
    refine wp_region_lit ?_
    refine sEv (v := (.slice Af nf cf)) (rfl) rfl rfl ?_
    refine sEv (v := (.int .i64 ((nf : Int)))) (evLen Try.underlying27 rfl) rfl rfl ?_
    refine sEv (v := (.slice Ag ng cg)) (rfl) rfl rfl ?_
    refine sEv (v := (.int .i64 ((ng : Int)))) (evLen Try.underlying27 rfl) rfl rfl ?_
    by_cases hc7 : ((nf : Int)) < ((ng : Int))
    · refine sEv (v := (.bool true)) (evLss true rfl rfl (dT hc7)) rfl rfl ?_
      refine sDone ?_
      refine xN (hK6 _ _ ?_)
      refine cT rfl ?_
      refine wp_seq_k fun K8 hK8 => ?_
      refine wp_region_lit ?_
      refine sEv (v := (.int .i64 ((-1)))) (rfl) rfl rfl ?_
      refine sDone ?_
      refine xN (hK8 _ _ ?_)
      refine wp_ret (xR (xR ?_))
      refine ret1 (.int .i64 ((-1))) Try.results47 (resT rfl) ?_
      exact ⟨((-1)), rfl, (Frm.refl _ _), (cmpP_lt (by omega))⟩
    · refine sEv (v := (.bool false)) (evLss false rfl rfl (dF hc7)) rfl rfl ?_
      refine sDone ?_
      refine xN (hK6 _ _ ?_)
      refine cF rfl ?_
      refine wp_skip ?_
      refine xN (hK5 _ _ ?_)
      refine wp_seq_k fun K9 hK9 => ?_
      refine wp_region_lit ?_
      refine sEv (v := (.int .i64 (1))) (rfl) rfl rfl ?_
      refine sDone ?_
      refine xN (hK9 _ _ ?_)
      refine wp_ret (xR ?_)
      refine ret1 (.int .i64 (1)) Try.results47 (resT rfl) ?_
      exact ⟨(1), rfl, (Frm.refl _ _), (cmpP_gt (by omega))⟩
  · refine sEv (v := (.bool false)) (evNeq false rfl rfl (dF hc4)) rfl rfl ?_
    refine sDone ?_
    refine xN (hK3 _ _ ?_)
    refine cF rfl ?_
    refine wp_skip ?_
    refine xN (hK2 _ _ ?_)
    refine wp_seq_k fun K10 hK10 => ?_
    refine wp_seq_k fun K11 hK11 => ?_
    refine wp_region_lit ?_
    refine sEv (v := (.slice Af nf cf)) (rfl) rfl rfl ?_
    refine sEv (v := (.int .i64 ((nf : Int)))) (evLen Try.underlying27 rfl) rfl rfl ?_
    refine sEv (v := (.int .i64 (((nf : Int)) - 1))) (evSub (((nf : Int)) - 1) rfl rfl (wI64 (by omega))) rfl rfl ?_
    refine sEv (v := (.int .i64 (((nf : Int)) - 1))) (rfl) rfl rfl ?_
    refine sDone ?_
    refine xN (hK11 _ _ ?_)
    refine wp_block ?_
    refine lLoop (fun m e w_ => ∃ (k : Nat), m = k ∧ e 0 = (.slice Af nf cf) ∧ e 1 = (.slice Ag ng cg) ∧ e 5 = (.int .i64 ((k : Int) - 1)) ∧ Frm (fun b => False) w w_ ∧ (k ≤ nf) ∧ (cmpP ff fg = cmpTop ff fg k)) ((nf)) ?_ ?_
    · refine ⟨(nf), rfl, rfl, rfl, (congrArg (Value.int .i64) (by omega)), (Frm.refl _ _), ?_, ?_⟩
      · omega
      · exact cmpP_eq (by omega) (by omega)
    · rintro m12 e19 w13 ⟨k, hm18, hs14, hs15, hs16, hF17, hk, hX⟩
      obtain ⟨r20, rfl⟩ := sq (e := e19) (t := 0) hs14
      obtain ⟨r21, rfl⟩ := sq (e := r20) (t := 1) hs15
      obtain ⟨r22, rfl⟩ := sq (e := r21) (t := 5) hs16
      have hz23 := hF17.size
      refine wp_seq_k fun K24 hK24 => ?_
      refine wp_seq_k fun K25 hK25 => ?_
      refine wp_region_lit ?_
      refine sEv (v := (.int .i64 ((k : Int) - 1))) (rfl) rfl rfl ?_
      by_cases hc26 : ((k : Int) - 1) ≥ 0
      · refine sEv (v := (.bool true)) (evGeq true rfl rfl (dT hc26)) rfl rfl ?_
        refine sDone ?_
        refine xN (hK25 _ _ ?_)
        refine cT rfl ?_
        refine wp_skip ?_
        refine xN (hK24 _ _ ?_)
        refine wp_seq_k fun K27 hK27 => ?_
        refine wp_block ?_
        refine wp_seq_k fun K28 hK28 => ?_
        refine dBegin (fun _ => False) mixed ?_
        intro w29 hE30 hz31
        refine dEv 0 rfl (v := (.slice Af nf cf)) (fun _ _ => rfl) rfl rfl (by kernel_rfl) ?_
        refine dEv 1 rfl (v := (.int .i64 ((k : Int) - 1))) (fun _ _ => rfl) rfl rfl (by kernel_rfl) ?_
        have h32 := (hf.ext (hF17.trans hE30))
        obtain ⟨b33, o34, rfl⟩ := h32.base (by omega)
        refine dEv 2 rfl (v := (.pointer (some ⟨b33, o34 + ((k - 1) * 2), none⟩))) (fun _ _ => evIndex (k - 1) Try.underlying27 sz31 rfl rfl (by omega) (by omega) (o34 + ((k - 1) * 2)) (by omega)) rfl rfl (by kernel_rfl) ?_
        obtain ⟨s_35, A_35, n_35, c_35, z_35, hp_35, hq_35, h_35, hM_35, hS_35, hb_35, hz_35⟩ := h32.at_ (i := k - 1) (by omega)
        have sg_35 := h_35.1; have k_35 := h_35.cap; have m_35 := h_35.max
        refine dEv 3 rfl (v := (.agg #[(.int .i64 (s_35)), (.slice A_35 n_35 c_35)])) (fun _ hf => evLoadA [(.int .i64 (s_35)), (.slice A_35 n_35 c_35)] agg31 sz31 rfl (cell2F hp_35 hq_35 hf hb_35 (fun h => h))) rfl rfl (by kernel_rfl) ?_
        refine dEv 4 rfl (v := (.slice Ag ng cg)) (fun _ _ => rfl) rfl rfl (by kernel_rfl) ?_
        refine dEv 5 rfl (v := (.int .i64 ((k : Int) - 1))) (fun _ _ => rfl) rfl rfl (by kernel_rfl) ?_
        have h37 := (hg.ext (hF17.trans hE30))
        obtain ⟨b38, o39, rfl⟩ := h37.base (by omega)
        refine dEv 6 rfl (v := (.pointer (some ⟨b38, o39 + ((k - 1) * 2), none⟩))) (fun _ _ => evIndex (k - 1) Try.underlying27 sz31 rfl rfl (by omega) (by omega) (o39 + ((k - 1) * 2)) (by omega)) rfl rfl (by kernel_rfl) ?_
        obtain ⟨s_40, A_40, n_40, c_40, z_40, hp_40, hq_40, h_40, hM_40, hS_40, hb_40, hz_40⟩ := h37.at_ (i := k - 1) (by omega)
        have sg_40 := h_40.1; have k_40 := h_40.cap; have m_40 := h_40.max
        refine dEv 7 rfl (v := (.agg #[(.int .i64 (s_40)), (.slice A_40 n_40 c_40)])) (fun _ hf => evLoadA [(.int .i64 (s_40)), (.slice A_40 n_40 c_40)] agg31 sz31 rfl (cell2F hp_40 hq_40 hf hb_40 (fun h => h))) rfl rfl (by kernel_rfl) ?_
        refine dOp 8 rfl rfl (by kernel_rfl) (oCall rfl call34 (ref02_Cmp h_35 h_40 (by omega) (by omega)) rfl ?_)
        rintro _ w43 ⟨xr_42, rfl, hE44, e_42⟩
        refine ⟨(Frm.of_ext hE44), ?_⟩
        have hz45 := hE44.size
        refine dEv 9 rfl (v := (.int .i64 (xr_42))) (fun _ _ => rfl) rfl rfl (by kernel_rfl) ?_
        refine dDone (by kernel_rfl) ?_
        refine xN (hK28 _ _ ?_)
        refine wp_seq_k fun K46 hK46 => ?_
        refine wp_region_lit ?_
        refine sEv (v := (.int .i64 (xr_42))) (rfl) rfl rfl ?_
        by_cases hc47 : xr_42 ≠ 0
        · refine sEv (v := (.bool true)) (evNeq true rfl rfl (dT hc47)) rfl rfl ?_
          refine sDone ?_
          refine xN (hK46 _ _ ?_)
          refine cT rfl ?_
          refine wp_seq_k fun K48 hK48 => ?_
          refine wp_region_lit ?_
          refine sEv (v := (.int .i64 (xr_42))) (rfl) rfl rfl ?_
          refine sEv (v := (.int .i64 (xr_42))) (rfl) rfl rfl ?_
          refine sDone ?_
          refine xN (hK48 _ _ ?_)
          refine wp_ret (bR (xR (xR (bR (xR ?_)))))
          refine ret1 (.int .i64 (xr_42)) Try.results47 (resT rfl) ?_
          exact ⟨(xr_42), rfl, ((hF17.trans hE30).trans hE44), (by rw [cmpTop_stop hX (by omega) (by rw [← hz_35, ← hz_40]; intro hh; exact absurd (e_42.trans (cmpZ_eq_zero.2 hh)) (by omega)), ← hz_35, ← hz_40]; exact e_42)⟩
        · refine sEv (v := (.bool false)) (evNeq false rfl rfl (dF hc47)) rfl rfl ?_
          refine sDone ?_
          refine xN (hK46 _ _ ?_)
          refine cF rfl ?_
          refine wp_skip ?_
          refine bN ?_
          refine xN (hK27 _ _ ?_)
          refine wp_region_lit ?_
          refine sEv (v := (.int .i64 ((k : Int) - 1))) (rfl) rfl rfl ?_
          refine sEv (v := (.int .i64 (((k : Int) - 1) - 1))) (evSub (((k : Int) - 1) - 1) rfl rfl (wI64 (by omega))) rfl rfl ?_
          refine sEv (v := (.int .i64 (((k : Int) - 1) - 1))) (rfl) rfl rfl ?_
          refine sDone ?_
          refine again ((k - 1)) (by omega) ⟨(k - 1), rfl, rfl, rfl, (congrArg (Value.int .i64) (by omega)), ((hF17.trans hE30).trans hE44), ?_, ?_⟩
          · omega
          · exact cmpTop_down hX (by omega) (by rw [← hz_35, ← hz_40]; exact cmpZ_eq_zero.1 (e_42 ▸ (by omega)))
      · refine sEv (v := (.bool false)) (evGeq false rfl rfl (dF hc26)) rfl rfl ?_
        refine sDone ?_
        refine xN (hK25 _ _ ?_)
        refine cF rfl ?_
        refine wp_exit (xE (xE (bE ?_)))
        refine xN (hK10 _ _ ?_)
        refine wp_seq_k fun K49 hK49 => ?_
        refine wp_region_lit ?_
        refine sEv (v := (.int .i64 (0))) (rfl) rfl rfl ?_
        refine sDone ?_
        refine xN (hK49 _ _ ?_)
        refine wp_ret ?_
        refine ret1 (.int .i64 (0)) Try.results47 (resT rfl) ?_
        exact ⟨(0), rfl, hF17, (by rw [hX, show k = 0 by omega]; rfl)⟩

end Go.Proofs.Ytppegjbdencefaa
