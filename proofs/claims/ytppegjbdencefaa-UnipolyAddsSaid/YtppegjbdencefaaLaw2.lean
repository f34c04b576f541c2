/-
  Walks of the laws of unipoly: Of, Is, z, UnipolyMuls.
-/
import Derived.Test.YtppegjbdencefaaLaw1
import Derived.Test.YtppegjbdencefaaUni4
import Derived.Test.YtppegjbdencefaaRef4
namespace Go.Proofs.Ytppegjbdencefaa
open Go.RowKit Go.Gx
theorem law08_Of {w : World} {Sf : Nat → Prop} {Af : Option Addr} {nf cf Mf : Nat} {lf : List RI} (hf : PolyR w Sf Af nf cf lf Mf) (hnf : nf ≤ 65536) (hMf : Mf ≤ 1048576) : Calls Try.prog 14 #[(.slice Af nf cf)] w (Ret fun v w' => ∃ (Ar : Option Addr) (nr : Nat) (cr : Nat) (fr : List Int), v = (.slice Ar nr cr) ∧ Ext w w' ∧ PZR w' (fun b => w.heap.size ≤ b) Ar nr cr fr (32 * Mf) ∧ (fr = trimZ (zs lf)) ∧ (nr ≤ nf)) := by
  have kf := hf.len; have jf := hf.cap; have mf := hf.max
  replace hf := hf.low
  refine enter Try.func14 rfl Try.ntmps14 rfl ?_
  refine wp_seq_k fun K1 hK1 => ?_
  refine wp_region_lit ?_
  refine sEv (v := (.slice none 0 0)) (rfl) rfl rfl ?_
  refine sDone ?_
  refine xN (hK1 _ _ ?_)
  refine wp_seq_k fun K2 hK2 => ?_
  refine wp_region_lit ?_
  refine sEv (v := (.slice none 0 0)) (rfl) rfl rfl ?_
  refine sDone ?_
  refine xN (hK2 _ _ ?_)
  refine wp_seq_k fun K3 hK3 => ?_
  refine wp_seq_k fun K4 hK4 => ?_
  refine wp_region_lit ?_
  refine sEv (v := (.int .i64 (0))) (rfl) rfl rfl ?_
  refine sDone ?_
  refine xN (hK4 _ _ ?_)
  refine wp_block ?_
  refine lLoop (fun m e w_ => ∃ (k : Nat) (O : List Int) (Ao : Option Addr) (cp : Nat) (no : Nat), m = nf - k ∧ e 0 = (.slice Af nf cf) ∧ e 3 = (.slice Ao no cp) ∧ e 4 = (.int .i64 ((k : Int))) ∧ Frm (fun b => w.heap.size ≤ b) w w_ ∧ (k ≤ nf) ∧ (no = k) ∧ (O = (zs lf).take k) ∧ (OwnZ (fun b => w.heap.size ≤ b) w_ w.heap.size 31 Ao no cp O (32 * Mf))) (nf - (0)) ?_ ?_
  · refine ⟨(0), ([]), (none), (0), (0), rfl, rfl, rfl, (congrArg (Value.int .i64) (by omega)), (Frm.refl _ _), ?_, ?_, ?_, ?_⟩
    · omega
    · omega
    · rfl
    · exact OwnZ.nil
  · rintro m5 e12 w6 ⟨k, O, Ao, cp, no, hm11, hs7, hs8, hs9, hF10, hk, hno, hF, hO⟩
    obtain ⟨r13, rfl⟩ := sq (e := e12) (t := 0) hs7
    obtain ⟨r14, rfl⟩ := sq (e := r13) (t := 3) hs8
    obtain ⟨r15, rfl⟩ := sq (e := r14) (t := 4) hs9
    have hz16 := hF10.size
    have lO := hO.len; have kO := hO.cap; have mO := hO.max
    refine wp_seq_k fun K17 hK17 => ?_
    refine wp_seq_k fun K18 hK18 => ?_
    refine wp_region_lit ?_
    refine sEv (v := (.int .i64 ((k : Int)))) (rfl) rfl rfl ?_
    refine sEv (v := (.slice Af nf cf)) (rfl) rfl rfl ?_
    refine sEv (v := (.int .i64 ((nf : Int)))) (evLen Try.underlying22 rfl) rfl rfl ?_
    by_cases hc19 : ((k : Int)) < ((nf : Int))
    · refine sEv (v := (.bool true)) (evLss true rfl rfl (dT hc19)) rfl rfl ?_
      refine sDone ?_
      refine xN (hK18 _ _ ?_)
      refine cT rfl ?_
      refine wp_skip ?_
      refine xN (hK17 _ _ ?_)
      refine wp_seq_k fun K20 hK20 => ?_
      refine wp_block ?_
      refine dBegin (fun b => w.heap.size ≤ b) mixed ?_
      intro w21 hE22 hz23
      refine dEv 0 rfl (v := (.slice Ao no cp)) (fun _ _ => rfl) rfl rfl (by kernel_rfl) ?_
      refine dEv 1 rfl (v := (.slice Af nf cf)) (fun _ _ => rfl) rfl rfl (by kernel_rfl) ?_
      refine dEv 2 rfl (v := (.int .i64 ((k : Int)))) (fun _ _ => rfl) rfl rfl (by kernel_rfl) ?_
      have h24 := (hf.frmB (hF10.trans (Frm.of_ext (G := fun b => (w.heap.size ≤ b)) hE22)) q3)
      obtain ⟨b25, o26, rfl⟩ := h24.base (by omega)
      refine dEv 3 rfl (v := (.pointer (some ⟨b25, o26 + (k * 2), none⟩))) (fun _ _ => evIndex k Try.underlying22 sz46 rfl rfl (by omega) (by omega) (o26 + (k * 2)) (by omega)) rfl rfl (by kernel_rfl) ?_
      refine dEv 4 rfl (v := (.pointer (some ⟨b25, o26 + (k * 2), none⟩))) (fun _ _ => evFA (o26 + (k * 2)) fa46_0 rfl rfl) rfl rfl (by kernel_rfl) ?_
      obtain ⟨g_27, A_27, n_27, c_27, d_27, he_27, hp_27, hq_27, h_27, hM_27, hS_27, hb_27, z_27⟩ := h24.at_ (i := k) (by omega)
      have l_27 := h_27.len; have k_27 := h_27.cap; have m_27 := h_27.max
      refine dEv 5 rfl (v := (.bool g_27)) (fun _ hf => evLoad one4 rfl ((hf.cell (p := ⟨_, _, none⟩) hb_27 (by (try dsimp only at hS_27 ⊢); omega)).trans hp_27)) rfl rfl (by kernel_rfl) ?_
      refine dEv 6 rfl (v := (.slice (some ⟨b25, o26, none⟩) nf cf)) (fun _ _ => rfl) rfl rfl (by kernel_rfl) ?_
      refine dEv 7 rfl (v := (.int .i64 ((k : Int)))) (fun _ _ => rfl) rfl rfl (by kernel_rfl) ?_
      refine dEv 8 rfl (v := (.pointer (some ⟨b25, o26 + (k * 2), none⟩))) (fun _ _ => evIndex k Try.underlying22 sz46 rfl rfl (by omega) (by omega) (o26 + (k * 2)) (by omega)) rfl rfl (by kernel_rfl) ?_
      refine dEv 9 rfl (v := (.pointer (some ⟨b25, o26 + (k * 2) + 1, none⟩))) (fun _ _ => evFA (o26 + (k * 2) + 1) fa46_1 rfl rfl) rfl rfl (by kernel_rfl) ?_
      obtain ⟨g_28, A_28, n_28, c_28, d_28, he_28, hp_28, hq_28, h_28, hM_28, hS_28, hb_28, z_28⟩ := h24.at_ (i := k) (by omega)
      have l_28 := h_28.len; have k_28 := h_28.cap; have m_28 := h_28.max
      refine dEv 10 rfl (v := (.slice A_28 n_28 c_28)) (fun _ hf => evLoad one44 rfl ((hf.cell (p := ⟨_, _, none⟩) hb_28 (by (try dsimp only at hS_28 ⊢); omega)).trans hq_28)) rfl rfl (by kernel_rfl) ?_
      refine dOp 11 rfl rfl (by kernel_rfl) (oCall rfl call65 (ref02_Of h_28 (by omega)) rfl ?_)
      rintro _ w31 ⟨sr_30, Ar_30, nr_30, cr_30, zr_30, rfl, hE32, hr_30, v_30, le_30⟩
      refine ⟨(Frm.of_ext hE32), ?_⟩
      have hz33 := hE32.size
      have sgr_30 := hr_30.1; have kr_30 := hr_30.cap; have mr_30 := hr_30.max
      refine dOp 12 rfl rfl (by kernel_rfl) (oBuildSlice [(.agg #[(.int .i64 (sr_30)), (.slice Ar_30 nr_30 cr_30)])] [[(.int .i64 (sr_30)), (.slice Ar_30 nr_30 cr_30)]] Try.underlying27 inf31 rfl rfl rfl rfl rfl ?_)
      intro g35 w36 hg37 hE38 hz39 hB40
      refine ⟨(Frm.of_ext hE38), ?_⟩
      replace hB40 : Blk w36 g35 31 [(.int .i64 (sr_30)), (.slice Ar_30 nr_30 cr_30)] := hB40
      have hO41 := (hO.ext ((hE22.trans hE32).trans hE38))
      have h47 := (hr_30.ext hE38)
      refine dOp 13 rfl rfl (by kernel_rfl) (oAppZ (B := w.heap.size) Try.underlying27 inf31 rfl rfl rfl hO41 hB40 h47 (by omega) (by intro b hlt hb a ha; have h1 := hO.lt a ha; (try dsimp only at hb); omega) q5 (by omega) (by omega) (by omega) ?_)
      intro A42 c43 w44 hO45 hF46
      refine ⟨hF46, ?_⟩
      refine dEv 14 rfl (v := (.slice A42 (no + 1) c43)) (fun _ _ => rfl) rfl rfl (by kernel_rfl) ?_
      refine dDone (by kernel_rfl) ?_
      refine bN ?_
      refine xN (hK20 _ _ ?_)
      refine wp_region_lit ?_
      refine sEv (v := (.int .i64 ((k : Int)))) (rfl) rfl rfl ?_
      refine sEv (v := (.int .i64 (((k : Int)) + 1))) (evAdd (((k : Int)) + 1) rfl rfl (wI64 (by omega))) rfl rfl ?_
      refine sEv (v := (.int .i64 (((k : Int)) + 1))) (rfl) rfl rfl ?_
      refine sDone ?_
      refine again (nf - (k + 1)) (by omega) ⟨(k + 1), (O ++ [zr_30]), (A42), (c43), (no + 1), rfl, rfl, rfl, (congrArg (Value.int .i64) (by omega)), ((((hF10.trans (Frm.of_ext (G := fun b => (w.heap.size ≤ b)) hE22)).trans (Frm.of_ext (G := fun b => (w.heap.size ≤ b)) hE32)).trans (Frm.of_ext (G := fun b => (w.heap.size ≤ b)) hE38)).trans hF46), ?_, ?_, ?_, ?_⟩
      · omega
      · omega
      · exact take_snocZ hF (by rw [zlen]; omega) (by rw [v_30, (ri_inj he_27 he_28).1, z_28])
      · exact hO45
    · refine sEv (v := (.bool false)) (evLss false rfl rfl (dF hc19)) rfl rfl ?_
      refine sDone ?_
      refine xN (hK18 _ _ ?_)
      refine cF rfl ?_
      refine wp_exit (xE (xE (bE ?_)))
      refine xN (hK3 _ _ ?_)
      refine wp_seq_k fun K48 hK48 => ?_
      refine wp_region_lit ?_
      refine sEv (v := (.slice Ao no cp)) (rfl) rfl rfl ?_
      refine sOp rfl (oCall rfl call29 (ref08_Trim (OwnZ.pzrF hO)) rfl ?_)
      rintro _ w50 ⟨Ar_49, nr_49, cr_49, fr_49, rfl, hE51, hr_49, e_49, le_49⟩
      have hz52 := hE51.size
      have lr_49 := hr_49.len; have kr_49 := hr_49.cap; have mr_49 := hr_49.max
      replace hr_49 := hr_49.sub (S' := fun b => w.heap.size ≤ b ∧ b < w50.heap.size) fun _ hb hs => ⟨hs, hb⟩
      refine sEv (v := (.slice Ar_49 nr_49 cr_49)) (rfl) rfl rfl ?_
      refine sDone ?_
      refine xN (hK48 _ _ ?_)
      refine wp_ret ?_
      refine ret1 (.slice Ar_49 nr_49 cr_49) Try.results14 (resT rfl) ?_
      exact ⟨Ar_49, nr_49, cr_49, fr_49, rfl, (Frm.mono (hF10.trans (Frm.of_ext (G := fun b => (w.heap.size ≤ b)) hE51)) q4), (PZR.le (PZR.sub hr_49 q5) (by omega)), (by rw [e_49, hF, List.take_of_length_le (by rw [zlen]; omega)]), (by omega)⟩

theorem law08_Is {w : World} {Sf : Nat → Prop} {Af : Option Addr} {nf cf Mf : Nat} {lf : List RI} {Sg : Nat → Prop} {Ag : Option Addr} {ng cg Mg : Nat} {fg : List Int} (hf : PolyR w Sf Af nf cf lf Mf) (hg : PZR w Sg Ag ng cg fg Mg) (hMg : Mg ≤ 268435456) (hC : AllC lf) (hE : zs lf = fg) : Calls Try.prog 17 #[(.slice Af nf cf), (.slice Ag ng cg)] w (Ret fun v w' => ∃ (gr : Bool), v = (.bool gr) ∧ Ext w w' ∧ (gr = true)) := by
  have kf := hf.len; have jf := hf.cap; have mf := hf.max
  replace hf := hf.low
  have lg := hg.len; have kg := hg.cap; have mg := hg.max
  replace hg := hg.low
  refine enter Try.func17 rfl Try.ntmps17 rfl ?_
  have hln : nf = ng := by rw [← kf, ← lg, ← hE, zlen]
  refine wp_seq_k fun K1 hK1 => ?_
  refine wp_region_lit ?_
  refine sEv (v := (.bool false)) (rfl) rfl rfl ?_
  refine sDone ?_
  refine xN (hK1 _ _ ?_)
  refine wp_seq_k fun K2 hK2 => ?_
  refine wp_seq_k fun K3 hK3 => ?_
  refine wp_region_lit ?_
  refine sEv (v := (.slice Af nf cf)) (rfl) rfl rfl ?_
  refine sEv (v := (.int .i64 ((nf : Int)))) (evLen Try.underlying22 rfl) rfl rfl ?_
  refine sEv (v := (.slice Ag ng cg)) (rfl) rfl rfl ?_
  refine sEv (v := (.int .i64 ((ng : Int)))) (evLen Try.underlying27 rfl) rfl rfl ?_
  refine sEv (v := (.bool false)) (evNeq false rfl rfl (dF (by omega))) rfl rfl ?_
  refine sDone ?_
  refine xN (hK3 _ _ ?_)
  refine cF rfl ?_
  refine wp_skip ?_
  refine xN (hK2 _ _ ?_)
  refine wp_seq_k fun K4 hK4 => ?_
  refine wp_seq_k fun K5 hK5 => ?_
  refine wp_region_lit ?_
  refine sEv (v := (.int .i64 (0))) (rfl) rfl rfl ?_
  refine sDone ?_
  refine xN (hK5 _ _ ?_)
  refine wp_block ?_
  refine lLoop (fun m e w_ => ∃ (k : Nat), m = nf - k ∧ e 0 = (.slice Af nf cf) ∧ e 1 = (.slice Ag ng cg) ∧ e 5 = (.int .i64 ((k : Int))) ∧ Frm (fun b => False) w w_ ∧ (k ≤ nf)) (nf - (0)) ?_ ?_
  · refine ⟨(0), rfl, rfl, rfl, (congrArg (Value.int .i64) (by omega)), (Frm.refl _ _), ?_⟩
    · omega
  · rintro m6 e13 w7 ⟨k, hm12, hs8, hs9, hs10, hF11, hk⟩
    obtain ⟨r14, rfl⟩ := sq (e := e13) (t := 0) hs8
    obtain ⟨r15, rfl⟩ := sq (e := r14) (t := 1) hs9
    obtain ⟨r16, rfl⟩ := sq (e := r15) (t := 5) hs10
    have hz17 := hF11.size
    refine wp_seq_k fun K18 hK18 => ?_
    refine wp_seq_k fun K19 hK19 => ?_
    refine wp_region_lit ?_
    refine sEv (v := (.int .i64 ((k : Int)))) (rfl) rfl rfl ?_
    refine sEv (v := (.slice Af nf cf)) (rfl) rfl rfl ?_
    refine sEv (v := (.int .i64 ((nf : Int)))) (evLen Try.underlying22 rfl) rfl rfl ?_
    by_cases hc20 : ((k : Int)) < ((nf : Int))
    · refine sEv (v := (.bool true)) (evLss true rfl rfl (dT hc20)) rfl rfl ?_
      refine sDone ?_
      refine xN (hK19 _ _ ?_)
      refine cT rfl ?_
      refine wp_skip ?_
      refine xN (hK18 _ _ ?_)
      refine wp_seq_k fun K21 hK21 => ?_
      refine wp_block ?_
      refine wp_seq_k fun K22 hK22 => ?_
      refine dBegin (fun _ => False) mixed ?_
      intro w23 hE24 hz25
      refine dEv 0 rfl (v := (.slice Af nf cf)) (fun _ _ => rfl) rfl rfl (by kernel_rfl) ?_
      refine dEv 1 rfl (v := (.int .i64 ((k : Int)))) (fun _ _ => rfl) rfl rfl (by kernel_rfl) ?_
      have h26 := (hf.ext (hF11.trans hE24))
      obtain ⟨b27, o28, rfl⟩ := h26.base (by omega)
      refine dEv 2 rfl (v := (.pointer (some ⟨b27, o28 + (k * 2), none⟩))) (fun _ _ => evIndex k Try.underlying22 sz46 rfl rfl (by omega) (by omega) (o28 + (k * 2)) (by omega)) rfl rfl (by kernel_rfl) ?_
      refine dEv 3 rfl (v := (.pointer (some ⟨b27, o28 + (k * 2), none⟩))) (fun _ _ => evFA (o28 + (k * 2)) fa46_0 rfl rfl) rfl rfl (by kernel_rfl) ?_
      obtain ⟨g_29, A_29, n_29, c_29, d_29, he_29, hp_29, hq_29, h_29, hM_29, hS_29, hb_29, z_29⟩ := h26.at_ (i := k) (by omega)
      have l_29 := h_29.len; have k_29 := h_29.cap; have m_29 := h_29.max
      refine dEv 4 rfl (v := (.bool g_29)) (fun _ hf => evLoad one4 rfl ((hf.cell (p := ⟨_, _, none⟩) hb_29 (fun h => h)).trans hp_29)) rfl rfl (by kernel_rfl) ?_
      refine dEv 5 rfl (v := (.slice (some ⟨b27, o28, none⟩) nf cf)) (fun _ _ => rfl) rfl rfl (by kernel_rfl) ?_
      refine dEv 6 rfl (v := (.int .i64 ((k : Int)))) (fun _ _ => rfl) rfl rfl (by kernel_rfl) ?_
      refine dEv 7 rfl (v := (.pointer (some ⟨b27, o28 + (k * 2), none⟩))) (fun _ _ => evIndex k Try.underlying22 sz46 rfl rfl (by omega) (by omega) (o28 + (k * 2)) (by omega)) rfl rfl (by kernel_rfl) ?_
      refine dEv 8 rfl (v := (.pointer (some ⟨b27, o28 + (k * 2) + 1, none⟩))) (fun _ _ => evFA (o28 + (k * 2) + 1) fa46_1 rfl rfl) rfl rfl (by kernel_rfl) ?_
      obtain ⟨g_30, A_30, n_30, c_30, d_30, he_30, hp_30, hq_30, h_30, hM_30, hS_30, hb_30, z_30⟩ := h26.at_ (i := k) (by omega)
      have l_30 := h_30.len; have k_30 := h_30.cap; have m_30 := h_30.max
      refine dEv 9 rfl (v := (.slice A_30 n_30 c_30)) (fun _ hf => evLoad one44 rfl ((hf.cell (p := ⟨_, _, none⟩) hb_30 (fun h => h)).trans hq_30)) rfl rfl (by kernel_rfl) ?_
      refine dEv 10 rfl (v := (.slice Ag ng cg)) (fun _ _ => rfl) rfl rfl (by kernel_rfl) ?_
      refine dEv 11 rfl (v := (.int .i64 ((k : Int)))) (fun _ _ => rfl) rfl rfl (by kernel_rfl) ?_
      have h32 := (hg.ext (hF11.trans hE24))
      obtain ⟨b33, o34, rfl⟩ := h32.base (by omega)
      refine dEv 12 rfl (v := (.pointer (some ⟨b33, o34 + (k * 2), none⟩))) (fun _ _ => evIndex k Try.underlying27 sz31 rfl rfl (by omega) (by omega) (o34 + (k * 2)) (by omega)) rfl rfl (by kernel_rfl) ?_
      obtain ⟨s_35, A_35, n_35, c_35, z_35, hp_35, hq_35, h_35, hM_35, hS_35, hb_35, hz_35⟩ := h32.at_ (i := k) (by omega)
      have sg_35 := h_35.1; have k_35 := h_35.cap; have m_35 := h_35.max
      refine dEv 13 rfl (v := (.agg #[(.int .i64 (s_35)), (.slice A_35 n_35 c_35)])) (fun _ hf => evLoadA [(.int .i64 (s_35)), (.slice A_35 n_35 c_35)] agg31 sz31 rfl (cell2F hp_35 hq_35 hf hb_35 (fun h => h))) rfl rfl (by kernel_rfl) ?_
      have hgg := (ri_inj he_29 he_30).1
      have hci : ICan g_29 d_30 := by rw [hgg]; exact hC _ (List.mem_of_getElem? he_30)
      have hvi : zval g_29 d_30 = z_35 := by rw [hgg, z_30, hz_35, hE]
      refine dOp 14 rfl rfl (by kernel_rfl) (oCall rfl call43 (ref02_Is h_30 h_35 (by omega) (by assumption) (by assumption)) rfl ?_)
      rintro _ w38 ⟨gr_37, rfl, hE39, e_37⟩
      refine ⟨(Frm.of_ext hE39), ?_⟩
      have hz40 := hE39.size
      obtain rfl : gr_37 = true := e_37
      refine dEv 15 rfl (v := (.bool false)) (fun _ _ => evNot _ rfl rfl) rfl rfl (by kernel_rfl) ?_
      refine dDone (by kernel_rfl) ?_
      refine xN (hK22 _ _ ?_)
      refine cF rfl ?_
      refine wp_skip ?_
      refine bN ?_
      refine xN (hK21 _ _ ?_)
      refine wp_region_lit ?_
      refine sEv (v := (.int .i64 ((k : Int)))) (rfl) rfl rfl ?_
      refine sEv (v := (.int .i64 (((k : Int)) + 1))) (evAdd (((k : Int)) + 1) rfl rfl (wI64 (by omega))) rfl rfl ?_
      refine sEv (v := (.int .i64 (((k : Int)) + 1))) (rfl) rfl rfl ?_
      refine sDone ?_
      refine again (nf - (k + 1)) (by omega) ⟨(k + 1), rfl, rfl, rfl, (congrArg (Value.int .i64) (by omega)), ((hF11.trans hE24).trans hE39), ?_⟩
      · omega
    · refine sEv (v := (.bool false)) (evLss false rfl rfl (dF hc20)) rfl rfl ?_
      refine sDone ?_
      refine xN (hK19 _ _ ?_)
      refine cF rfl ?_
      refine wp_exit (xE (xE (bE ?_)))
      refine xN (hK4 _ _ ?_)
      refine wp_seq_k fun K41 hK41 => ?_
      refine wp_region_lit ?_
      refine sEv (v := (.bool true)) (rfl) rfl rfl ?_
      refine sDone ?_
      refine xN (hK41 _ _ ?_)
      refine wp_ret ?_
      refine ret1 (.bool true) Try.results17 (resT rfl) ?_
      exact ⟨(true), rfl, hF11, rfl⟩

theorem law08_z {w : World} {ga : Bool} {Sa : Nat → Prop} {Aa : Option Addr} {na ca : Nat} {da : List Nat} (ha : NatR w Sa Aa na ca da) (hna : na ≤ 1048576) : Calls Try.prog 26 #[(.agg #[(.bool ga), (.slice Aa na ca)])] w (Ret fun v w' => ∃ (sr : Int) (Ar : Option Addr) (nr : Nat) (cr : Nat) (zr : Int), v = (.agg #[(.int .i64 (sr)), (.slice Ar nr cr)]) ∧ Ext w w' ∧ ZR w' (fun b => w.heap.size ≤ b) sr Ar nr cr zr ∧ (zr = zval ga da) ∧ (nr ≤ 32 * na)) := by
  have la := ha.len; have ka := ha.cap; have ma := ha.max
  replace ha := ha.low
  refine enter Try.func26 rfl Try.ntmps26 rfl ?_
  refine wp_seq_k fun K1 hK1 => ?_
  refine wp_region_lit ?_
  refine sOp rfl (oBox [(.bool ga), (.slice Aa na ca)] rfl rfl ?_)
  intro g2 w3 hg4 hE5 hz6 hB7
  refine sOp rfl (oAlloc [(.int .i64 (0)), (.slice none 0 0)] zero31 rfl ?_)
  intro g8 w9 hg10 hE11 hz12 hB13
  refine sDone ?_
  refine xN (hK1 _ _ ?_)
  refine wp_seq_k fun K14 hK14 => ?_
  refine wp_region_lit ?_
  refine sEv (v := (.pointer (some ⟨g2, 0, none⟩))) (evFA 0 fa46_0 rfl rfl) rfl rfl ?_
  have hB15 := (hB7.ext hE11)
  refine sEv (v := (.bool ga)) (evLoadB one4 rfl hB15 rfl) rfl rfl ?_
  refine sEv (v := (.pointer (some ⟨g2, 1, none⟩))) (evFA 1 fa46_1 rfl rfl) rfl rfl ?_
  refine sEv (v := (.slice Aa na ca)) (evLoadB one44 rfl hB15 rfl) rfl rfl ?_
  have h16 := (ha.ext (hE5.trans hE11))
  refine sOp rfl (oCall rfl call65 (ref02_Of h16 (by omega)) rfl ?_)
  rintro _ w18 ⟨sr_17, Ar_17, nr_17, cr_17, zr_17, rfl, hE19, hr_17, v_17, le_17⟩
  have hz20 := hE19.size
  have sgr_17 := hr_17.1; have kr_17 := hr_17.cap; have mr_17 := hr_17.max
  have hB22 := (hB13.ext hE19)
  refine sOp rfl (oStore [(.int .i64 (sr_17)), (.slice Ar_17 nr_17 cr_17)] rfl rfl rfl sz31 rfl hB22 (Nat.le_of_ble_eq_true rfl) ?_)
  intro w23 hU24 hz25 hB26
  replace hB26 : Blk w23 g8 31 [(.int .i64 (sr_17)), (.slice Ar_17 nr_17 cr_17)] := hB26
  refine sDone ?_
  refine xN (hK14 _ _ ?_)
  refine wp_ret ?_
  refine ret1 (.agg #[(.int .i64 (sr_17)), (.slice Ar_17 nr_17 cr_17)]) Try.results26 (resB [(.int .i64 (sr_17)), (.slice Ar_17 nr_17 cr_17)] agg31 sz31 rfl hB26) ?_
  have h27 := (hr_17.frmB hU24 q3)
  exact ⟨(sr_17), Ar_17, nr_17, cr_17, (zr_17), rfl, (Frm.mono ((((Frm.of_ext (G := fun b => (b = g8)) hE5).trans (Frm.of_ext (G := fun b => (b = g8)) hE11)).trans (Frm.of_ext (G := fun b => (b = g8)) hE19)).trans hU24) q4), (ZR.sub h27 q5), v_17, (by omega)⟩

set_option maxHeartbeats 1000000 in
theorem law08_muls {w : World} {Sf : Nat → Prop} {Af : Option Addr} {nf cf Mf : Nat} {lf : List RI} {Sg : Nat → Prop} {Ag : Option Addr} {ng cg Mg : Nat} {lg : List RI} {xn : Int} (hf : PolyR w Sf Af nf cf lf Mf) (hg : PolyR w Sg Ag ng cg lg Mg)  : Calls Try.prog 3 #[(.slice Af nf cf), (.slice Ag ng cg), (.int .i64 (xn))] w (Ret fun v w' => ∃ (gr : Bool), v = (.bool gr) ∧ Ext w w' ∧ (gr = true)) := by
  have kf := hf.len; have jf := hf.cap; have mf := hf.max
  replace hf := hf.low
  have kg := hg.len; have jg := hg.cap; have mg := hg.max
  replace hg := hg.low
  refine enter Try.func3 rfl Try.ntmps3 rfl ?_
  refine wp_seq_k fun K1 hK1 => ?_
  refine wp_region_lit ?_
  refine sEv (v := (.bool false)) (rfl) rfl rfl ?_
  refine sDone ?_
  refine xN (hK1 _ _ ?_)
  refine wp_seq_k fun K2 hK2 => ?_
  refine wp_seq_k fun K3 hK3 => ?_
  refine wp_region_lit ?_
  refine sOp rfl (oCall rfl call12 (law08_awake) rfl ?_)
  rintro _ w5 ⟨gr_4, rfl, hE6, e_4⟩
  have hz7 := hE6.size
  obtain rfl : gr_4 = true := e_4
  refine sEv (v := (.bool false)) (evNot _ rfl rfl) rfl rfl ?_
  refine sEv (v := (.bool false)) (rfl) rfl rfl ?_
  refine sEv (v := (.slice Af nf cf)) (rfl) rfl rfl ?_
  have h8 := (hf.ext hE6)
  refine sOp rfl (oCall rfl call13 (cylinderlaw08_Few h8) rfl ?_)
  rintro _ w10 ⟨gr_9, rfl, hE11, e_9⟩
  have hz12 := hE11.size
  refine sEv (v := (.bool (!gr_9))) (evNot _ rfl rfl) rfl rfl ?_
  refine sEv (v := (.bool (!gr_9))) (rfl) rfl rfl ?_
  refine sEv (v := (.bool (!gr_9))) (rfl) rfl rfl ?_
  cases gr_9
  · refine sSkip rfl rfl ?_
    refine sSkip rfl rfl ?_
    refine sSkip rfl rfl ?_
    refine sEv (v := (.bool true)) (rfl) rfl rfl ?_
    refine sEv (v := (.bool true)) (rfl) rfl rfl ?_
    refine sSkip rfl rfl ?_
    refine sSkip rfl rfl ?_
    refine sEv (v := (.bool true)) (rfl) rfl rfl ?_
    refine sDone ?_
    refine xN (hK3 _ _ ?_)
    refine cT rfl ?_
    refine wp_seq_k fun K13 hK13 => ?_
    refine wp_region_lit ?_
    refine sOp rfl (oCall rfl call12 (law08_awake) rfl ?_)
    rintro _ w15 ⟨gr_14, rfl, hE16, e_14⟩
    have hz17 := hE16.size
    obtain rfl : gr_14 = true := e_14
    refine sEv (v := (.bool true)) (rfl) rfl rfl ?_
    refine sDone ?_
    refine xN (hK13 _ _ ?_)
    refine wp_ret (xR ?_)
    refine ret1 (.bool true) Try.results3 (resT rfl) ?_
    exact ⟨(true), rfl, ((hE6.trans hE11).trans hE16), rfl⟩
  · refine sEv (v := (.slice Ag ng cg)) (rfl) rfl rfl ?_
    have h18 := (hg.ext (hE6.trans hE11))
    refine sOp rfl (oCall rfl call13 (cylinderlaw08_Few h18) rfl ?_)
    rintro _ w20 ⟨gr_19, rfl, hE21, e_19⟩
    have hz22 := hE21.size
    refine sEv (v := (.bool (!gr_19))) (evNot _ rfl rfl) rfl rfl ?_
    refine sEv (v := (.bool (!gr_19))) (rfl) rfl rfl ?_
    refine sEv (v := (.bool (!gr_19))) (rfl) rfl rfl ?_
    cases gr_19
    · refine sSkip rfl rfl ?_
      refine sSkip rfl rfl ?_
      refine sEv (v := (.bool true)) (rfl) rfl rfl ?_
      refine sDone ?_
      refine xN (hK3 _ _ ?_)
      refine cT rfl ?_
      refine wp_seq_k fun K23 hK23 => ?_
      refine wp_region_lit ?_
      refine sOp rfl (oCall rfl call12 (law08_awake) rfl ?_)
      rintro _ w25 ⟨gr_24, rfl, hE26, e_24⟩
      have hz27 := hE26.size
      obtain rfl : gr_24 = true := e_24
      refine sEv (v := (.bool true)) (rfl) rfl rfl ?_
      refine sDone ?_
      refine xN (hK23 _ _ ?_)
      refine wp_ret (xR ?_)
      refine ret1 (.bool true) Try.results3 (resT rfl) ?_
      exact ⟨(true), rfl, (((hE6.trans hE11).trans hE21).trans hE26), rfl⟩
    · refine sEv (v := (.int .i64 (xn))) (rfl) rfl rfl ?_
      by_cases hc28 : xn > 5
      · refine sEv (v := (.bool true)) (evGtr true rfl rfl (dT hc28)) rfl rfl ?_
        refine sEv (v := (.bool true)) (rfl) rfl rfl ?_
        refine sDone ?_
        refine xN (hK3 _ _ ?_)
        refine cT rfl ?_
        refine wp_seq_k fun K29 hK29 => ?_
        refine wp_region_lit ?_
        refine sOp rfl (oCall rfl call12 (law08_awake) rfl ?_)
        rintro _ w31 ⟨gr_30, rfl, hE32, e_30⟩
        have hz33 := hE32.size
        obtain rfl : gr_30 = true := e_30
        refine sEv (v := (.bool true)) (rfl) rfl rfl ?_
        refine sDone ?_
        refine xN (hK29 _ _ ?_)
        refine wp_ret (xR ?_)
        refine ret1 (.bool true) Try.results3 (resT rfl) ?_
        exact ⟨(true), rfl, (((hE6.trans hE11).trans hE21).trans hE32), rfl⟩
      · refine sEv (v := (.bool false)) (evGtr false rfl rfl (dF hc28)) rfl rfl ?_
        refine sEv (v := (.bool false)) (rfl) rfl rfl ?_
        refine sDone ?_
        refine xN (hK3 _ _ ?_)
        refine cF rfl ?_
        refine wp_skip ?_
        refine xN (hK2 _ _ ?_)
        refine wp_seq_k fun K34 hK34 => ?_
        refine wp_region_lit ?_
        refine sEv (v := (.slice Af nf cf)) (rfl) rfl rfl ?_
        have qf := e_9 rfl
        have qnf := qf.1
        have hf2 := hf.reM (M' := 3) (by intro r hr; have := qf.2 r hr; omega)
        have qg := e_19 rfl
        have qng := qg.1
        have hg2 := hg.reM (M' := 3) (by intro r hr; have := qg.2 r hr; omega)
        have h35 := (hf2.ext ((hE6.trans hE11).trans hE21))
        refine sOp rfl (oCall rfl call14 (law08_Of h35 (by omega) (by omega)) rfl ?_)
        rintro _ w37 ⟨Ar_36, nr_36, cr_36, fr_36, rfl, hE38, hr_36, e_36, ln_36⟩
        have hz39 := hE38.size
        have lr_36 := hr_36.len; have kr_36 := hr_36.cap; have mr_36 := hr_36.max
        replace hr_36 := hr_36.sub (S' := fun b => w20.heap.size ≤ b ∧ b < w37.heap.size) fun _ hb hs => ⟨hs, hb⟩
        refine sEv (v := (.slice Ag ng cg)) (rfl) rfl rfl ?_
        have h41 := (hg2.ext (((hE6.trans hE11).trans hE21).trans hE38))
        refine sOp rfl (oCall rfl call14 (law08_Of h41 (by omega) (by omega)) rfl ?_)
        rintro _ w43 ⟨Ar_42, nr_42, cr_42, fr_42, rfl, hE44, hr_42, e_42, ln_42⟩
        have hz45 := hE44.size
        have lr_42 := hr_42.len; have kr_42 := hr_42.cap; have mr_42 := hr_42.max
        replace hr_42 := hr_42.sub (S' := fun b => w37.heap.size ≤ b ∧ b < w43.heap.size) fun _ hb hs => ⟨hs, hb⟩
        refine sEv (v := (.slice Ar_36 nr_36 cr_36)) (rfl) rfl rfl ?_
        refine sEv (v := (.slice Ar_42 nr_42 cr_42)) (rfl) rfl rfl ?_
        refine sDone ?_
        refine xN (hK34 _ _ ?_)
        refine wp_seq_k fun K47 hK47 => ?_
        refine wp_region_lit ?_
        refine sOp rfl (oCall rfl call15 (ref02_Small (by omega)) rfl ?_)
        rintro _ w49 ⟨sr_48, Ar_48, nr_48, cr_48, zr_48, rfl, hE50, hr_48, v_48, le_48⟩
        have hz51 := hE50.size
        have sgr_48 := hr_48.1; have kr_48 := hr_48.cap; have mr_48 := hr_48.max
        refine sOp rfl (oBuildSlice [(.agg #[(.int .i64 (sr_48)), (.slice Ar_48 nr_48 cr_48)])] [[(.int .i64 (sr_48)), (.slice Ar_48 nr_48 cr_48)]] Try.underlying27 inf31 rfl rfl rfl rfl rfl ?_)
        intro g53 w54 hg55 hE56 hz57 hB58
        replace hB58 : Blk w54 g53 31 [(.int .i64 (sr_48)), (.slice Ar_48 nr_48 cr_48)] := hB58
        refine sEv (v := (.slice (some ⟨g53, 0, none⟩) 1 1)) (rfl) rfl rfl ?_
        refine sDone ?_
        refine xN (hK47 _ _ ?_)
        refine wp_seq_k fun K59 hK59 => ?_
        refine wp_seq_k fun K60 hK60 => ?_
        refine wp_region_lit ?_
        refine sEv (v := (.int .i64 (0))) (rfl) rfl rfl ?_
        refine sDone ?_
        refine xN (hK60 _ _ ?_)
        refine wp_block ?_
        have h63 := (hr_48.ext hE56)
        have h62 : PZR w54 (fun _ => True) (some ⟨g53, 0, none⟩) 1 1 ([zr_48]) (nr_48) := PZR.one hB58 h63 (by omega)
        refine lLoop (fun m e w_ => ∃ (k : Nat) (W : List Int) (Ap : Option Addr) (np : Nat) (cp : Nat), m = xn.toNat - k ∧ e 0 = (.slice Af nf cf) ∧ e 1 = (.slice Ag ng cg) ∧ e 2 = (.int .i64 (xn)) ∧ e 7 = (.slice Ar_36 nr_36 cr_36) ∧ e 8 = (.slice Ar_42 nr_42 cr_42) ∧ e 9 = (.slice Ap np cp) ∧ e 10 = (.int .i64 ((k : Int))) ∧ Frm (fun b => False) w54 w_ ∧ (k ≤ xn.toNat) ∧ (np ≤ 8 * k + 1) ∧ (W = trimZ (ppow (zs lf) k)) ∧ (PZR w_ (fun _ => True) Ap np cp W (200 * k + 50))) (xn.toNat - (0)) ?_ ?_
        · refine ⟨(0), ([zr_48]), ((some ⟨g53, 0, none⟩)), (1), (1), rfl, rfl, rfl, rfl, rfl, rfl, rfl, (congrArg (Value.int .i64) (by omega)), (Frm.refl _ _), ?_, ?_, ?_, ?_⟩
          · omega
          · omega
          · rw [v_48]; exact trim_one.symm
          · exact PZR.le h62 (by omega)
        · rintro m61 e74 w64 ⟨k, W, Ap, np, cp, hm73, hs65, hs66, hs67, hs68, hs69, hs70, hs71, hF72, hk, hnp, hW, hR⟩
          obtain ⟨r75, rfl⟩ := sq (e := e74) (t := 0) hs65
          obtain ⟨r76, rfl⟩ := sq (e := r75) (t := 1) hs66
          obtain ⟨r77, rfl⟩ := sq (e := r76) (t := 2) hs67
          obtain ⟨r78, rfl⟩ := sq (e := r77) (t := 7) hs68
          obtain ⟨r79, rfl⟩ := sq (e := r78) (t := 8) hs69
          obtain ⟨r80, rfl⟩ := sq (e := r79) (t := 9) hs70
          obtain ⟨r81, rfl⟩ := sq (e := r80) (t := 10) hs71
          have hz82 := hF72.size
          have lO := hR.len; have kO := hR.cap; have mO := hR.max
          refine wp_seq_k fun K83 hK83 => ?_
          refine wp_seq_k fun K84 hK84 => ?_
          refine wp_region_lit ?_
          refine sEv (v := (.int .i64 ((k : Int)))) (rfl) rfl rfl ?_
          refine sEv (v := (.int .i64 (xn))) (rfl) rfl rfl ?_
          by_cases hc85 : ((k : Int)) < xn
          · refine sEv (v := (.bool true)) (evLss true rfl rfl (dT hc85)) rfl rfl ?_
            refine sDone ?_
            refine xN (hK84 _ _ ?_)
            refine cT rfl ?_
            refine wp_skip ?_
            refine xN (hK83 _ _ ?_)
            refine wp_seq_k fun K86 hK86 => ?_
            refine wp_block ?_
            refine wp_region_lit ?_
            refine sEv (v := (.slice Ap np cp)) (rfl) rfl rfl ?_
            refine sEv (v := (.slice Ar_36 nr_36 cr_36)) (rfl) rfl rfl ?_
            have h87 := (hr_36.ext (((hE44.trans hE50).trans hE56).trans hF72))
            refine sOp rfl (oCall rfl call16 (ref08_Mul hR h87 (by omega) (by omega) (by omega) (by omega)) rfl ?_)
            rintro _ w89 ⟨Ar_88, nr_88, cr_88, fr_88, rfl, hE90, hr_88, e_88, ln_88⟩
            have hz91 := hE90.size
            have lr_88 := hr_88.len; have kr_88 := hr_88.cap; have mr_88 := hr_88.max
            replace hr_88 := hr_88.low
            refine sEv (v := (.slice Ar_88 nr_88 cr_88)) (rfl) rfl rfl ?_
            refine sDone ?_
            refine bN ?_
            refine xN (hK86 _ _ ?_)
            refine wp_region_lit ?_
            refine sEv (v := (.int .i64 ((k : Int)))) (rfl) rfl rfl ?_
            refine sEv (v := (.int .i64 (((k : Int)) + 1))) (evAdd (((k : Int)) + 1) rfl rfl (wI64 (by omega))) rfl rfl ?_
            refine sEv (v := (.int .i64 (((k : Int)) + 1))) (rfl) rfl rfl ?_
            refine sDone ?_
            refine again (xn.toNat - (k + 1)) (by omega) ⟨(k + 1), (fr_88), (Ar_88), (nr_88), (cr_88), rfl, rfl, rfl, rfl, rfl, rfl, rfl, (congrArg (Value.int .i64) (by omega)), (hF72.trans hE90), ?_, ?_, ?_, ?_⟩
            · omega
            · omega
            · rw [e_88, hW, e_36]; exact law_pow _ _
            · exact PZR.le (PZR.sub hr_88 fun _ _ _ => trivial) (by omega)
          · refine sEv (v := (.bool false)) (evLss false rfl rfl (dF hc85)) rfl rfl ?_
            refine sDone ?_
            refine xN (hK84 _ _ ?_)
            refine cF rfl ?_
            refine wp_exit (xE (xE (bE ?_)))
            refine xN (hK59 _ _ ?_)
            refine wp_seq_k fun K93 hK93 => ?_
            refine wp_region_lit ?_
            refine sEv (v := (.slice Af nf cf)) (rfl) rfl rfl ?_
            refine sEv (v := (.slice Ag ng cg)) (rfl) rfl rfl ?_
            have h94 := (h35.ext ((((hE38.trans hE44).trans hE50).trans hE56).trans hF72))
            have h95 := (h41.ext (((hE44.trans hE50).trans hE56).trans hF72))
            refine sOp rfl (oCall rfl call18 (unipoly_Mul h94 h95 (by omega) (by omega) (by omega) (by omega)) rfl ?_)
            rintro _ w97 ⟨Ar_96, nr_96, cr_96, lr_96, rfl, hE98, hr_96, e_96, ln_96, cn_96⟩
            have hz99 := hE98.size
            have kr_96 := hr_96.len; have jr_96 := hr_96.cap; have mr_96 := hr_96.max
            refine sEv (v := (.slice Ar_36 nr_36 cr_36)) (rfl) rfl rfl ?_
            refine sEv (v := (.slice Ar_42 nr_42 cr_42)) (rfl) rfl rfl ?_
            have h101 := (hr_36.ext ((((hE44.trans hE50).trans hE56).trans hF72).trans hE98))
            have h102 := (hr_42.ext (((hE50.trans hE56).trans hF72).trans hE98))
            refine sOp rfl (oCall rfl call16 (ref08_Mul h101 h102 (by omega) (by omega) (by omega) (by omega)) rfl ?_)
            rintro _ w104 ⟨Ar_103, nr_103, cr_103, fr_103, rfl, hE105, hr_103, e_103, ln_103⟩
            have hz106 := hE105.size
            have lr_103 := hr_103.len; have kr_103 := hr_103.cap; have mr_103 := hr_103.max
            replace hr_103 := hr_103.low
            have hEm : zs lr_96 = fr_103 := by rw [e_96, e_103, e_36, e_42]; exact law_mul _ _
            have h108 := (hr_96.ext hE105)
            refine sOp rfl (oCall rfl call17 (law08_Is h108 hr_103 (by omega) (by assumption) (by assumption)) rfl ?_)
            rintro _ w110 ⟨gr_109, rfl, hE111, e_109⟩
            have hz112 := hE111.size
            obtain rfl : gr_109 = true := e_109
            refine sEv (v := (.bool true)) (rfl) rfl rfl ?_
            refine sEv (v := (.slice Af nf cf)) (rfl) rfl rfl ?_
            refine sEv (v := (.int .i64 (xn))) (rfl) rfl rfl ?_
            have h113 := (h94.ext ((hE98.trans hE105).trans hE111))
            refine sOp rfl (oCall rfl call19 (unipoly_Pow h113 (by omega) (by omega) (by omega)) rfl ?_)
            rintro _ w115 ⟨Ar_114, nr_114, cr_114, lr_114, rfl, hE116, hr_114, e_114, ln_114, cn_114⟩
            have hz117 := hE116.size
            have kr_114 := hr_114.len; have jr_114 := hr_114.cap; have mr_114 := hr_114.max
            have hEp : zs lr_114 = W := by rw [e_114, hW, show k = xn.toNat by omega]
            refine sEv (v := (.slice Ap np cp)) (rfl) rfl rfl ?_
            have h119 := (hR.ext (((hE98.trans hE105).trans hE111).trans hE116))
            refine sOp rfl (oCall rfl call17 (law08_Is hr_114 h119 (by omega) (by assumption) (by assumption)) rfl ?_)
            rintro _ w121 ⟨gr_120, rfl, hE122, e_120⟩
            have hz123 := hE122.size
            obtain rfl : gr_120 = true := e_120
            refine sEv (v := (.bool true)) (rfl) rfl rfl ?_
            refine sEv (v := (.bool true)) (rfl) rfl rfl ?_
            refine sEv (v := (.slice Af nf cf)) (rfl) rfl rfl ?_
            have h124 := (h113.ext (hE116.trans hE122))
            refine sOp rfl (oCall rfl call20 (unipoly_Derivative h124 (by omega) (by omega)) rfl ?_)
            rintro _ w126 ⟨Ar_125, nr_125, cr_125, lr_125, rfl, hE127, hr_125, e_125, ln_125, cn_125⟩
            have hz128 := hE127.size
            have kr_125 := hr_125.len; have jr_125 := hr_125.cap; have mr_125 := hr_125.max
            refine sEv (v := (.slice Ar_36 nr_36 cr_36)) (rfl) rfl rfl ?_
            have h130 := (h101.ext ((((hE105.trans hE111).trans hE116).trans hE122).trans hE127))
            refine sOp rfl (oCall rfl call21 (ref08_Derivative h130 (by omega) (by omega)) rfl ?_)
            rintro _ w132 ⟨Ar_131, nr_131, cr_131, fr_131, rfl, hE133, hr_131, e_131, ln_131⟩
            have hz134 := hE133.size
            have lr_131 := hr_131.len; have kr_131 := hr_131.cap; have mr_131 := hr_131.max
            replace hr_131 := hr_131.low
            have hEd : zs lr_125 = fr_131 := by rw [e_125, e_131, e_36]; exact law_deriv _
            have h136 := (hr_125.ext hE133)
            refine sOp rfl (oCall rfl call17 (law08_Is h136 hr_131 (by omega) (by assumption) (by assumption)) rfl ?_)
            rintro _ w138 ⟨gr_137, rfl, hE139, e_137⟩
            have hz140 := hE139.size
            obtain rfl : gr_137 = true := e_137
            refine sEv (v := (.bool true)) (rfl) rfl rfl ?_
            refine sEv (v := (.bool true)) (rfl) rfl rfl ?_
            refine sDone ?_
            refine xN (hK93 _ _ ?_)
            refine wp_ret ?_
            refine ret1 (.bool true) Try.results3 (resT rfl) ?_
            exact ⟨(true), rfl, (((((((((((((((hE6.trans hE11).trans hE21).trans hE38).trans hE44).trans hE50).trans hE56).trans hF72).trans hE98).trans hE105).trans hE111).trans hE116).trans hE122).trans hE127).trans hE133).trans hE139), rfl⟩

end Go.Proofs.Ytppegjbdencefaa
