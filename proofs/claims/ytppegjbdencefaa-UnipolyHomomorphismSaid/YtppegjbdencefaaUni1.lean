/-
  Walks of package unipoly: trim, sums, products, comparison.
-/
import Derived.Test.YtppegjbdencefaaInt1
import Derived.Test.YtppegjbdencefaaPolyMath
namespace Go.Proofs.Ytppegjbdencefaa
open Go.RowKit Go.Gx
theorem unipoly_trim {w : World} {Sa : Nat → Prop} {Aa : Option Addr} {na ca Ma : Nat} {la : List RI} (ha : PolyR w Sa Aa na ca la Ma)  : Calls Try.prog 68 #[(.slice Aa na ca)] w (Ret fun v w' => ∃ (Ar : Option Addr) (nr : Nat) (cr : Nat) (lr : List RI), v = (.slice Ar nr cr) ∧ Ext w w' ∧ PolyR w' (Sa) Ar nr cr lr (Ma) ∧ (lr = trimB RI.isZ la) ∧ (nr ≤ na)) := by
  have ka := ha.len; have ja := ha.cap; have ma := ha.max
  refine enter Try.func68 rfl Try.ntmps68 rfl ?_
  refine wp_seq_k fun K1 hK1 => ?_
  refine wp_region_lit ?_
  refine sEv (v := (.slice none 0 0)) (rfl) rfl rfl ?_
  refine sDone ?_
  refine xN (hK1 _ _ ?_)
  refine wp_seq_k fun K2 hK2 => ?_
  refine wp_region_lit ?_
  refine sEv (v := (.slice Aa na ca)) (rfl) rfl rfl ?_
  refine sEv (v := (.int .i64 ((na : Int)))) (evLen Try.underlying23 rfl) rfl rfl ?_
  refine sEv (v := (.int .i64 ((na : Int)))) (rfl) rfl rfl ?_
  refine sDone ?_
  refine xN (hK2 _ _ ?_)
  refine wp_seq_k fun K3 hK3 => ?_
  refine wp_block ?_
  refine lLoop (fun m e w_ => ∃ (k : Nat), m = k ∧ e 0 = (.slice Aa na ca) ∧ e 3 = (.int .i64 ((k : Int))) ∧ Frm (fun b => False) w w_ ∧ (k ≤ na) ∧ (∀ j, k ≤ j → (zs la).getD j 0 = 0)) ((na)) ?_ ?_
  · refine ⟨(na), rfl, rfl, (congrArg (Value.int .i64) (by omega)), (Frm.refl _ _), ?_, ?_⟩
    · omega
    · exact zget_ge (by simp; omega)
  · rintro m4 e10 w5 ⟨k, hm9, hs6, hs7, hF8, hk, hz⟩
    obtain ⟨r11, rfl⟩ := sq (e := e10) (t := 0) hs6
    obtain ⟨r12, rfl⟩ := sq (e := r11) (t := 3) hs7
    have hz13 := hF8.size
    refine wp_seq_k fun K14 hK14 => ?_
    refine wp_seq_k fun K15 hK15 => ?_
    refine wp_region_lit ?_
    refine sEv (v := (.int .i64 ((k : Int)))) (rfl) rfl rfl ?_
    by_cases hc16 : ((k : Int)) > 0
    · refine sEv (v := (.bool true)) (evGtr true rfl rfl (dT hc16)) rfl rfl ?_
      refine sEv (v := (.bool true)) (rfl) rfl rfl ?_
      refine sEv (v := (.slice Aa na ca)) (rfl) rfl rfl ?_
      refine sEv (v := (.int .i64 ((k : Int)))) (rfl) rfl rfl ?_
      refine sEv (v := (.int .i64 (((k : Int)) - 1))) (evSub (((k : Int)) - 1) rfl rfl (wI64 (by omega))) rfl rfl ?_
      have h17 := (ha.ext hF8)
      obtain ⟨b18, o19, rfl⟩ := h17.base (by omega)
      refine sEv (v := (.pointer (some ⟨b18, o19 + ((k - 1) * 2), none⟩))) (evIndex (k - 1) Try.underlying23 sz46 rfl rfl (by omega) (by omega) (o19 + ((k - 1) * 2)) (by omega)) rfl rfl ?_
      obtain ⟨g_20, A_20, n_20, c_20, d_20, he_20, hp_20, hq_20, h_20, hM_20, hS_20, hb_20, z_20⟩ := h17.at_ (i := k - 1) (by omega)
      have l_20 := h_20.len; have k_20 := h_20.cap; have m_20 := h_20.max
      refine sEv (v := (.agg #[(.bool g_20), (.slice A_20 n_20 c_20)])) (evLoadA [(.bool g_20), (.slice A_20 n_20 c_20)] agg46 sz46 rfl (cell2 hp_20 hq_20)) rfl rfl ?_
      refine sOp rfl (oCall rfl call62 (integer_Sign h_20) rfl ?_)
      rintro _ w23 ⟨xr_22, rfl, hE24, e_22⟩
      have hz25 := hE24.size
      by_cases hc26 : xr_22 = 0
      · refine sEv (v := (.bool true)) (evEql true rfl rfl (dT hc26)) rfl rfl ?_
        have hzz := (sign_zero_iff e_22 z_20).1 hc26
        refine sEv (v := (.bool true)) (rfl) rfl rfl ?_
        refine sDone ?_
        refine xN (hK15 _ _ ?_)
        refine cT rfl ?_
        refine wp_skip ?_
        refine xN (hK14 _ _ ?_)
        refine wp_block ?_
        refine wp_region_lit ?_
        refine sEv (v := (.int .i64 ((k : Int)))) (rfl) rfl rfl ?_
        refine sEv (v := (.int .i64 (((k : Int)) - 1))) (evSub (((k : Int)) - 1) rfl rfl (wI64 (by omega))) rfl rfl ?_
        refine sEv (v := (.int .i64 (((k : Int)) - 1))) (rfl) rfl rfl ?_
        refine sDone ?_
        refine bN ?_
        refine again ((k - 1)) (by omega) ⟨(k - 1), rfl, rfl, (congrArg (Value.int .i64) (by omega)), (hF8.trans hE24), ?_, ?_⟩
        · omega
        · exact zeros_downZ hz hzz
      · refine sEv (v := (.bool false)) (evEql false rfl rfl (dF hc26)) rfl rfl ?_
        have hzz := fun hh => hc26 ((sign_zero_iff e_22 z_20).2 hh)
        refine sEv (v := (.bool false)) (rfl) rfl rfl ?_
        refine sDone ?_
        refine xN (hK15 _ _ ?_)
        refine cF rfl ?_
        refine wp_exit (xE (xE (bE ?_)))
        refine xN (hK3 _ _ ?_)
        refine wp_seq_k fun K27 hK27 => ?_
        refine wp_region_lit ?_
        refine sEv (v := (.slice (some ⟨b18, o19, none⟩) na ca)) (rfl) rfl rfl ?_
        refine sEv (v := (.int .i64 ((k : Int)))) (rfl) rfl rfl ?_
        have h28 := (h17.ext hE24)
        have h29 := h28.take (m := k) (by omega)
        refine sEv (v := (.slice (some ⟨b18, o19, none⟩) k ca)) (evSliceHi k Try.underlying23 sz46 rfl rfl (by omega) (by omega)) rfl rfl ?_
        refine sEv (v := (.slice (some ⟨b18, o19, none⟩) k ca)) (rfl) rfl rfl ?_
        refine sDone ?_
        refine xN (hK27 _ _ ?_)
        refine wp_ret ?_
        refine ret1 (.slice (some ⟨b18, o19, none⟩) k ca) Try.results68 (resT rfl) ?_
        exact ⟨(some ⟨b18, o19, none⟩), k, ca, ((la).take k), rfl, (hF8.trans hE24), (PolyR.le h29 (by omega)), (trimI_of (by omega) hz (by first | omega | exact .inr hzz)), (by omega)⟩
    · refine sEv (v := (.bool false)) (evGtr false rfl rfl (dF hc16)) rfl rfl ?_
      refine sEv (v := (.bool false)) (rfl) rfl rfl ?_
      refine sSkip rfl rfl ?_
      refine sSkip rfl rfl ?_
      refine sSkip rfl rfl ?_
      refine sSkip rfl rfl ?_
      refine sSkip rfl rfl ?_
      refine sSkip rfl rfl ?_
      refine sSkip rfl rfl ?_
      refine sEv (v := (.bool false)) (rfl) rfl rfl ?_
      refine sDone ?_
      refine xN (hK15 _ _ ?_)
      refine cF rfl ?_
      refine wp_exit (xE (xE (bE ?_)))
      refine xN (hK3 _ _ ?_)
      refine wp_seq_k fun K31 hK31 => ?_
      refine wp_region_lit ?_
      refine sEv (v := (.slice Aa na ca)) (rfl) rfl rfl ?_
      refine sEv (v := (.int .i64 ((k : Int)))) (rfl) rfl rfl ?_
      have h32 := (ha.ext hF8)
      have h33 := h32.take (m := k) (by omega)
      refine sEv (v := (.slice Aa k ca)) (evSliceHi k Try.underlying23 sz46 rfl rfl (by omega) (by omega)) rfl rfl ?_
      refine sEv (v := (.slice Aa k ca)) (rfl) rfl rfl ?_
      refine sDone ?_
      refine xN (hK31 _ _ ?_)
      refine wp_ret ?_
      refine ret1 (.slice Aa k ca) Try.results68 (resT rfl) ?_
      exact ⟨Aa, k, ca, ((la).take k), rfl, hF8, (PolyR.le h33 (by omega)), (trimI_of (by omega) hz (by first | omega | exact .inr hzz)), (by omega)⟩

theorem unipoly_combine_Add {w : World} {Sf : Nat → Prop} {Af : Option Addr} {nf cf Mf : Nat} {lf : List RI} {Sg : Nat → Prop} {Ag : Option Addr} {ng cg Mg : Nat} {lg : List RI}   (hf : PolyR w Sf Af nf cf lf Mf) (hg : PolyR w Sg Ag ng cg lg Mg) (hnf : nf ≤ 1048576) (hng : ng ≤ 1048576) (hMf : Mf ≤ 1073741824) (hMg : Mg ≤ 1073741824) : Calls Try.prog 71 #[(.slice Af nf cf), (.slice Ag ng cg), (.agg #[(.bool false), (.slice none 0 0)]), (.func (.func 56) #[] #[])] w (Ret fun v w' => ∃ (Ar : Option Addr) (nr : Nat) (cr : Nat) (lr : List RI), v = (.slice Ar nr cr) ∧ Ext w w' ∧ PolyR w' (fun b => w.heap.size ≤ b) Ar nr cr lr (Mf + Mg + 1) ∧ (zs lr = padd (zs lf) (zs lg)) ∧ (nr = max nf ng) ∧ (AllC lr)) := by
  have kf := hf.len; have jf := hf.cap; have mf := hf.max
  replace hf := hf.low
  have kg := hg.len; have jg := hg.cap; have mg := hg.max
  replace hg := hg.low
  refine enter Try.func71 rfl Try.ntmps71 rfl ?_
  refine wp_seq_k fun K1 hK1 => ?_
  refine wp_region_lit ?_
  refine sOp rfl (oBox [(.bool false), (.slice none 0 0)] rfl rfl ?_)
  intro g2 w3 hg4 hE5 hz6 hB7
  refine sEv (v := (.slice none 0 0)) (rfl) rfl rfl ?_
  refine sDone ?_
  refine xN (hK1 _ _ ?_)
  refine wp_seq_k fun K8 hK8 => ?_
  refine wp_region_lit ?_
  refine sEv (v := (.slice Af nf cf)) (rfl) rfl rfl ?_
  refine sEv (v := (.int .i64 ((nf : Int)))) (evLen Try.underlying23 rfl) rfl rfl ?_
  refine sEv (v := (.slice Ag ng cg)) (rfl) rfl rfl ?_
  refine sEv (v := (.int .i64 ((ng : Int)))) (evLen Try.underlying23 rfl) rfl rfl ?_
  refine sEv (v := (.int .i64 (((max nf ng : Nat) : Int)))) (evMax (((max nf ng : Nat) : Int)) rfl rfl (maxN)) rfl rfl ?_
  refine sOp rfl (oMake2 (max nf ng) Try.underlying23 inf46 (congrArg (Value.int .i64) (by omega)) (congrArg (Value.int .i64) (by omega)) (by omega) (by omega) ?_)
  intro g9 w10 hg11 hE12 hz13 hB14
  have hB15 : Blk w10 g9 46 (cellsI (List.replicate (max nf ng) RI.zero)) := hB14
  refine sEv (v := (.slice (some ⟨g9, 0, none⟩) (max nf ng) (max nf ng))) (rfl) rfl rfl ?_
  refine sDone ?_
  refine xN (hK8 _ _ ?_)
  refine wp_seq_k fun K16 hK16 => ?_
  refine wp_seq_k fun K17 hK17 => ?_
  refine wp_region_lit ?_
  refine sEv (v := (.slice (some ⟨g9, 0, none⟩) (max nf ng) (max nf ng))) (rfl) rfl rfl ?_
  refine sEv (v := (.int .i64 (((max nf ng : Nat) : Int)))) (evLen Try.underlying23 rfl) rfl rfl ?_
  refine sEv (v := (.int .i64 (0))) (rfl) rfl rfl ?_
  refine sDone ?_
  refine xN (hK17 _ _ ?_)
  refine wp_block ?_
  refine lLoop (fun m e w_ => ∃ (k : Nat) (L : List RI), m = max nf ng - k ∧ e 0 = (.slice Af nf cf) ∧ e 1 = (.slice Ag ng cg) ∧ e 3 = (.func (.func 56) #[] #[]) ∧ e 6 = (.pointer (some ⟨g2, 0, none⟩)) ∧ e 9 = (.slice (some ⟨g9, 0, none⟩) (max nf ng) (max nf ng)) ∧ e 20 = (.int .i64 (((max nf ng : Nat) : Int))) ∧ e 21 = (.int .i64 ((k : Int))) ∧ Frm (fun b => b = g9) w10 w_ ∧ Blk w_ g9 46 (cellsI (L ++ List.replicate (max nf ng - k) RI.zero)) ∧ (k ≤ max nf ng) ∧ (L.length = k) ∧ (AllN w_ (fun b => g9 < b) (Mf + Mg + 1) L) ∧ (zs L = (List.range k).map (fun i => co (zs lf) i + co (zs lg) i)) ∧ (AllC L)) (max nf ng - (0)) ?_ ?_
  · refine ⟨(0), ([]), rfl, rfl, rfl, rfl, rfl, rfl, rfl, (congrArg (Value.int .i64) (by omega)), (Frm.refl _ _), ?_, ?_, ?_, ?_, ?_, ?_⟩
    · simpa using hB15
    · omega
    · rfl
    · exact AllN.nil
    · rfl
    · exact AllC.nil
  · rintro m18 e30 w19 ⟨k, L, hm29, hs20, hs21, hs22, hs23, hs24, hs25, hs26, hF27, hB28, hk, hL, hA, hz, hC⟩
    obtain ⟨r31, rfl⟩ := sq (e := e30) (t := 0) hs20
    obtain ⟨r32, rfl⟩ := sq (e := r31) (t := 1) hs21
    obtain ⟨r33, rfl⟩ := sq (e := r32) (t := 3) hs22
    obtain ⟨r34, rfl⟩ := sq (e := r33) (t := 6) hs23
    obtain ⟨r35, rfl⟩ := sq (e := r34) (t := 9) hs24
    obtain ⟨r36, rfl⟩ := sq (e := r35) (t := 20) hs25
    obtain ⟨r37, rfl⟩ := sq (e := r36) (t := 21) hs26
    have hz38 := hF27.size
    refine wp_seq_k fun K39 hK39 => ?_
    refine wp_region_lit ?_
    by_cases hc40 : ((k : Int)) < (((max nf ng : Nat) : Int))
    · refine sEv (v := (.bool true)) (evLss true rfl rfl (dT hc40)) rfl rfl ?_
      refine sDone ?_
      refine xN (hK39 _ _ ?_)
      refine wp_seq_k fun K41 hK41 => ?_
      refine cT rfl ?_
      refine wp_skip ?_
      refine xN (hK41 _ _ ?_)
      refine wp_seq_k fun K42 hK42 => ?_
      refine wp_block ?_
      refine wp_seq_k fun K43 hK43 => ?_
      refine wp_region_lit ?_
      refine sEv (v := (.int .i64 ((k : Int)))) (rfl) rfl rfl ?_
      refine sEv (v := (.int .i64 ((k : Int)))) (rfl) rfl rfl ?_
      refine sDone ?_
      refine xN (hK43 _ _ ?_)
      refine wp_seq_k fun K44 hK44 => ?_
      refine dBegin (fun b => w19.heap.size ≤ b) mixed ?_
      intro w45 hE46 hz47
      have hB48 := (hB7.frm (((Frm.of_ext (G := fun b => (b = g9)) hE12).trans hF27).trans (Frm.of_ext (G := fun b => (b = g9)) hE46)) q1)
      refine dEv 0 rfl (v := (.agg #[(.bool false), (.slice none 0 0)])) (fun _ hf => evLoadAB [(.bool false), (.slice none 0 0)] agg46 sz46 rfl (hB48.frm hf q1) rfl) rfl rfl (by kernel_rfl) ?_
      refine dEv 1 rfl (v := (.agg #[(.bool false), (.slice none 0 0)])) (fun _ hf => evLoadAB [(.bool false), (.slice none 0 0)] agg46 sz46 rfl (hB48.frm hf q1) rfl) rfl rfl (by kernel_rfl) ?_
      refine dTwo 2 3 (by kernel_rfl) ?_ ?_
      · refine dWp (i := 2) rfl rfl (oAlloc [(.bool false), (.slice none 0 0)] zero46 rfl ?_)
        intro g49 w50 hg51 hE52 hz53 hB54
        refine ⟨(Frm.of_ext hE52), ?_⟩
        refine dOp 3 rfl rfl (by kernel_rfl) (oAlloc [(.bool false), (.slice none 0 0)] zero46 rfl ?_)
        intro g55 w56 hg57 hE58 hz59 hB60
        refine ⟨(Frm.of_ext hE58), ?_⟩
        have hB61 := (hB54.ext hE58)
        refine dOp 4 rfl rfl (by kernel_rfl) (oStore [(.bool false), (.slice none 0 0)] rfl rfl rfl sz46 rfl hB61 (Nat.le_of_ble_eq_true rfl) ?_)
        intro w62 hU63 hz64 hB65
        replace hB65 : Blk w62 g49 46 [(.bool false), (.slice none 0 0)] := hB65
        refine ⟨(hU63.mono q4), ?_⟩
        have hB66 := (hB60.frm hU63 q1)
        refine dOp 5 rfl rfl (by kernel_rfl) (oStore [(.bool false), (.slice none 0 0)] rfl rfl rfl sz46 rfl hB66 (Nat.le_of_ble_eq_true rfl) ?_)
        intro w67 hU68 hz69 hB70
        replace hB70 : Blk w67 g55 46 [(.bool false), (.slice none 0 0)] := hB70
        refine ⟨(hU68.mono q4), ?_⟩
        refine dDone (by kernel_rfl) ?_
        refine xN (hK44 _ _ ?_)
        refine wp_seq_k fun K71 hK71 => ?_
        refine wp_seq_k fun K72 hK72 => ?_
        refine wp_region_lit ?_
        refine sEv (v := (.int .i64 ((k : Int)))) (rfl) rfl rfl ?_
        refine sEv (v := (.slice Af nf cf)) (rfl) rfl rfl ?_
        refine sEv (v := (.int .i64 ((nf : Int)))) (evLen Try.underlying23 rfl) rfl rfl ?_
        by_cases hc73 : ((k : Int)) < ((nf : Int))
        · refine sEv (v := (.bool true)) (evLss true rfl rfl (dT hc73)) rfl rfl ?_
          refine sDone ?_
          refine xN (hK72 _ _ ?_)
          refine cT rfl ?_
          refine wp_region_lit ?_
          refine sEv (v := (.slice Af nf cf)) (rfl) rfl rfl ?_
          refine sEv (v := (.int .i64 ((k : Int)))) (rfl) rfl rfl ?_
          have h74 := (hf.frmB ((((((((Frm.of_ext (G := fun b => (b = g9) ∨ (b = g49) ∨ (b = g55)) hE5).trans (Frm.of_ext (G := fun b => (b = g9) ∨ (b = g49) ∨ (b = g55)) hE12)).trans (hF27.mono (G' := fun b => (b = g9) ∨ (b = g49) ∨ (b = g55)) fun _ _ h => .inl h)).trans (Frm.of_ext (G := fun b => (b = g9) ∨ (b = g49) ∨ (b = g55)) hE46)).trans (Frm.of_ext (G := fun b => (b = g9) ∨ (b = g49) ∨ (b = g55)) hE52)).trans (Frm.of_ext (G := fun b => (b = g9) ∨ (b = g49) ∨ (b = g55)) hE58)).trans (hU63.mono (G' := fun b => (b = g9) ∨ (b = g49) ∨ (b = g55)) fun _ _ h => .inr (.inl h))).trans (hU68.mono (G' := fun b => (b = g9) ∨ (b = g49) ∨ (b = g55)) fun _ _ h => .inr (.inr h))) q3)
          obtain ⟨b75, o76, rfl⟩ := h74.base (by omega)
          refine sEv (v := (.pointer (some ⟨b75, o76 + (k * 2), none⟩))) (evIndex k Try.underlying23 sz46 rfl rfl (by omega) (by omega) (o76 + (k * 2)) (by omega)) rfl rfl ?_
          obtain ⟨g_77, A_77, n_77, c_77, d_77, he_77, hp_77, hq_77, h_77, hM_77, hS_77, hb_77, z_77⟩ := h74.at_ (i := k) (by omega)
          have l_77 := h_77.len; have k_77 := h_77.cap; have m_77 := h_77.max
          refine sEv (v := (.agg #[(.bool g_77), (.slice A_77 n_77 c_77)])) (evLoadA [(.bool g_77), (.slice A_77 n_77 c_77)] agg46 sz46 rfl (cell2 hp_77 hq_77)) rfl rfl ?_
          have hB79 := (hB65.frm hU68 q1)
          refine sOp rfl (oStore [(.bool g_77), (.slice A_77 n_77 c_77)] rfl rfl rfl sz46 rfl hB79 (Nat.le_of_ble_eq_true rfl) ?_)
          intro w80 hU81 hz82 hB83
          replace hB83 : Blk w80 g49 46 [(.bool g_77), (.slice A_77 n_77 c_77)] := hB83
          refine sDone ?_
          refine xN (hK71 _ _ ?_)
          refine wp_seq_k fun K84 hK84 => ?_
          refine wp_seq_k fun K85 hK85 => ?_
          refine wp_region_lit ?_
          refine sEv (v := (.int .i64 ((k : Int)))) (rfl) rfl rfl ?_
          refine sEv (v := (.slice Ag ng cg)) (rfl) rfl rfl ?_
          refine sEv (v := (.int .i64 ((ng : Int)))) (evLen Try.underlying23 rfl) rfl rfl ?_
          by_cases hc86 : ((k : Int)) < ((ng : Int))
          · refine sEv (v := (.bool true)) (evLss true rfl rfl (dT hc86)) rfl rfl ?_
            refine sDone ?_
            refine xN (hK85 _ _ ?_)
            refine cT rfl ?_
            refine wp_region_lit ?_
            refine sEv (v := (.slice Ag ng cg)) (rfl) rfl rfl ?_
            refine sEv (v := (.int .i64 ((k : Int)))) (rfl) rfl rfl ?_
            have h87 := (hg.frmB (((((((((Frm.of_ext (G := fun b => (b = g9) ∨ (b = g49) ∨ (b = g55)) hE5).trans (Frm.of_ext (G := fun b => (b = g9) ∨ (b = g49) ∨ (b = g55)) hE12)).trans (hF27.mono (G' := fun b => (b = g9) ∨ (b = g49) ∨ (b = g55)) fun _ _ h => .inl h)).trans (Frm.of_ext (G := fun b => (b = g9) ∨ (b = g49) ∨ (b = g55)) hE46)).trans (Frm.of_ext (G := fun b => (b = g9) ∨ (b = g49) ∨ (b = g55)) hE52)).trans (Frm.of_ext (G := fun b => (b = g9) ∨ (b = g49) ∨ (b = g55)) hE58)).trans (hU63.mono (G' := fun b => (b = g9) ∨ (b = g49) ∨ (b = g55)) fun _ _ h => .inr (.inl h))).trans (hU68.mono (G' := fun b => (b = g9) ∨ (b = g49) ∨ (b = g55)) fun _ _ h => .inr (.inr h))).trans (hU81.mono (G' := fun b => (b = g9) ∨ (b = g49) ∨ (b = g55)) fun _ _ h => .inr (.inl h))) q3)
            obtain ⟨b88, o89, rfl⟩ := h87.base (by omega)
            refine sEv (v := (.pointer (some ⟨b88, o89 + (k * 2), none⟩))) (evIndex k Try.underlying23 sz46 rfl rfl (by omega) (by omega) (o89 + (k * 2)) (by omega)) rfl rfl ?_
            obtain ⟨g_90, A_90, n_90, c_90, d_90, he_90, hp_90, hq_90, h_90, hM_90, hS_90, hb_90, z_90⟩ := h87.at_ (i := k) (by omega)
            have l_90 := h_90.len; have k_90 := h_90.cap; have m_90 := h_90.max
            refine sEv (v := (.agg #[(.bool g_90), (.slice A_90 n_90 c_90)])) (evLoadA [(.bool g_90), (.slice A_90 n_90 c_90)] agg46 sz46 rfl (cell2 hp_90 hq_90)) rfl rfl ?_
            have hB92 := (hB70.frm hU81 q1)
            refine sOp rfl (oStore [(.bool g_90), (.slice A_90 n_90 c_90)] rfl rfl rfl sz46 rfl hB92 (Nat.le_of_ble_eq_true rfl) ?_)
            intro w93 hU94 hz95 hB96
            replace hB96 : Blk w93 g55 46 [(.bool g_90), (.slice A_90 n_90 c_90)] := hB96
            refine sDone ?_
            refine xN (hK84 _ _ ?_)
            refine wp_region_lit ?_
            refine sEv (v := (.slice (some ⟨g9, 0, none⟩) (max nf ng) (max nf ng))) (rfl) rfl rfl ?_
            refine sEv (v := (.int .i64 ((k : Int)))) (rfl) rfl rfl ?_
            refine sEv (v := (.func (.func 56) #[] #[])) (rfl) rfl rfl ?_
            have hB97 := (hB83.frm hU94 q1)
            refine sEv (v := (.agg #[(.bool g_77), (.slice A_77 n_77 c_77)])) (evLoadAB [(.bool g_77), (.slice A_77 n_77 c_77)] agg46 sz46 rfl hB97 rfl) rfl rfl ?_
            refine sEv (v := (.agg #[(.bool g_90), (.slice A_90 n_90 c_90)])) (evLoadAB [(.bool g_90), (.slice A_90 n_90 c_90)] agg46 sz46 rfl hB96 rfl) rfl rfl ?_
            have h98 := (h_77.frmB ((hU81.mono (G' := fun b => (b = g49) ∨ (b = g55)) fun _ _ h => .inl h).trans (hU94.mono (G' := fun b => (b = g49) ∨ (b = g55)) fun _ _ h => .inr h)) q3)
            have h99 := (h_90.frmB hU94 q3)
            refine sOp rfl (oCall rfl call56 (integer_Add h98 h99 (by omega) (by omega)) rfl ?_)
            rintro _ w101 ⟨gr_100, Ar_100, nr_100, cr_100, dr_100, rfl, hE102, hr_100, v_100, cn_100, le_100⟩
            have hz103 := hE102.size
            have lr_100 := hr_100.len; have kr_100 := hr_100.cap; have mr_100 := hr_100.max
            refine sEv (v := (.pointer (some ⟨g9, k * 2, none⟩))) (evIndex k Try.underlying23 sz46 rfl rfl (by omega) (by omega) (k * 2) (by omega)) rfl rfl ?_
            have hB105 := (hB28.frm ((((((((Frm.of_ext (G := fun b => (b = g49) ∨ (b = g55)) hE46).trans (Frm.of_ext (G := fun b => (b = g49) ∨ (b = g55)) hE52)).trans (Frm.of_ext (G := fun b => (b = g49) ∨ (b = g55)) hE58)).trans (hU63.mono (G' := fun b => (b = g49) ∨ (b = g55)) fun _ _ h => .inl h)).trans (hU68.mono (G' := fun b => (b = g49) ∨ (b = g55)) fun _ _ h => .inr h)).trans (hU81.mono (G' := fun b => (b = g49) ∨ (b = g55)) fun _ _ h => .inl h)).trans (hU94.mono (G' := fun b => (b = g49) ∨ (b = g55)) fun _ _ h => .inr h)).trans (Frm.of_ext (G := fun b => (b = g49) ∨ (b = g55)) hE102)) q1)
            refine sOp rfl (oStore [(.bool gr_100), (.slice Ar_100 nr_100 cr_100)] rfl rfl rfl sz46 rfl hB105 (by rw [cellsI_len]; simp only [List.length_cons, List.length_nil]; exact lq) ?_)
            intro w106 hU107 hz108 hB109
            replace hB109 := (cellsI_set (l := L ++ List.replicate (max nf ng - k) RI.zero) (i := k) ⟨gr_100, Ar_100, nr_100, cr_100, dr_100⟩ (by exact lq)) ▸ hB109
            replace hB109 : Blk w106 g9 46 (cellsI ((L ++ [⟨gr_100, Ar_100, nr_100, cr_100, dr_100⟩]) ++ List.replicate (max nf ng - (k + 1)) RI.zero)) := (fillI_set hL (by omega) : (L ++ List.replicate (max nf ng - k) RI.zero).set k ⟨gr_100, Ar_100, nr_100, cr_100, dr_100⟩ = (L ++ [⟨gr_100, Ar_100, nr_100, cr_100, dr_100⟩]) ++ List.replicate (max nf ng - (k + 1)) RI.zero) ▸ hB109
            refine sDone ?_
            refine bN ?_
            refine xN (hK42 _ _ ?_)
            refine wp_region_lit ?_
            refine sEv (v := (.int .i64 (((k : Int)) + 1))) (evAdd (((k : Int)) + 1) rfl rfl (wI64 (by omega))) rfl rfl ?_
            refine sEv (v := (.int .i64 (((k : Int)) + 1))) (rfl) rfl rfl ?_
            refine sDone ?_
            have h110 := (hA.frmB (((((((((Frm.of_ext (G := fun b => (b = g49) ∨ (b = g55) ∨ (b = g9)) hE46).trans (Frm.of_ext (G := fun b => (b = g49) ∨ (b = g55) ∨ (b = g9)) hE52)).trans (Frm.of_ext (G := fun b => (b = g49) ∨ (b = g55) ∨ (b = g9)) hE58)).trans (hU63.mono (G' := fun b => (b = g49) ∨ (b = g55) ∨ (b = g9)) fun _ _ h => .inl h)).trans (hU68.mono (G' := fun b => (b = g49) ∨ (b = g55) ∨ (b = g9)) fun _ _ h => .inr (.inl h))).trans (hU81.mono (G' := fun b => (b = g49) ∨ (b = g55) ∨ (b = g9)) fun _ _ h => .inl h)).trans (hU94.mono (G' := fun b => (b = g49) ∨ (b = g55) ∨ (b = g9)) fun _ _ h => .inr (.inl h))).trans (Frm.of_ext (G := fun b => (b = g49) ∨ (b = g55) ∨ (b = g9)) hE102)).trans (hU107.mono (G' := fun b => (b = g49) ∨ (b = g55) ∨ (b = g9)) fun _ _ h => .inr (.inr h))) q3)
            have h111 := (hr_100.frmB hU107 q3)
            refine again (max nf ng - (k + 1)) (by omega) ⟨(k + 1), (L ++ [⟨gr_100, Ar_100, nr_100, cr_100, dr_100⟩]), rfl, rfl, rfl, rfl, rfl, rfl, rfl, (congrArg (Value.int .i64) (by omega)), (Frm.mono ((((((((((hF27.mono (G' := fun b => (b = g9) ∨ (b = g49) ∨ (b = g55)) fun _ _ h => .inl h).trans (Frm.of_ext (G := fun b => (b = g9) ∨ (b = g49) ∨ (b = g55)) hE46)).trans (Frm.of_ext (G := fun b => (b = g9) ∨ (b = g49) ∨ (b = g55)) hE52)).trans (Frm.of_ext (G := fun b => (b = g9) ∨ (b = g49) ∨ (b = g55)) hE58)).trans (hU63.mono (G' := fun b => (b = g9) ∨ (b = g49) ∨ (b = g55)) fun _ _ h => .inr (.inl h))).trans (hU68.mono (G' := fun b => (b = g9) ∨ (b = g49) ∨ (b = g55)) fun _ _ h => .inr (.inr h))).trans (hU81.mono (G' := fun b => (b = g9) ∨ (b = g49) ∨ (b = g55)) fun _ _ h => .inr (.inl h))).trans (hU94.mono (G' := fun b => (b = g9) ∨ (b = g49) ∨ (b = g55)) fun _ _ h => .inr (.inr h))).trans (Frm.of_ext (G := fun b => (b = g9) ∨ (b = g49) ∨ (b = g55)) hE102)).trans (hU107.mono (G' := fun b => (b = g9) ∨ (b = g49) ∨ (b = g55)) fun _ _ h => .inl h)) q4), ?_, ?_, ?_, ?_, ?_, ?_⟩
            · exact hB109
            · omega
            · simp [hL]
            · exact AllN.snoc h110 (NatR.sub h111 q5) (by (try dsimp only); omega)
            · exact zs_snoc hz (by show zval _ _ = _; rw [v_100]; exact cadd z_77 z_90)
            · exact AllC.snoc hC cn_100
          · refine sEv (v := (.bool false)) (evLss false rfl rfl (dF hc86)) rfl rfl ?_
            have hzf112 : zval false [] = co (zs lg) k := by rw [zval_nil, co_ge (by simp; omega)]
            refine sDone ?_
            refine xN (hK85 _ _ ?_)
            refine cF rfl ?_
            refine wp_skip ?_
            refine xN (hK84 _ _ ?_)
            refine wp_region_lit ?_
            refine sEv (v := (.slice (some ⟨g9, 0, none⟩) (max nf ng) (max nf ng))) (rfl) rfl rfl ?_
            refine sEv (v := (.int .i64 ((k : Int)))) (rfl) rfl rfl ?_
            refine sEv (v := (.func (.func 56) #[] #[])) (rfl) rfl rfl ?_
            refine sEv (v := (.agg #[(.bool g_77), (.slice A_77 n_77 c_77)])) (evLoadAB [(.bool g_77), (.slice A_77 n_77 c_77)] agg46 sz46 rfl hB83 rfl) rfl rfl ?_
            have hB113 := (hB70.frm hU81 q1)
            refine sEv (v := (.agg #[(.bool false), (.slice none 0 0)])) (evLoadAB [(.bool false), (.slice none 0 0)] agg46 sz46 rfl hB113 rfl) rfl rfl ?_
            have h114 := (h_77.frmB hU81 q3)
            refine sOp rfl (oCall rfl call56 (integer_Add h114 (NatR.nil (S := fun _ => True)) (by omega) (by omega)) rfl ?_)
            rintro _ w116 ⟨gr_115, Ar_115, nr_115, cr_115, dr_115, rfl, hE117, hr_115, v_115, cn_115, le_115⟩
            have hz118 := hE117.size
            have lr_115 := hr_115.len; have kr_115 := hr_115.cap; have mr_115 := hr_115.max
            refine sEv (v := (.pointer (some ⟨g9, k * 2, none⟩))) (evIndex k Try.underlying23 sz46 rfl rfl (by omega) (by omega) (k * 2) (by omega)) rfl rfl ?_
            have hB120 := (hB28.frm (((((((Frm.of_ext (G := fun b => (b = g49) ∨ (b = g55)) hE46).trans (Frm.of_ext (G := fun b => (b = g49) ∨ (b = g55)) hE52)).trans (Frm.of_ext (G := fun b => (b = g49) ∨ (b = g55)) hE58)).trans (hU63.mono (G' := fun b => (b = g49) ∨ (b = g55)) fun _ _ h => .inl h)).trans (hU68.mono (G' := fun b => (b = g49) ∨ (b = g55)) fun _ _ h => .inr h)).trans (hU81.mono (G' := fun b => (b = g49) ∨ (b = g55)) fun _ _ h => .inl h)).trans (Frm.of_ext (G := fun b => (b = g49) ∨ (b = g55)) hE117)) q1)
            refine sOp rfl (oStore [(.bool gr_115), (.slice Ar_115 nr_115 cr_115)] rfl rfl rfl sz46 rfl hB120 (by rw [cellsI_len]; simp only [List.length_cons, List.length_nil]; exact lq) ?_)
            intro w121 hU122 hz123 hB124
            replace hB124 := (cellsI_set (l := L ++ List.replicate (max nf ng - k) RI.zero) (i := k) ⟨gr_115, Ar_115, nr_115, cr_115, dr_115⟩ (by exact lq)) ▸ hB124
            replace hB124 : Blk w121 g9 46 (cellsI ((L ++ [⟨gr_115, Ar_115, nr_115, cr_115, dr_115⟩]) ++ List.replicate (max nf ng - (k + 1)) RI.zero)) := (fillI_set hL (by omega) : (L ++ List.replicate (max nf ng - k) RI.zero).set k ⟨gr_115, Ar_115, nr_115, cr_115, dr_115⟩ = (L ++ [⟨gr_115, Ar_115, nr_115, cr_115, dr_115⟩]) ++ List.replicate (max nf ng - (k + 1)) RI.zero) ▸ hB124
            refine sDone ?_
            refine bN ?_
            refine xN (hK42 _ _ ?_)
            refine wp_region_lit ?_
            refine sEv (v := (.int .i64 (((k : Int)) + 1))) (evAdd (((k : Int)) + 1) rfl rfl (wI64 (by omega))) rfl rfl ?_
            refine sEv (v := (.int .i64 (((k : Int)) + 1))) (rfl) rfl rfl ?_
            refine sDone ?_
            have h125 := (hA.frmB ((((((((Frm.of_ext (G := fun b => (b = g49) ∨ (b = g55) ∨ (b = g9)) hE46).trans (Frm.of_ext (G := fun b => (b = g49) ∨ (b = g55) ∨ (b = g9)) hE52)).trans (Frm.of_ext (G := fun b => (b = g49) ∨ (b = g55) ∨ (b = g9)) hE58)).trans (hU63.mono (G' := fun b => (b = g49) ∨ (b = g55) ∨ (b = g9)) fun _ _ h => .inl h)).trans (hU68.mono (G' := fun b => (b = g49) ∨ (b = g55) ∨ (b = g9)) fun _ _ h => .inr (.inl h))).trans (hU81.mono (G' := fun b => (b = g49) ∨ (b = g55) ∨ (b = g9)) fun _ _ h => .inl h)).trans (Frm.of_ext (G := fun b => (b = g49) ∨ (b = g55) ∨ (b = g9)) hE117)).trans (hU122.mono (G' := fun b => (b = g49) ∨ (b = g55) ∨ (b = g9)) fun _ _ h => .inr (.inr h))) q3)
            have h126 := (hr_115.frmB hU122 q3)
            refine again (max nf ng - (k + 1)) (by omega) ⟨(k + 1), (L ++ [⟨gr_115, Ar_115, nr_115, cr_115, dr_115⟩]), rfl, rfl, rfl, rfl, rfl, rfl, rfl, (congrArg (Value.int .i64) (by omega)), (Frm.mono (((((((((hF27.mono (G' := fun b => (b = g9) ∨ (b = g49) ∨ (b = g55)) fun _ _ h => .inl h).trans (Frm.of_ext (G := fun b => (b = g9) ∨ (b = g49) ∨ (b = g55)) hE46)).trans (Frm.of_ext (G := fun b => (b = g9) ∨ (b = g49) ∨ (b = g55)) hE52)).trans (Frm.of_ext (G := fun b => (b = g9) ∨ (b = g49) ∨ (b = g55)) hE58)).trans (hU63.mono (G' := fun b => (b = g9) ∨ (b = g49) ∨ (b = g55)) fun _ _ h => .inr (.inl h))).trans (hU68.mono (G' := fun b => (b = g9) ∨ (b = g49) ∨ (b = g55)) fun _ _ h => .inr (.inr h))).trans (hU81.mono (G' := fun b => (b = g9) ∨ (b = g49) ∨ (b = g55)) fun _ _ h => .inr (.inl h))).trans (Frm.of_ext (G := fun b => (b = g9) ∨ (b = g49) ∨ (b = g55)) hE117)).trans (hU122.mono (G' := fun b => (b = g9) ∨ (b = g49) ∨ (b = g55)) fun _ _ h => .inl h)) q4), ?_, ?_, ?_, ?_, ?_, ?_⟩
            · exact hB124
            · omega
            · simp [hL]
            · exact AllN.snoc h125 (NatR.sub h126 q5) (by (try dsimp only); omega)
            · exact zs_snoc hz (by show zval _ _ = _; rw [v_115]; exact cadd z_77 hzf112)
            · exact AllC.snoc hC cn_115
        · refine sEv (v := (.bool false)) (evLss false rfl rfl (dF hc73)) rfl rfl ?_
          have hzf127 : zval false [] = co (zs lf) k := by rw [zval_nil, co_ge (by simp; omega)]
          refine sDone ?_
          refine xN (hK72 _ _ ?_)
          refine cF rfl ?_
          refine wp_skip ?_
          refine xN (hK71 _ _ ?_)
          refine wp_seq_k fun K128 hK128 => ?_
          refine wp_seq_k fun K129 hK129 => ?_
          refine wp_region_lit ?_
          refine sEv (v := (.int .i64 ((k : Int)))) (rfl) rfl rfl ?_
          refine sEv (v := (.slice Ag ng cg)) (rfl) rfl rfl ?_
          refine sEv (v := (.int .i64 ((ng : Int)))) (evLen Try.underlying23 rfl) rfl rfl ?_
          by_cases hc130 : ((k : Int)) < ((ng : Int))
          · refine sEv (v := (.bool true)) (evLss true rfl rfl (dT hc130)) rfl rfl ?_
            refine sDone ?_
            refine xN (hK129 _ _ ?_)
            refine cT rfl ?_
            refine wp_region_lit ?_
            refine sEv (v := (.slice Ag ng cg)) (rfl) rfl rfl ?_
            refine sEv (v := (.int .i64 ((k : Int)))) (rfl) rfl rfl ?_
            have h131 := (hg.frmB ((((((((Frm.of_ext (G := fun b => (b = g9) ∨ (b = g49) ∨ (b = g55)) hE5).trans (Frm.of_ext (G := fun b => (b = g9) ∨ (b = g49) ∨ (b = g55)) hE12)).trans (hF27.mono (G' := fun b => (b = g9) ∨ (b = g49) ∨ (b = g55)) fun _ _ h => .inl h)).trans (Frm.of_ext (G := fun b => (b = g9) ∨ (b = g49) ∨ (b = g55)) hE46)).trans (Frm.of_ext (G := fun b => (b = g9) ∨ (b = g49) ∨ (b = g55)) hE52)).trans (Frm.of_ext (G := fun b => (b = g9) ∨ (b = g49) ∨ (b = g55)) hE58)).trans (hU63.mono (G' := fun b => (b = g9) ∨ (b = g49) ∨ (b = g55)) fun _ _ h => .inr (.inl h))).trans (hU68.mono (G' := fun b => (b = g9) ∨ (b = g49) ∨ (b = g55)) fun _ _ h => .inr (.inr h))) q3)
            obtain ⟨b132, o133, rfl⟩ := h131.base (by omega)
            refine sEv (v := (.pointer (some ⟨b132, o133 + (k * 2), none⟩))) (evIndex k Try.underlying23 sz46 rfl rfl (by omega) (by omega) (o133 + (k * 2)) (by omega)) rfl rfl ?_
            obtain ⟨g_134, A_134, n_134, c_134, d_134, he_134, hp_134, hq_134, h_134, hM_134, hS_134, hb_134, z_134⟩ := h131.at_ (i := k) (by omega)
            have l_134 := h_134.len; have k_134 := h_134.cap; have m_134 := h_134.max
            refine sEv (v := (.agg #[(.bool g_134), (.slice A_134 n_134 c_134)])) (evLoadA [(.bool g_134), (.slice A_134 n_134 c_134)] agg46 sz46 rfl (cell2 hp_134 hq_134)) rfl rfl ?_
            refine sOp rfl (oStore [(.bool g_134), (.slice A_134 n_134 c_134)] rfl rfl rfl sz46 rfl hB70 (Nat.le_of_ble_eq_true rfl) ?_)
            intro w136 hU137 hz138 hB139
            replace hB139 : Blk w136 g55 46 [(.bool g_134), (.slice A_134 n_134 c_134)] := hB139
            refine sDone ?_
            refine xN (hK128 _ _ ?_)
            refine wp_region_lit ?_
            refine sEv (v := (.slice (some ⟨g9, 0, none⟩) (max nf ng) (max nf ng))) (rfl) rfl rfl ?_
            refine sEv (v := (.int .i64 ((k : Int)))) (rfl) rfl rfl ?_
            refine sEv (v := (.func (.func 56) #[] #[])) (rfl) rfl rfl ?_
            have hB140 := (hB65.frm (hU68.trans hU137) q1)
            refine sEv (v := (.agg #[(.bool false), (.slice none 0 0)])) (evLoadAB [(.bool false), (.slice none 0 0)] agg46 sz46 rfl hB140 rfl) rfl rfl ?_
            refine sEv (v := (.agg #[(.bool g_134), (.slice A_134 n_134 c_134)])) (evLoadAB [(.bool g_134), (.slice A_134 n_134 c_134)] agg46 sz46 rfl hB139 rfl) rfl rfl ?_
            have h141 := (h_134.frmB hU137 q3)
            refine sOp rfl (oCall rfl call56 (integer_Add (NatR.nil (S := fun _ => True)) h141 (by omega) (by omega)) rfl ?_)
            rintro _ w143 ⟨gr_142, Ar_142, nr_142, cr_142, dr_142, rfl, hE144, hr_142, v_142, cn_142, le_142⟩
            have hz145 := hE144.size
            have lr_142 := hr_142.len; have kr_142 := hr_142.cap; have mr_142 := hr_142.max
            refine sEv (v := (.pointer (some ⟨g9, k * 2, none⟩))) (evIndex k Try.underlying23 sz46 rfl rfl (by omega) (by omega) (k * 2) (by omega)) rfl rfl ?_
            have hB147 := (hB28.frm (((((((Frm.of_ext (G := fun b => (b = g49) ∨ (b = g55)) hE46).trans (Frm.of_ext (G := fun b => (b = g49) ∨ (b = g55)) hE52)).trans (Frm.of_ext (G := fun b => (b = g49) ∨ (b = g55)) hE58)).trans (hU63.mono (G' := fun b => (b = g49) ∨ (b = g55)) fun _ _ h => .inl h)).trans (hU68.mono (G' := fun b => (b = g49) ∨ (b = g55)) fun _ _ h => .inr h)).trans (hU137.mono (G' := fun b => (b = g49) ∨ (b = g55)) fun _ _ h => .inr h)).trans (Frm.of_ext (G := fun b => (b = g49) ∨ (b = g55)) hE144)) q1)
            refine sOp rfl (oStore [(.bool gr_142), (.slice Ar_142 nr_142 cr_142)] rfl rfl rfl sz46 rfl hB147 (by rw [cellsI_len]; simp only [List.length_cons, List.length_nil]; exact lq) ?_)
            intro w148 hU149 hz150 hB151
            replace hB151 := (cellsI_set (l := L ++ List.replicate (max nf ng - k) RI.zero) (i := k) ⟨gr_142, Ar_142, nr_142, cr_142, dr_142⟩ (by exact lq)) ▸ hB151
            replace hB151 : Blk w148 g9 46 (cellsI ((L ++ [⟨gr_142, Ar_142, nr_142, cr_142, dr_142⟩]) ++ List.replicate (max nf ng - (k + 1)) RI.zero)) := (fillI_set hL (by omega) : (L ++ List.replicate (max nf ng - k) RI.zero).set k ⟨gr_142, Ar_142, nr_142, cr_142, dr_142⟩ = (L ++ [⟨gr_142, Ar_142, nr_142, cr_142, dr_142⟩]) ++ List.replicate (max nf ng - (k + 1)) RI.zero) ▸ hB151
            refine sDone ?_
            refine bN ?_
            refine xN (hK42 _ _ ?_)
            refine wp_region_lit ?_
            refine sEv (v := (.int .i64 (((k : Int)) + 1))) (evAdd (((k : Int)) + 1) rfl rfl (wI64 (by omega))) rfl rfl ?_
            refine sEv (v := (.int .i64 (((k : Int)) + 1))) (rfl) rfl rfl ?_
            refine sDone ?_
            have h152 := (hA.frmB ((((((((Frm.of_ext (G := fun b => (b = g49) ∨ (b = g55) ∨ (b = g9)) hE46).trans (Frm.of_ext (G := fun b => (b = g49) ∨ (b = g55) ∨ (b = g9)) hE52)).trans (Frm.of_ext (G := fun b => (b = g49) ∨ (b = g55) ∨ (b = g9)) hE58)).trans (hU63.mono (G' := fun b => (b = g49) ∨ (b = g55) ∨ (b = g9)) fun _ _ h => .inl h)).trans (hU68.mono (G' := fun b => (b = g49) ∨ (b = g55) ∨ (b = g9)) fun _ _ h => .inr (.inl h))).trans (hU137.mono (G' := fun b => (b = g49) ∨ (b = g55) ∨ (b = g9)) fun _ _ h => .inr (.inl h))).trans (Frm.of_ext (G := fun b => (b = g49) ∨ (b = g55) ∨ (b = g9)) hE144)).trans (hU149.mono (G' := fun b => (b = g49) ∨ (b = g55) ∨ (b = g9)) fun _ _ h => .inr (.inr h))) q3)
            have h153 := (hr_142.frmB hU149 q3)
            refine again (max nf ng - (k + 1)) (by omega) ⟨(k + 1), (L ++ [⟨gr_142, Ar_142, nr_142, cr_142, dr_142⟩]), rfl, rfl, rfl, rfl, rfl, rfl, rfl, (congrArg (Value.int .i64) (by omega)), (Frm.mono (((((((((hF27.mono (G' := fun b => (b = g9) ∨ (b = g49) ∨ (b = g55)) fun _ _ h => .inl h).trans (Frm.of_ext (G := fun b => (b = g9) ∨ (b = g49) ∨ (b = g55)) hE46)).trans (Frm.of_ext (G := fun b => (b = g9) ∨ (b = g49) ∨ (b = g55)) hE52)).trans (Frm.of_ext (G := fun b => (b = g9) ∨ (b = g49) ∨ (b = g55)) hE58)).trans (hU63.mono (G' := fun b => (b = g9) ∨ (b = g49) ∨ (b = g55)) fun _ _ h => .inr (.inl h))).trans (hU68.mono (G' := fun b => (b = g9) ∨ (b = g49) ∨ (b = g55)) fun _ _ h => .inr (.inr h))).trans (hU137.mono (G' := fun b => (b = g9) ∨ (b = g49) ∨ (b = g55)) fun _ _ h => .inr (.inr h))).trans (Frm.of_ext (G := fun b => (b = g9) ∨ (b = g49) ∨ (b = g55)) hE144)).trans (hU149.mono (G' := fun b => (b = g9) ∨ (b = g49) ∨ (b = g55)) fun _ _ h => .inl h)) q4), ?_, ?_, ?_, ?_, ?_, ?_⟩
            · exact hB151
            · omega
            · simp [hL]
            · exact AllN.snoc h152 (NatR.sub h153 q5) (by (try dsimp only); omega)
            · exact zs_snoc hz (by show zval _ _ = _; rw [v_142]; exact cadd hzf127 z_134)
            · exact AllC.snoc hC cn_142
          · refine sEv (v := (.bool false)) (evLss false rfl rfl (dF hc130)) rfl rfl ?_
            have hzf154 : zval false [] = co (zs lg) k := by rw [zval_nil, co_ge (by simp; omega)]
            refine sDone ?_
            refine xN (hK129 _ _ ?_)
            refine cF rfl ?_
            refine wp_skip ?_
            refine xN (hK128 _ _ ?_)
            refine wp_region_lit ?_
            refine sEv (v := (.slice (some ⟨g9, 0, none⟩) (max nf ng) (max nf ng))) (rfl) rfl rfl ?_
            refine sEv (v := (.int .i64 ((k : Int)))) (rfl) rfl rfl ?_
            refine sEv (v := (.func (.func 56) #[] #[])) (rfl) rfl rfl ?_
            have hB155 := (hB65.frm hU68 q1)
            refine sEv (v := (.agg #[(.bool false), (.slice none 0 0)])) (evLoadAB [(.bool false), (.slice none 0 0)] agg46 sz46 rfl hB155 rfl) rfl rfl ?_
            refine sEv (v := (.agg #[(.bool false), (.slice none 0 0)])) (evLoadAB [(.bool false), (.slice none 0 0)] agg46 sz46 rfl hB70 rfl) rfl rfl ?_
            refine sOp rfl (oCall rfl call56 (integer_Add (NatR.nil (S := fun _ => True)) (NatR.nil (S := fun _ => True)) (by omega) (by omega)) rfl ?_)
            rintro _ w157 ⟨gr_156, Ar_156, nr_156, cr_156, dr_156, rfl, hE158, hr_156, v_156, cn_156, le_156⟩
            have hz159 := hE158.size
            have lr_156 := hr_156.len; have kr_156 := hr_156.cap; have mr_156 := hr_156.max
            refine sEv (v := (.pointer (some ⟨g9, k * 2, none⟩))) (evIndex k Try.underlying23 sz46 rfl rfl (by omega) (by omega) (k * 2) (by omega)) rfl rfl ?_
            have hB161 := (hB28.frm ((((((Frm.of_ext (G := fun b => (b = g49) ∨ (b = g55)) hE46).trans (Frm.of_ext (G := fun b => (b = g49) ∨ (b = g55)) hE52)).trans (Frm.of_ext (G := fun b => (b = g49) ∨ (b = g55)) hE58)).trans (hU63.mono (G' := fun b => (b = g49) ∨ (b = g55)) fun _ _ h => .inl h)).trans (hU68.mono (G' := fun b => (b = g49) ∨ (b = g55)) fun _ _ h => .inr h)).trans (Frm.of_ext (G := fun b => (b = g49) ∨ (b = g55)) hE158)) q1)
            refine sOp rfl (oStore [(.bool gr_156), (.slice Ar_156 nr_156 cr_156)] rfl rfl rfl sz46 rfl hB161 (by rw [cellsI_len]; simp only [List.length_cons, List.length_nil]; exact lq) ?_)
            intro w162 hU163 hz164 hB165
            replace hB165 := (cellsI_set (l := L ++ List.replicate (max nf ng - k) RI.zero) (i := k) ⟨gr_156, Ar_156, nr_156, cr_156, dr_156⟩ (by exact lq)) ▸ hB165
            replace hB165 : Blk w162 g9 46 (cellsI ((L ++ [⟨gr_156, Ar_156, nr_156, cr_156, dr_156⟩]) ++ List.replicate (max nf ng - (k + 1)) RI.zero)) := (fillI_set hL (by omega) : (L ++ List.replicate (max nf ng - k) RI.zero).set k ⟨gr_156, Ar_156, nr_156, cr_156, dr_156⟩ = (L ++ [⟨gr_156, Ar_156, nr_156, cr_156, dr_156⟩]) ++ List.replicate (max nf ng - (k + 1)) RI.zero) ▸ hB165
            refine sDone ?_
            refine bN ?_
            refine xN (hK42 _ _ ?_)
            refine wp_region_lit ?_
            refine sEv (v := (.int .i64 (((k : Int)) + 1))) (evAdd (((k : Int)) + 1) rfl rfl (wI64 (by omega))) rfl rfl ?_
            refine sEv (v := (.int .i64 (((k : Int)) + 1))) (rfl) rfl rfl ?_
            refine sDone ?_
            have h166 := (hA.frmB (((((((Frm.of_ext (G := fun b => (b = g49) ∨ (b = g55) ∨ (b = g9)) hE46).trans (Frm.of_ext (G := fun b => (b = g49) ∨ (b = g55) ∨ (b = g9)) hE52)).trans (Frm.of_ext (G := fun b => (b = g49) ∨ (b = g55) ∨ (b = g9)) hE58)).trans (hU63.mono (G' := fun b => (b = g49) ∨ (b = g55) ∨ (b = g9)) fun _ _ h => .inl h)).trans (hU68.mono (G' := fun b => (b = g49) ∨ (b = g55) ∨ (b = g9)) fun _ _ h => .inr (.inl h))).trans (Frm.of_ext (G := fun b => (b = g49) ∨ (b = g55) ∨ (b = g9)) hE158)).trans (hU163.mono (G' := fun b => (b = g49) ∨ (b = g55) ∨ (b = g9)) fun _ _ h => .inr (.inr h))) q3)
            have h167 := (hr_156.frmB hU163 q3)
            refine again (max nf ng - (k + 1)) (by omega) ⟨(k + 1), (L ++ [⟨gr_156, Ar_156, nr_156, cr_156, dr_156⟩]), rfl, rfl, rfl, rfl, rfl, rfl, rfl, (congrArg (Value.int .i64) (by omega)), (Frm.mono ((((((((hF27.mono (G' := fun b => (b = g9) ∨ (b = g49) ∨ (b = g55)) fun _ _ h => .inl h).trans (Frm.of_ext (G := fun b => (b = g9) ∨ (b = g49) ∨ (b = g55)) hE46)).trans (Frm.of_ext (G := fun b => (b = g9) ∨ (b = g49) ∨ (b = g55)) hE52)).trans (Frm.of_ext (G := fun b => (b = g9) ∨ (b = g49) ∨ (b = g55)) hE58)).trans (hU63.mono (G' := fun b => (b = g9) ∨ (b = g49) ∨ (b = g55)) fun _ _ h => .inr (.inl h))).trans (hU68.mono (G' := fun b => (b = g9) ∨ (b = g49) ∨ (b = g55)) fun _ _ h => .inr (.inr h))).trans (Frm.of_ext (G := fun b => (b = g9) ∨ (b = g49) ∨ (b = g55)) hE158)).trans (hU163.mono (G' := fun b => (b = g9) ∨ (b = g49) ∨ (b = g55)) fun _ _ h => .inl h)) q4), ?_, ?_, ?_, ?_, ?_, ?_⟩
            · exact hB165
            · omega
            · simp [hL]
            · exact AllN.snoc h166 (NatR.sub h167 q5) (by (try dsimp only); omega)
            · exact zs_snoc hz (by show zval _ _ = _; rw [v_156]; exact cadd hzf127 hzf154)
            · exact AllC.snoc hC cn_156
      · refine dWp (i := 3) rfl rfl (oAlloc [(.bool false), (.slice none 0 0)] zero46 rfl ?_)
        intro g168 w169 hg170 hE171 hz172 hB173
        refine ⟨(Frm.of_ext hE171), ?_⟩
        refine dOp 2 rfl rfl (by kernel_rfl) (oAlloc [(.bool false), (.slice none 0 0)] zero46 rfl ?_)
        intro g174 w175 hg176 hE177 hz178 hB179
        refine ⟨(Frm.of_ext hE177), ?_⟩
        refine dOp 4 rfl rfl (by kernel_rfl) (oStore [(.bool false), (.slice none 0 0)] rfl rfl rfl sz46 rfl hB179 (Nat.le_of_ble_eq_true rfl) ?_)
        intro w180 hU181 hz182 hB183
        replace hB183 : Blk w180 g174 46 [(.bool false), (.slice none 0 0)] := hB183
        refine ⟨(hU181.mono q4), ?_⟩
        have hB184 := (hB173.frm ((Frm.of_ext (G := fun b => (b = g174)) hE177).trans hU181) q1)
        refine dOp 5 rfl rfl (by kernel_rfl) (oStore [(.bool false), (.slice none 0 0)] rfl rfl rfl sz46 rfl hB184 (Nat.le_of_ble_eq_true rfl) ?_)
        intro w185 hU186 hz187 hB188
        replace hB188 : Blk w185 g168 46 [(.bool false), (.slice none 0 0)] := hB188
        refine ⟨(hU186.mono q4), ?_⟩
        refine dDone (by kernel_rfl) ?_
        refine xN (hK44 _ _ ?_)
        refine wp_seq_k fun K189 hK189 => ?_
        refine wp_seq_k fun K190 hK190 => ?_
        refine wp_region_lit ?_
        refine sEv (v := (.int .i64 ((k : Int)))) (rfl) rfl rfl ?_
        refine sEv (v := (.slice Af nf cf)) (rfl) rfl rfl ?_
        refine sEv (v := (.int .i64 ((nf : Int)))) (evLen Try.underlying23 rfl) rfl rfl ?_
        by_cases hc191 : ((k : Int)) < ((nf : Int))
        · refine sEv (v := (.bool true)) (evLss true rfl rfl (dT hc191)) rfl rfl ?_
          refine sDone ?_
          refine xN (hK190 _ _ ?_)
          refine cT rfl ?_
          refine wp_region_lit ?_
          refine sEv (v := (.slice Af nf cf)) (rfl) rfl rfl ?_
          refine sEv (v := (.int .i64 ((k : Int)))) (rfl) rfl rfl ?_
          have h192 := (hf.frmB ((((((((Frm.of_ext (G := fun b => (b = g9) ∨ (b = g174) ∨ (b = g168)) hE5).trans (Frm.of_ext (G := fun b => (b = g9) ∨ (b = g174) ∨ (b = g168)) hE12)).trans (hF27.mono (G' := fun b => (b = g9) ∨ (b = g174) ∨ (b = g168)) fun _ _ h => .inl h)).trans (Frm.of_ext (G := fun b => (b = g9) ∨ (b = g174) ∨ (b = g168)) hE46)).trans (Frm.of_ext (G := fun b => (b = g9) ∨ (b = g174) ∨ (b = g168)) hE171)).trans (Frm.of_ext (G := fun b => (b = g9) ∨ (b = g174) ∨ (b = g168)) hE177)).trans (hU181.mono (G' := fun b => (b = g9) ∨ (b = g174) ∨ (b = g168)) fun _ _ h => .inr (.inl h))).trans (hU186.mono (G' := fun b => (b = g9) ∨ (b = g174) ∨ (b = g168)) fun _ _ h => .inr (.inr h))) q3)
          obtain ⟨b193, o194, rfl⟩ := h192.base (by omega)
          refine sEv (v := (.pointer (some ⟨b193, o194 + (k * 2), none⟩))) (evIndex k Try.underlying23 sz46 rfl rfl (by omega) (by omega) (o194 + (k * 2)) (by omega)) rfl rfl ?_
          obtain ⟨g_195, A_195, n_195, c_195, d_195, he_195, hp_195, hq_195, h_195, hM_195, hS_195, hb_195, z_195⟩ := h192.at_ (i := k) (by omega)
          have l_195 := h_195.len; have k_195 := h_195.cap; have m_195 := h_195.max
          refine sEv (v := (.agg #[(.bool g_195), (.slice A_195 n_195 c_195)])) (evLoadA [(.bool g_195), (.slice A_195 n_195 c_195)] agg46 sz46 rfl (cell2 hp_195 hq_195)) rfl rfl ?_
          have hB197 := (hB183.frm hU186 q1)
          refine sOp rfl (oStore [(.bool g_195), (.slice A_195 n_195 c_195)] rfl rfl rfl sz46 rfl hB197 (Nat.le_of_ble_eq_true rfl) ?_)
          intro w198 hU199 hz200 hB201
          replace hB201 : Blk w198 g174 46 [(.bool g_195), (.slice A_195 n_195 c_195)] := hB201
          refine sDone ?_
          refine xN (hK189 _ _ ?_)
          refine wp_seq_k fun K202 hK202 => ?_
          refine wp_seq_k fun K203 hK203 => ?_
          refine wp_region_lit ?_
          refine sEv (v := (.int .i64 ((k : Int)))) (rfl) rfl rfl ?_
          refine sEv (v := (.slice Ag ng cg)) (rfl) rfl rfl ?_
          refine sEv (v := (.int .i64 ((ng : Int)))) (evLen Try.underlying23 rfl) rfl rfl ?_
          by_cases hc204 : ((k : Int)) < ((ng : Int))
          · refine sEv (v := (.bool true)) (evLss true rfl rfl (dT hc204)) rfl rfl ?_
            refine sDone ?_
            refine xN (hK203 _ _ ?_)
            refine cT rfl ?_
            refine wp_region_lit ?_
            refine sEv (v := (.slice Ag ng cg)) (rfl) rfl rfl ?_
            refine sEv (v := (.int .i64 ((k : Int)))) (rfl) rfl rfl ?_
            have h205 := (hg.frmB (((((((((Frm.of_ext (G := fun b => (b = g9) ∨ (b = g174) ∨ (b = g168)) hE5).trans (Frm.of_ext (G := fun b => (b = g9) ∨ (b = g174) ∨ (b = g168)) hE12)).trans (hF27.mono (G' := fun b => (b = g9) ∨ (b = g174) ∨ (b = g168)) fun _ _ h => .inl h)).trans (Frm.of_ext (G := fun b => (b = g9) ∨ (b = g174) ∨ (b = g168)) hE46)).trans (Frm.of_ext (G := fun b => (b = g9) ∨ (b = g174) ∨ (b = g168)) hE171)).trans (Frm.of_ext (G := fun b => (b = g9) ∨ (b = g174) ∨ (b = g168)) hE177)).trans (hU181.mono (G' := fun b => (b = g9) ∨ (b = g174) ∨ (b = g168)) fun _ _ h => .inr (.inl h))).trans (hU186.mono (G' := fun b => (b = g9) ∨ (b = g174) ∨ (b = g168)) fun _ _ h => .inr (.inr h))).trans (hU199.mono (G' := fun b => (b = g9) ∨ (b = g174) ∨ (b = g168)) fun _ _ h => .inr (.inl h))) q3)
            obtain ⟨b206, o207, rfl⟩ := h205.base (by omega)
            refine sEv (v := (.pointer (some ⟨b206, o207 + (k * 2), none⟩))) (evIndex k Try.underlying23 sz46 rfl rfl (by omega) (by omega) (o207 + (k * 2)) (by omega)) rfl rfl ?_
            obtain ⟨g_208, A_208, n_208, c_208, d_208, he_208, hp_208, hq_208, h_208, hM_208, hS_208, hb_208, z_208⟩ := h205.at_ (i := k) (by omega)
            have l_208 := h_208.len; have k_208 := h_208.cap; have m_208 := h_208.max
            refine sEv (v := (.agg #[(.bool g_208), (.slice A_208 n_208 c_208)])) (evLoadA [(.bool g_208), (.slice A_208 n_208 c_208)] agg46 sz46 rfl (cell2 hp_208 hq_208)) rfl rfl ?_
            have hB210 := (hB188.frm hU199 q1)
            refine sOp rfl (oStore [(.bool g_208), (.slice A_208 n_208 c_208)] rfl rfl rfl sz46 rfl hB210 (Nat.le_of_ble_eq_true rfl) ?_)
            intro w211 hU212 hz213 hB214
            replace hB214 : Blk w211 g168 46 [(.bool g_208), (.slice A_208 n_208 c_208)] := hB214
            refine sDone ?_
            refine xN (hK202 _ _ ?_)
            refine wp_region_lit ?_
            refine sEv (v := (.slice (some ⟨g9, 0, none⟩) (max nf ng) (max nf ng))) (rfl) rfl rfl ?_
            refine sEv (v := (.int .i64 ((k : Int)))) (rfl) rfl rfl ?_
            refine sEv (v := (.func (.func 56) #[] #[])) (rfl) rfl rfl ?_
            have hB215 := (hB201.frm hU212 q1)
            refine sEv (v := (.agg #[(.bool g_195), (.slice A_195 n_195 c_195)])) (evLoadAB [(.bool g_195), (.slice A_195 n_195 c_195)] agg46 sz46 rfl hB215 rfl) rfl rfl ?_
            refine sEv (v := (.agg #[(.bool g_208), (.slice A_208 n_208 c_208)])) (evLoadAB [(.bool g_208), (.slice A_208 n_208 c_208)] agg46 sz46 rfl hB214 rfl) rfl rfl ?_
            have h216 := (h_195.frmB ((hU199.mono (G' := fun b => (b = g174) ∨ (b = g168)) fun _ _ h => .inl h).trans (hU212.mono (G' := fun b => (b = g174) ∨ (b = g168)) fun _ _ h => .inr h)) q3)
            have h217 := (h_208.frmB hU212 q3)
            refine sOp rfl (oCall rfl call56 (integer_Add h216 h217 (by omega) (by omega)) rfl ?_)
            rintro _ w219 ⟨gr_218, Ar_218, nr_218, cr_218, dr_218, rfl, hE220, hr_218, v_218, cn_218, le_218⟩
            have hz221 := hE220.size
            have lr_218 := hr_218.len; have kr_218 := hr_218.cap; have mr_218 := hr_218.max
            refine sEv (v := (.pointer (some ⟨g9, k * 2, none⟩))) (evIndex k Try.underlying23 sz46 rfl rfl (by omega) (by omega) (k * 2) (by omega)) rfl rfl ?_
            have hB223 := (hB28.frm ((((((((Frm.of_ext (G := fun b => (b = g174) ∨ (b = g168)) hE46).trans (Frm.of_ext (G := fun b => (b = g174) ∨ (b = g168)) hE171)).trans (Frm.of_ext (G := fun b => (b = g174) ∨ (b = g168)) hE177)).trans (hU181.mono (G' := fun b => (b = g174) ∨ (b = g168)) fun _ _ h => .inl h)).trans (hU186.mono (G' := fun b => (b = g174) ∨ (b = g168)) fun _ _ h => .inr h)).trans (hU199.mono (G' := fun b => (b = g174) ∨ (b = g168)) fun _ _ h => .inl h)).trans (hU212.mono (G' := fun b => (b = g174) ∨ (b = g168)) fun _ _ h => .inr h)).trans (Frm.of_ext (G := fun b => (b = g174) ∨ (b = g168)) hE220)) q1)
            refine sOp rfl (oStore [(.bool gr_218), (.slice Ar_218 nr_218 cr_218)] rfl rfl rfl sz46 rfl hB223 (by rw [cellsI_len]; simp only [List.length_cons, List.length_nil]; exact lq) ?_)
            intro w224 hU225 hz226 hB227
            replace hB227 := (cellsI_set (l := L ++ List.replicate (max nf ng - k) RI.zero) (i := k) ⟨gr_218, Ar_218, nr_218, cr_218, dr_218⟩ (by exact lq)) ▸ hB227
            replace hB227 : Blk w224 g9 46 (cellsI ((L ++ [⟨gr_218, Ar_218, nr_218, cr_218, dr_218⟩]) ++ List.replicate (max nf ng - (k + 1)) RI.zero)) := (fillI_set hL (by omega) : (L ++ List.replicate (max nf ng - k) RI.zero).set k ⟨gr_218, Ar_218, nr_218, cr_218, dr_218⟩ = (L ++ [⟨gr_218, Ar_218, nr_218, cr_218, dr_218⟩]) ++ List.replicate (max nf ng - (k + 1)) RI.zero) ▸ hB227
            refine sDone ?_
            refine bN ?_
            refine xN (hK42 _ _ ?_)
            refine wp_region_lit ?_
            refine sEv (v := (.int .i64 (((k : Int)) + 1))) (evAdd (((k : Int)) + 1) rfl rfl (wI64 (by omega))) rfl rfl ?_
            refine sEv (v := (.int .i64 (((k : Int)) + 1))) (rfl) rfl rfl ?_
            refine sDone ?_
            have h228 := (hA.frmB (((((((((Frm.of_ext (G := fun b => (b = g174) ∨ (b = g168) ∨ (b = g9)) hE46).trans (Frm.of_ext (G := fun b => (b = g174) ∨ (b = g168) ∨ (b = g9)) hE171)).trans (Frm.of_ext (G := fun b => (b = g174) ∨ (b = g168) ∨ (b = g9)) hE177)).trans (hU181.mono (G' := fun b => (b = g174) ∨ (b = g168) ∨ (b = g9)) fun _ _ h => .inl h)).trans (hU186.mono (G' := fun b => (b = g174) ∨ (b = g168) ∨ (b = g9)) fun _ _ h => .inr (.inl h))).trans (hU199.mono (G' := fun b => (b = g174) ∨ (b = g168) ∨ (b = g9)) fun _ _ h => .inl h)).trans (hU212.mono (G' := fun b => (b = g174) ∨ (b = g168) ∨ (b = g9)) fun _ _ h => .inr (.inl h))).trans (Frm.of_ext (G := fun b => (b = g174) ∨ (b = g168) ∨ (b = g9)) hE220)).trans (hU225.mono (G' := fun b => (b = g174) ∨ (b = g168) ∨ (b = g9)) fun _ _ h => .inr (.inr h))) q3)
            have h229 := (hr_218.frmB hU225 q3)
            refine again (max nf ng - (k + 1)) (by omega) ⟨(k + 1), (L ++ [⟨gr_218, Ar_218, nr_218, cr_218, dr_218⟩]), rfl, rfl, rfl, rfl, rfl, rfl, rfl, (congrArg (Value.int .i64) (by omega)), (Frm.mono ((((((((((hF27.mono (G' := fun b => (b = g9) ∨ (b = g174) ∨ (b = g168)) fun _ _ h => .inl h).trans (Frm.of_ext (G := fun b => (b = g9) ∨ (b = g174) ∨ (b = g168)) hE46)).trans (Frm.of_ext (G := fun b => (b = g9) ∨ (b = g174) ∨ (b = g168)) hE171)).trans (Frm.of_ext (G := fun b => (b = g9) ∨ (b = g174) ∨ (b = g168)) hE177)).trans (hU181.mono (G' := fun b => (b = g9) ∨ (b = g174) ∨ (b = g168)) fun _ _ h => .inr (.inl h))).trans (hU186.mono (G' := fun b => (b = g9) ∨ (b = g174) ∨ (b = g168)) fun _ _ h => .inr (.inr h))).trans (hU199.mono (G' := fun b => (b = g9) ∨ (b = g174) ∨ (b = g168)) fun _ _ h => .inr (.inl h))).trans (hU212.mono (G' := fun b => (b = g9) ∨ (b = g174) ∨ (b = g168)) fun _ _ h => .inr (.inr h))).trans (Frm.of_ext (G := fun b => (b = g9) ∨ (b = g174) ∨ (b = g168)) hE220)).trans (hU225.mono (G' := fun b => (b = g9) ∨ (b = g174) ∨ (b = g168)) fun _ _ h => .inl h)) q4), ?_, ?_, ?_, ?_, ?_, ?_⟩
            · exact hB227
            · omega
            · simp [hL]
            · exact AllN.snoc h228 (NatR.sub h229 q5) (by (try dsimp only); omega)
            · exact zs_snoc hz (by show zval _ _ = _; rw [v_218]; exact cadd z_195 z_208)
            · exact AllC.snoc hC cn_218
          · refine sEv (v := (.bool false)) (evLss false rfl rfl (dF hc204)) rfl rfl ?_
            have hzf230 : zval false [] = co (zs lg) k := by rw [zval_nil, co_ge (by simp; omega)]
            refine sDone ?_
            refine xN (hK203 _ _ ?_)
            refine cF rfl ?_
            refine wp_skip ?_
            refine xN (hK202 _ _ ?_)
            refine wp_region_lit ?_
            refine sEv (v := (.slice (some ⟨g9, 0, none⟩) (max nf ng) (max nf ng))) (rfl) rfl rfl ?_
            refine sEv (v := (.int .i64 ((k : Int)))) (rfl) rfl rfl ?_
            refine sEv (v := (.func (.func 56) #[] #[])) (rfl) rfl rfl ?_
            refine sEv (v := (.agg #[(.bool g_195), (.slice A_195 n_195 c_195)])) (evLoadAB [(.bool g_195), (.slice A_195 n_195 c_195)] agg46 sz46 rfl hB201 rfl) rfl rfl ?_
            have hB231 := (hB188.frm hU199 q1)
            refine sEv (v := (.agg #[(.bool false), (.slice none 0 0)])) (evLoadAB [(.bool false), (.slice none 0 0)] agg46 sz46 rfl hB231 rfl) rfl rfl ?_
            have h232 := (h_195.frmB hU199 q3)
            refine sOp rfl (oCall rfl call56 (integer_Add h232 (NatR.nil (S := fun _ => True)) (by omega) (by omega)) rfl ?_)
            rintro _ w234 ⟨gr_233, Ar_233, nr_233, cr_233, dr_233, rfl, hE235, hr_233, v_233, cn_233, le_233⟩
            have hz236 := hE235.size
            have lr_233 := hr_233.len; have kr_233 := hr_233.cap; have mr_233 := hr_233.max
            refine sEv (v := (.pointer (some ⟨g9, k * 2, none⟩))) (evIndex k Try.underlying23 sz46 rfl rfl (by omega) (by omega) (k * 2) (by omega)) rfl rfl ?_
            have hB238 := (hB28.frm (((((((Frm.of_ext (G := fun b => (b = g174) ∨ (b = g168)) hE46).trans (Frm.of_ext (G := fun b => (b = g174) ∨ (b = g168)) hE171)).trans (Frm.of_ext (G := fun b => (b = g174) ∨ (b = g168)) hE177)).trans (hU181.mono (G' := fun b => (b = g174) ∨ (b = g168)) fun _ _ h => .inl h)).trans (hU186.mono (G' := fun b => (b = g174) ∨ (b = g168)) fun _ _ h => .inr h)).trans (hU199.mono (G' := fun b => (b = g174) ∨ (b = g168)) fun _ _ h => .inl h)).trans (Frm.of_ext (G := fun b => (b = g174) ∨ (b = g168)) hE235)) q1)
            refine sOp rfl (oStore [(.bool gr_233), (.slice Ar_233 nr_233 cr_233)] rfl rfl rfl sz46 rfl hB238 (by rw [cellsI_len]; simp only [List.length_cons, List.length_nil]; exact lq) ?_)
            intro w239 hU240 hz241 hB242
            replace hB242 := (cellsI_set (l := L ++ List.replicate (max nf ng - k) RI.zero) (i := k) ⟨gr_233, Ar_233, nr_233, cr_233, dr_233⟩ (by exact lq)) ▸ hB242
            replace hB242 : Blk w239 g9 46 (cellsI ((L ++ [⟨gr_233, Ar_233, nr_233, cr_233, dr_233⟩]) ++ List.replicate (max nf ng - (k + 1)) RI.zero)) := (fillI_set hL (by omega) : (L ++ List.replicate (max nf ng - k) RI.zero).set k ⟨gr_233, Ar_233, nr_233, cr_233, dr_233⟩ = (L ++ [⟨gr_233, Ar_233, nr_233, cr_233, dr_233⟩]) ++ List.replicate (max nf ng - (k + 1)) RI.zero) ▸ hB242
            refine sDone ?_
            refine bN ?_
            refine xN (hK42 _ _ ?_)
            refine wp_region_lit ?_
            refine sEv (v := (.int .i64 (((k : Int)) + 1))) (evAdd (((k : Int)) + 1) rfl rfl (wI64 (by omega))) rfl rfl ?_
            refine sEv (v := (.int .i64 (((k : Int)) + 1))) (rfl) rfl rfl ?_
            refine sDone ?_
            have h243 := (hA.frmB ((((((((Frm.of_ext (G := fun b => (b = g174) ∨ (b = g168) ∨ (b = g9)) hE46).trans (Frm.of_ext (G := fun b => (b = g174) ∨ (b = g168) ∨ (b = g9)) hE171)).trans (Frm.of_ext (G := fun b => (b = g174) ∨ (b = g168) ∨ (b = g9)) hE177)).trans (hU181.mono (G' := fun b => (b = g174) ∨ (b = g168) ∨ (b = g9)) fun _ _ h => .inl h)).trans (hU186.mono (G' := fun b => (b = g174) ∨ (b = g168) ∨ (b = g9)) fun _ _ h => .inr (.inl h))).trans (hU199.mono (G' := fun b => (b = g174) ∨ (b = g168) ∨ (b = g9)) fun _ _ h => .inl h)).trans (Frm.of_ext (G := fun b => (b = g174) ∨ (b = g168) ∨ (b = g9)) hE235)).trans (hU240.mono (G' := fun b => (b = g174) ∨ (b = g168) ∨ (b = g9)) fun _ _ h => .inr (.inr h))) q3)
            have h244 := (hr_233.frmB hU240 q3)
            refine again (max nf ng - (k + 1)) (by omega) ⟨(k + 1), (L ++ [⟨gr_233, Ar_233, nr_233, cr_233, dr_233⟩]), rfl, rfl, rfl, rfl, rfl, rfl, rfl, (congrArg (Value.int .i64) (by omega)), (Frm.mono (((((((((hF27.mono (G' := fun b => (b = g9) ∨ (b = g174) ∨ (b = g168)) fun _ _ h => .inl h).trans (Frm.of_ext (G := fun b => (b = g9) ∨ (b = g174) ∨ (b = g168)) hE46)).trans (Frm.of_ext (G := fun b => (b = g9) ∨ (b = g174) ∨ (b = g168)) hE171)).trans (Frm.of_ext (G := fun b => (b = g9) ∨ (b = g174) ∨ (b = g168)) hE177)).trans (hU181.mono (G' := fun b => (b = g9) ∨ (b = g174) ∨ (b = g168)) fun _ _ h => .inr (.inl h))).trans (hU186.mono (G' := fun b => (b = g9) ∨ (b = g174) ∨ (b = g168)) fun _ _ h => .inr (.inr h))).trans (hU199.mono (G' := fun b => (b = g9) ∨ (b = g174) ∨ (b = g168)) fun _ _ h => .inr (.inl h))).trans (Frm.of_ext (G := fun b => (b = g9) ∨ (b = g174) ∨ (b = g168)) hE235)).trans (hU240.mono (G' := fun b => (b = g9) ∨ (b = g174) ∨ (b = g168)) fun _ _ h => .inl h)) q4), ?_, ?_, ?_, ?_, ?_, ?_⟩
            · exact hB242
            · omega
            · simp [hL]
            · exact AllN.snoc h243 (NatR.sub h244 q5) (by (try dsimp only); omega)
            · exact zs_snoc hz (by show zval _ _ = _; rw [v_233]; exact cadd z_195 hzf230)
            · exact AllC.snoc hC cn_233
        · refine sEv (v := (.bool false)) (evLss false rfl rfl (dF hc191)) rfl rfl ?_
          have hzf245 : zval false [] = co (zs lf) k := by rw [zval_nil, co_ge (by simp; omega)]
          refine sDone ?_
          refine xN (hK190 _ _ ?_)
          refine cF rfl ?_
          refine wp_skip ?_
          refine xN (hK189 _ _ ?_)
          refine wp_seq_k fun K246 hK246 => ?_
          refine wp_seq_k fun K247 hK247 => ?_
          refine wp_region_lit ?_
          refine sEv (v := (.int .i64 ((k : Int)))) (rfl) rfl rfl ?_
          refine sEv (v := (.slice Ag ng cg)) (rfl) rfl rfl ?_
          refine sEv (v := (.int .i64 ((ng : Int)))) (evLen Try.underlying23 rfl) rfl rfl ?_
          by_cases hc248 : ((k : Int)) < ((ng : Int))
          · refine sEv (v := (.bool true)) (evLss true rfl rfl (dT hc248)) rfl rfl ?_
            refine sDone ?_
            refine xN (hK247 _ _ ?_)
            refine cT rfl ?_
            refine wp_region_lit ?_
            refine sEv (v := (.slice Ag ng cg)) (rfl) rfl rfl ?_
            refine sEv (v := (.int .i64 ((k : Int)))) (rfl) rfl rfl ?_
            have h249 := (hg.frmB ((((((((Frm.of_ext (G := fun b => (b = g9) ∨ (b = g174) ∨ (b = g168)) hE5).trans (Frm.of_ext (G := fun b => (b = g9) ∨ (b = g174) ∨ (b = g168)) hE12)).trans (hF27.mono (G' := fun b => (b = g9) ∨ (b = g174) ∨ (b = g168)) fun _ _ h => .inl h)).trans (Frm.of_ext (G := fun b => (b = g9) ∨ (b = g174) ∨ (b = g168)) hE46)).trans (Frm.of_ext (G := fun b => (b = g9) ∨ (b = g174) ∨ (b = g168)) hE171)).trans (Frm.of_ext (G := fun b => (b = g9) ∨ (b = g174) ∨ (b = g168)) hE177)).trans (hU181.mono (G' := fun b => (b = g9) ∨ (b = g174) ∨ (b = g168)) fun _ _ h => .inr (.inl h))).trans (hU186.mono (G' := fun b => (b = g9) ∨ (b = g174) ∨ (b = g168)) fun _ _ h => .inr (.inr h))) q3)
            obtain ⟨b250, o251, rfl⟩ := h249.base (by omega)
            refine sEv (v := (.pointer (some ⟨b250, o251 + (k * 2), none⟩))) (evIndex k Try.underlying23 sz46 rfl rfl (by omega) (by omega) (o251 + (k * 2)) (by omega)) rfl rfl ?_
            obtain ⟨g_252, A_252, n_252, c_252, d_252, he_252, hp_252, hq_252, h_252, hM_252, hS_252, hb_252, z_252⟩ := h249.at_ (i := k) (by omega)
            have l_252 := h_252.len; have k_252 := h_252.cap; have m_252 := h_252.max
            refine sEv (v := (.agg #[(.bool g_252), (.slice A_252 n_252 c_252)])) (evLoadA [(.bool g_252), (.slice A_252 n_252 c_252)] agg46 sz46 rfl (cell2 hp_252 hq_252)) rfl rfl ?_
            refine sOp rfl (oStore [(.bool g_252), (.slice A_252 n_252 c_252)] rfl rfl rfl sz46 rfl hB188 (Nat.le_of_ble_eq_true rfl) ?_)
            intro w254 hU255 hz256 hB257
            replace hB257 : Blk w254 g168 46 [(.bool g_252), (.slice A_252 n_252 c_252)] := hB257
            refine sDone ?_
            refine xN (hK246 _ _ ?_)
            refine wp_region_lit ?_
            refine sEv (v := (.slice (some ⟨g9, 0, none⟩) (max nf ng) (max nf ng))) (rfl) rfl rfl ?_
            refine sEv (v := (.int .i64 ((k : Int)))) (rfl) rfl rfl ?_
            refine sEv (v := (.func (.func 56) #[] #[])) (rfl) rfl rfl ?_
            have hB258 := (hB183.frm (hU186.trans hU255) q1)
            refine sEv (v := (.agg #[(.bool false), (.slice none 0 0)])) (evLoadAB [(.bool false), (.slice none 0 0)] agg46 sz46 rfl hB258 rfl) rfl rfl ?_
            refine sEv (v := (.agg #[(.bool g_252), (.slice A_252 n_252 c_252)])) (evLoadAB [(.bool g_252), (.slice A_252 n_252 c_252)] agg46 sz46 rfl hB257 rfl) rfl rfl ?_
            have h259 := (h_252.frmB hU255 q3)
            refine sOp rfl (oCall rfl call56 (integer_Add (NatR.nil (S := fun _ => True)) h259 (by omega) (by omega)) rfl ?_)
            rintro _ w261 ⟨gr_260, Ar_260, nr_260, cr_260, dr_260, rfl, hE262, hr_260, v_260, cn_260, le_260⟩
            have hz263 := hE262.size
            have lr_260 := hr_260.len; have kr_260 := hr_260.cap; have mr_260 := hr_260.max
            refine sEv (v := (.pointer (some ⟨g9, k * 2, none⟩))) (evIndex k Try.underlying23 sz46 rfl rfl (by omega) (by omega) (k * 2) (by omega)) rfl rfl ?_
            have hB265 := (hB28.frm (((((((Frm.of_ext (G := fun b => (b = g174) ∨ (b = g168)) hE46).trans (Frm.of_ext (G := fun b => (b = g174) ∨ (b = g168)) hE171)).trans (Frm.of_ext (G := fun b => (b = g174) ∨ (b = g168)) hE177)).trans (hU181.mono (G' := fun b => (b = g174) ∨ (b = g168)) fun _ _ h => .inl h)).trans (hU186.mono (G' := fun b => (b = g174) ∨ (b = g168)) fun _ _ h => .inr h)).trans (hU255.mono (G' := fun b => (b = g174) ∨ (b = g168)) fun _ _ h => .inr h)).trans (Frm.of_ext (G := fun b => (b = g174) ∨ (b = g168)) hE262)) q1)
            refine sOp rfl (oStore [(.bool gr_260), (.slice Ar_260 nr_260 cr_260)] rfl rfl rfl sz46 rfl hB265 (by rw [cellsI_len]; simp only [List.length_cons, List.length_nil]; exact lq) ?_)
            intro w266 hU267 hz268 hB269
            replace hB269 := (cellsI_set (l := L ++ List.replicate (max nf ng - k) RI.zero) (i := k) ⟨gr_260, Ar_260, nr_260, cr_260, dr_260⟩ (by exact lq)) ▸ hB269
            replace hB269 : Blk w266 g9 46 (cellsI ((L ++ [⟨gr_260, Ar_260, nr_260, cr_260, dr_260⟩]) ++ List.replicate (max nf ng - (k + 1)) RI.zero)) := (fillI_set hL (by omega) : (L ++ List.replicate (max nf ng - k) RI.zero).set k ⟨gr_260, Ar_260, nr_260, cr_260, dr_260⟩ = (L ++ [⟨gr_260, Ar_260, nr_260, cr_260, dr_260⟩]) ++ List.replicate (max nf ng - (k + 1)) RI.zero) ▸ hB269
            refine sDone ?_
            refine bN ?_
            refine xN (hK42 _ _ ?_)
            refine wp_region_lit ?_
            refine sEv (v := (.int .i64 (((k : Int)) + 1))) (evAdd (((k : Int)) + 1) rfl rfl (wI64 (by omega))) rfl rfl ?_
            refine sEv (v := (.int .i64 (((k : Int)) + 1))) (rfl) rfl rfl ?_
            refine sDone ?_
            have h270 := (hA.frmB ((((((((Frm.of_ext (G := fun b => (b = g174) ∨ (b = g168) ∨ (b = g9)) hE46).trans (Frm.of_ext (G := fun b => (b = g174) ∨ (b = g168) ∨ (b = g9)) hE171)).trans (Frm.of_ext (G := fun b => (b = g174) ∨ (b = g168) ∨ (b = g9)) hE177)).trans (hU181.mono (G' := fun b => (b = g174) ∨ (b = g168) ∨ (b = g9)) fun _ _ h => .inl h)).trans (hU186.mono (G' := fun b => (b = g174) ∨ (b = g168) ∨ (b = g9)) fun _ _ h => .inr (.inl h))).trans (hU255.mono (G' := fun b => (b = g174) ∨ (b = g168) ∨ (b = g9)) fun _ _ h => .inr (.inl h))).trans (Frm.of_ext (G := fun b => (b = g174) ∨ (b = g168) ∨ (b = g9)) hE262)).trans (hU267.mono (G' := fun b => (b = g174) ∨ (b = g168) ∨ (b = g9)) fun _ _ h => .inr (.inr h))) q3)
            have h271 := (hr_260.frmB hU267 q3)
            refine again (max nf ng - (k + 1)) (by omega) ⟨(k + 1), (L ++ [⟨gr_260, Ar_260, nr_260, cr_260, dr_260⟩]), rfl, rfl, rfl, rfl, rfl, rfl, rfl, (congrArg (Value.int .i64) (by omega)), (Frm.mono (((((((((hF27.mono (G' := fun b => (b = g9) ∨ (b = g174) ∨ (b = g168)) fun _ _ h => .inl h).trans (Frm.of_ext (G := fun b => (b = g9) ∨ (b = g174) ∨ (b = g168)) hE46)).trans (Frm.of_ext (G := fun b => (b = g9) ∨ (b = g174) ∨ (b = g168)) hE171)).trans (Frm.of_ext (G := fun b => (b = g9) ∨ (b = g174) ∨ (b = g168)) hE177)).trans (hU181.mono (G' := fun b => (b = g9) ∨ (b = g174) ∨ (b = g168)) fun _ _ h => .inr (.inl h))).trans (hU186.mono (G' := fun b => (b = g9) ∨ (b = g174) ∨ (b = g168)) fun _ _ h => .inr (.inr h))).trans (hU255.mono (G' := fun b => (b = g9) ∨ (b = g174) ∨ (b = g168)) fun _ _ h => .inr (.inr h))).trans (Frm.of_ext (G := fun b => (b = g9) ∨ (b = g174) ∨ (b = g168)) hE262)).trans (hU267.mono (G' := fun b => (b = g9) ∨ (b = g174) ∨ (b = g168)) fun _ _ h => .inl h)) q4), ?_, ?_, ?_, ?_, ?_, ?_⟩
            · exact hB269
            · omega
            · simp [hL]
            · exact AllN.snoc h270 (NatR.sub h271 q5) (by (try dsimp only); omega)
            · exact zs_snoc hz (by show zval _ _ = _; rw [v_260]; exact cadd hzf245 z_252)
            · exact AllC.snoc hC cn_260
          · refine sEv (v := (.bool false)) (evLss false rfl rfl (dF hc248)) rfl rfl ?_
            have hzf272 : zval false [] = co (zs lg) k := by rw [zval_nil, co_ge (by simp; omega)]
            refine sDone ?_
            refine xN (hK247 _ _ ?_)
            refine cF rfl ?_
            refine wp_skip ?_
            refine xN (hK246 _ _ ?_)
            refine wp_region_lit ?_
            refine sEv (v := (.slice (some ⟨g9, 0, none⟩) (max nf ng) (max nf ng))) (rfl) rfl rfl ?_
            refine sEv (v := (.int .i64 ((k : Int)))) (rfl) rfl rfl ?_
            refine sEv (v := (.func (.func 56) #[] #[])) (rfl) rfl rfl ?_
            have hB273 := (hB183.frm hU186 q1)
            refine sEv (v := (.agg #[(.bool false), (.slice none 0 0)])) (evLoadAB [(.bool false), (.slice none 0 0)] agg46 sz46 rfl hB273 rfl) rfl rfl ?_
            refine sEv (v := (.agg #[(.bool false), (.slice none 0 0)])) (evLoadAB [(.bool false), (.slice none 0 0)] agg46 sz46 rfl hB188 rfl) rfl rfl ?_
            refine sOp rfl (oCall rfl call56 (integer_Add (NatR.nil (S := fun _ => True)) (NatR.nil (S := fun _ => True)) (by omega) (by omega)) rfl ?_)
            rintro _ w275 ⟨gr_274, Ar_274, nr_274, cr_274, dr_274, rfl, hE276, hr_274, v_274, cn_274, le_274⟩
            have hz277 := hE276.size
            have lr_274 := hr_274.len; have kr_274 := hr_274.cap; have mr_274 := hr_274.max
            refine sEv (v := (.pointer (some ⟨g9, k * 2, none⟩))) (evIndex k Try.underlying23 sz46 rfl rfl (by omega) (by omega) (k * 2) (by omega)) rfl rfl ?_
            have hB279 := (hB28.frm ((((((Frm.of_ext (G := fun b => (b = g174) ∨ (b = g168)) hE46).trans (Frm.of_ext (G := fun b => (b = g174) ∨ (b = g168)) hE171)).trans (Frm.of_ext (G := fun b => (b = g174) ∨ (b = g168)) hE177)).trans (hU181.mono (G' := fun b => (b = g174) ∨ (b = g168)) fun _ _ h => .inl h)).trans (hU186.mono (G' := fun b => (b = g174) ∨ (b = g168)) fun _ _ h => .inr h)).trans (Frm.of_ext (G := fun b => (b = g174) ∨ (b = g168)) hE276)) q1)
            refine sOp rfl (oStore [(.bool gr_274), (.slice Ar_274 nr_274 cr_274)] rfl rfl rfl sz46 rfl hB279 (by rw [cellsI_len]; simp only [List.length_cons, List.length_nil]; exact lq) ?_)
            intro w280 hU281 hz282 hB283
            replace hB283 := (cellsI_set (l := L ++ List.replicate (max nf ng - k) RI.zero) (i := k) ⟨gr_274, Ar_274, nr_274, cr_274, dr_274⟩ (by exact lq)) ▸ hB283
            replace hB283 : Blk w280 g9 46 (cellsI ((L ++ [⟨gr_274, Ar_274, nr_274, cr_274, dr_274⟩]) ++ List.replicate (max nf ng - (k + 1)) RI.zero)) := (fillI_set hL (by omega) : (L ++ List.replicate (max nf ng - k) RI.zero).set k ⟨gr_274, Ar_274, nr_274, cr_274, dr_274⟩ = (L ++ [⟨gr_274, Ar_274, nr_274, cr_274, dr_274⟩]) ++ List.replicate (max nf ng - (k + 1)) RI.zero) ▸ hB283
            refine sDone ?_
            refine bN ?_
            refine xN (hK42 _ _ ?_)
            refine wp_region_lit ?_
            refine sEv (v := (.int .i64 (((k : Int)) + 1))) (evAdd (((k : Int)) + 1) rfl rfl (wI64 (by omega))) rfl rfl ?_
            refine sEv (v := (.int .i64 (((k : Int)) + 1))) (rfl) rfl rfl ?_
            refine sDone ?_
            have h284 := (hA.frmB (((((((Frm.of_ext (G := fun b => (b = g174) ∨ (b = g168) ∨ (b = g9)) hE46).trans (Frm.of_ext (G := fun b => (b = g174) ∨ (b = g168) ∨ (b = g9)) hE171)).trans (Frm.of_ext (G := fun b => (b = g174) ∨ (b = g168) ∨ (b = g9)) hE177)).trans (hU181.mono (G' := fun b => (b = g174) ∨ (b = g168) ∨ (b = g9)) fun _ _ h => .inl h)).trans (hU186.mono (G' := fun b => (b = g174) ∨ (b = g168) ∨ (b = g9)) fun _ _ h => .inr (.inl h))).trans (Frm.of_ext (G := fun b => (b = g174) ∨ (b = g168) ∨ (b = g9)) hE276)).trans (hU281.mono (G' := fun b => (b = g174) ∨ (b = g168) ∨ (b = g9)) fun _ _ h => .inr (.inr h))) q3)
            have h285 := (hr_274.frmB hU281 q3)
            refine again (max nf ng - (k + 1)) (by omega) ⟨(k + 1), (L ++ [⟨gr_274, Ar_274, nr_274, cr_274, dr_274⟩]), rfl, rfl, rfl, rfl, rfl, rfl, rfl, (congrArg (Value.int .i64) (by omega)), (Frm.mono ((((((((hF27.mono (G' := fun b => (b = g9) ∨ (b = g174) ∨ (b = g168)) fun _ _ h => .inl h).trans (Frm.of_ext (G := fun b => (b = g9) ∨ (b = g174) ∨ (b = g168)) hE46)).trans (Frm.of_ext (G := fun b => (b = g9) ∨ (b = g174) ∨ (b = g168)) hE171)).trans (Frm.of_ext (G := fun b => (b = g9) ∨ (b = g174) ∨ (b = g168)) hE177)).trans (hU181.mono (G' := fun b => (b = g9) ∨ (b = g174) ∨ (b = g168)) fun _ _ h => .inr (.inl h))).trans (hU186.mono (G' := fun b => (b = g9) ∨ (b = g174) ∨ (b = g168)) fun _ _ h => .inr (.inr h))).trans (Frm.of_ext (G := fun b => (b = g9) ∨ (b = g174) ∨ (b = g168)) hE276)).trans (hU281.mono (G' := fun b => (b = g9) ∨ (b = g174) ∨ (b = g168)) fun _ _ h => .inl h)) q4), ?_, ?_, ?_, ?_, ?_, ?_⟩
            · exact hB283
            · omega
            · simp [hL]
            · exact AllN.snoc h284 (NatR.sub h285 q5) (by (try dsimp only); omega)
            · exact zs_snoc hz (by show zval _ _ = _; rw [v_274]; exact cadd hzf245 hzf272)
            · exact AllC.snoc hC cn_274
    · refine sEv (v := (.bool false)) (evLss false rfl rfl (dF hc40)) rfl rfl ?_
      refine sDone ?_
      refine xN (hK39 _ _ ?_)
      refine wp_seq_k fun K286 hK286 => ?_
      refine cF rfl ?_
      refine wp_exit (xE (xE (bE ?_)))
      refine xN (hK16 _ _ ?_)
      refine wp_seq_k fun K287 hK287 => ?_
      refine wp_region_lit ?_
      refine sEv (v := (.slice (some ⟨g9, 0, none⟩) (max nf ng) (max nf ng))) (rfl) rfl rfl ?_
      refine sEv (v := (.slice (some ⟨g9, 0, none⟩) (max nf ng) (max nf ng))) (rfl) rfl rfl ?_
      refine sDone ?_
      refine xN (hK287 _ _ ?_)
      refine wp_ret ?_
      refine ret1 (.slice (some ⟨g9, 0, none⟩) (max nf ng) (max nf ng)) Try.results71 (resT rfl) ?_
      have h288 : PolyR w19 (fun b => g9 ≤ b) (some ⟨g9, 0, none⟩) (max nf ng) (max nf ng) (L ++ List.replicate (max nf ng - k) RI.zero) (Mf + Mg + 1) := PolyR.of_blk hB28 (AllN.app (AllN.sub hA q5) (AllN.zeros _)) (by (try dsimp only); omega) (by exact lq) (by omega) (by unfold CapMax; omega)
      exact ⟨(some ⟨g9, 0, none⟩), (max nf ng), (max nf ng), (L ++ List.replicate (max nf ng - k) RI.zero), rfl, (Frm.mono (((Frm.of_ext (G := fun b => (b = g9)) hE5).trans (Frm.of_ext (G := fun b => (b = g9)) hE12)).trans hF27) q4), (PolyR.le (PolyR.sub h288 q5) (by omega)), (by rw [show max nf ng - k = 0 by omega, List.replicate_zero, List.append_nil, hz]; unfold padd; congr 2; simp; omega), rfl, (AllC.app hC (AllC.zeros _))⟩

theorem unipoly_combine_Sub {w : World} {Sf : Nat → Prop} {Af : Option Addr} {nf cf Mf : Nat} {lf : List RI} {Sg : Nat → Prop} {Ag : Option Addr} {ng cg Mg : Nat} {lg : List RI}   (hf : PolyR w Sf Af nf cf lf Mf) (hg : PolyR w Sg Ag ng cg lg Mg) (hnf : nf ≤ 1048576) (hng : ng ≤ 1048576) (hMf : Mf ≤ 1073741824) (hMg : Mg ≤ 1073741824) : Calls Try.prog 71 #[(.slice Af nf cf), (.slice Ag ng cg), (.agg #[(.bool false), (.slice none 0 0)]), (.func (.func 72) #[] #[])] w (Ret fun v w' => ∃ (Ar : Option Addr) (nr : Nat) (cr : Nat) (lr : List RI), v = (.slice Ar nr cr) ∧ Ext w w' ∧ PolyR w' (fun b => w.heap.size ≤ b) Ar nr cr lr (Mf + Mg + 1) ∧ (zs lr = psub (zs lf) (zs lg)) ∧ (nr = max nf ng) ∧ (AllC lr)) := by
  have kf := hf.len; have jf := hf.cap; have mf := hf.max
  replace hf := hf.low
  have kg := hg.len; have jg := hg.cap; have mg := hg.max
  replace hg := hg.low
  refine enter Try.func71 rfl Try.ntmps71 rfl ?_
  refine wp_seq_k fun K1 hK1 => ?_
  refine wp_region_lit ?_
  refine sOp rfl (oBox [(.bool false), (.slice none 0 0)] rfl rfl ?_)
  intro g2 w3 hg4 hE5 hz6 hB7
  refine sEv (v := (.slice none 0 0)) (rfl) rfl rfl ?_
  refine sDone ?_
  refine xN (hK1 _ _ ?_)
  refine wp_seq_k fun K8 hK8 => ?_
  refine wp_region_lit ?_
  refine sEv (v := (.slice Af nf cf)) (rfl) rfl rfl ?_
  refine sEv (v := (.int .i64 ((nf : Int)))) (evLen Try.underlying23 rfl) rfl rfl ?_
  refine sEv (v := (.slice Ag ng cg)) (rfl) rfl rfl ?_
  refine sEv (v := (.int .i64 ((ng : Int)))) (evLen Try.underlying23 rfl) rfl rfl ?_
  refine sEv (v := (.int .i64 (((max nf ng : Nat) : Int)))) (evMax (((max nf ng : Nat) : Int)) rfl rfl (maxN)) rfl rfl ?_
  refine sOp rfl (oMake2 (max nf ng) Try.underlying23 inf46 (congrArg (Value.int .i64) (by omega)) (congrArg (Value.int .i64) (by omega)) (by omega) (by omega) ?_)
  intro g9 w10 hg11 hE12 hz13 hB14
  have hB15 : Blk w10 g9 46 (cellsI (List.replicate (max nf ng) RI.zero)) := hB14
  refine sEv (v := (.slice (some ⟨g9, 0, none⟩) (max nf ng) (max nf ng))) (rfl) rfl rfl ?_
  refine sDone ?_
  refine xN (hK8 _ _ ?_)
  refine wp_seq_k fun K16 hK16 => ?_
  refine wp_seq_k fun K17 hK17 => ?_
  refine wp_region_lit ?_
  refine sEv (v := (.slice (some ⟨g9, 0, none⟩) (max nf ng) (max nf ng))) (rfl) rfl rfl ?_
  refine sEv (v := (.int .i64 (((max nf ng : Nat) : Int)))) (evLen Try.underlying23 rfl) rfl rfl ?_
  refine sEv (v := (.int .i64 (0))) (rfl) rfl rfl ?_
  refine sDone ?_
  refine xN (hK17 _ _ ?_)
  refine wp_block ?_
  refine lLoop (fun m e w_ => ∃ (k : Nat) (L : List RI), m = max nf ng - k ∧ e 0 = (.slice Af nf cf) ∧ e 1 = (.slice Ag ng cg) ∧ e 3 = (.func (.func 72) #[] #[]) ∧ e 6 = (.pointer (some ⟨g2, 0, none⟩)) ∧ e 9 = (.slice (some ⟨g9, 0, none⟩) (max nf ng) (max nf ng)) ∧ e 20 = (.int .i64 (((max nf ng : Nat) : Int))) ∧ e 21 = (.int .i64 ((k : Int))) ∧ Frm (fun b => b = g9) w10 w_ ∧ Blk w_ g9 46 (cellsI (L ++ List.replicate (max nf ng - k) RI.zero)) ∧ (k ≤ max nf ng) ∧ (L.length = k) ∧ (AllN w_ (fun b => g9 < b) (Mf + Mg + 1) L) ∧ (zs L = (List.range k).map (fun i => co (zs lf) i - co (zs lg) i)) ∧ (AllC L)) (max nf ng - (0)) ?_ ?_
  · refine ⟨(0), ([]), rfl, rfl, rfl, rfl, rfl, rfl, rfl, (congrArg (Value.int .i64) (by omega)), (Frm.refl _ _), ?_, ?_, ?_, ?_, ?_, ?_⟩
    · simpa using hB15
    · omega
    · rfl
    · exact AllN.nil
    · rfl
    · exact AllC.nil
  · rintro m18 e30 w19 ⟨k, L, hm29, hs20, hs21, hs22, hs23, hs24, hs25, hs26, hF27, hB28, hk, hL, hA, hz, hC⟩
    obtain ⟨r31, rfl⟩ := sq (e := e30) (t := 0) hs20
    obtain ⟨r32, rfl⟩ := sq (e := r31) (t := 1) hs21
    obtain ⟨r33, rfl⟩ := sq (e := r32) (t := 3) hs22
    obtain ⟨r34, rfl⟩ := sq (e := r33) (t := 6) hs23
    obtain ⟨r35, rfl⟩ := sq (e := r34) (t := 9) hs24
    obtain ⟨r36, rfl⟩ := sq (e := r35) (t := 20) hs25
    obtain ⟨r37, rfl⟩ := sq (e := r36) (t := 21) hs26
    have hz38 := hF27.size
    refine wp_seq_k fun K39 hK39 => ?_
    refine wp_region_lit ?_
    by_cases hc40 : ((k : Int)) < (((max nf ng : Nat) : Int))
    · refine sEv (v := (.bool true)) (evLss true rfl rfl (dT hc40)) rfl rfl ?_
      refine sDone ?_
      refine xN (hK39 _ _ ?_)
      refine wp_seq_k fun K41 hK41 => ?_
      refine cT rfl ?_
      refine wp_skip ?_
      refine xN (hK41 _ _ ?_)
      refine wp_seq_k fun K42 hK42 => ?_
      refine wp_block ?_
      refine wp_seq_k fun K43 hK43 => ?_
      refine wp_region_lit ?_
      refine sEv (v := (.int .i64 ((k : Int)))) (rfl) rfl rfl ?_
      refine sEv (v := (.int .i64 ((k : Int)))) (rfl) rfl rfl ?_
      refine sDone ?_
      refine xN (hK43 _ _ ?_)
      refine wp_seq_k fun K44 hK44 => ?_
      refine dBegin (fun b => w19.heap.size ≤ b) mixed ?_
      intro w45 hE46 hz47
      have hB48 := (hB7.frm (((Frm.of_ext (G := fun b => (b = g9)) hE12).trans hF27).trans (Frm.of_ext (G := fun b => (b = g9)) hE46)) q1)
      refine dEv 0 rfl (v := (.agg #[(.bool false), (.slice none 0 0)])) (fun _ hf => evLoadAB [(.bool false), (.slice none 0 0)] agg46 sz46 rfl (hB48.frm hf q1) rfl) rfl rfl (by kernel_rfl) ?_
      refine dEv 1 rfl (v := (.agg #[(.bool false), (.slice none 0 0)])) (fun _ hf => evLoadAB [(.bool false), (.slice none 0 0)] agg46 sz46 rfl (hB48.frm hf q1) rfl) rfl rfl (by kernel_rfl) ?_
      refine dTwo 2 3 (by kernel_rfl) ?_ ?_
      · refine dWp (i := 2) rfl rfl (oAlloc [(.bool false), (.slice none 0 0)] zero46 rfl ?_)
        intro g49 w50 hg51 hE52 hz53 hB54
        refine ⟨(Frm.of_ext hE52), ?_⟩
        refine dOp 3 rfl rfl (by kernel_rfl) (oAlloc [(.bool false), (.slice none 0 0)] zero46 rfl ?_)
        intro g55 w56 hg57 hE58 hz59 hB60
        refine ⟨(Frm.of_ext hE58), ?_⟩
        have hB61 := (hB54.ext hE58)
        refine dOp 4 rfl rfl (by kernel_rfl) (oStore [(.bool false), (.slice none 0 0)] rfl rfl rfl sz46 rfl hB61 (Nat.le_of_ble_eq_true rfl) ?_)
        intro w62 hU63 hz64 hB65
        replace hB65 : Blk w62 g49 46 [(.bool false), (.slice none 0 0)] := hB65
        refine ⟨(hU63.mono q4), ?_⟩
        have hB66 := (hB60.frm hU63 q1)
        refine dOp 5 rfl rfl (by kernel_rfl) (oStore [(.bool false), (.slice none 0 0)] rfl rfl rfl sz46 rfl hB66 (Nat.le_of_ble_eq_true rfl) ?_)
        intro w67 hU68 hz69 hB70
        replace hB70 : Blk w67 g55 46 [(.bool false), (.slice none 0 0)] := hB70
        refine ⟨(hU68.mono q4), ?_⟩
        refine dDone (by kernel_rfl) ?_
        refine xN (hK44 _ _ ?_)
        refine wp_seq_k fun K71 hK71 => ?_
        refine wp_seq_k fun K72 hK72 => ?_
        refine wp_region_lit ?_
        refine sEv (v := (.int .i64 ((k : Int)))) (rfl) rfl rfl ?_
        refine sEv (v := (.slice Af nf cf)) (rfl) rfl rfl ?_
        refine sEv (v := (.int .i64 ((nf : Int)))) (evLen Try.underlying23 rfl) rfl rfl ?_
        by_cases hc73 : ((k : Int)) < ((nf : Int))
        · refine sEv (v := (.bool true)) (evLss true rfl rfl (dT hc73)) rfl rfl ?_
          refine sDone ?_
          refine xN (hK72 _ _ ?_)
          refine cT rfl ?_
          refine wp_region_lit ?_
          refine sEv (v := (.slice Af nf cf)) (rfl) rfl rfl ?_
          refine sEv (v := (.int .i64 ((k : Int)))) (rfl) rfl rfl ?_
          have h74 := (hf.frmB ((((((((Frm.of_ext (G := fun b => (b = g9) ∨ (b = g49) ∨ (b = g55)) hE5).trans (Frm.of_ext (G := fun b => (b = g9) ∨ (b = g49) ∨ (b = g55)) hE12)).trans (hF27.mono (G' := fun b => (b = g9) ∨ (b = g49) ∨ (b = g55)) fun _ _ h => .inl h)).trans (Frm.of_ext (G := fun b => (b = g9) ∨ (b = g49) ∨ (b = g55)) hE46)).trans (Frm.of_ext (G := fun b => (b = g9) ∨ (b = g49) ∨ (b = g55)) hE52)).trans (Frm.of_ext (G := fun b => (b = g9) ∨ (b = g49) ∨ (b = g55)) hE58)).trans (hU63.mono (G' := fun b => (b = g9) ∨ (b = g49) ∨ (b = g55)) fun _ _ h => .inr (.inl h))).trans (hU68.mono (G' := fun b => (b = g9) ∨ (b = g49) ∨ (b = g55)) fun _ _ h => .inr (.inr h))) q3)
          obtain ⟨b75, o76, rfl⟩ := h74.base (by omega)
          refine sEv (v := (.pointer (some ⟨b75, o76 + (k * 2), none⟩))) (evIndex k Try.underlying23 sz46 rfl rfl (by omega) (by omega) (o76 + (k * 2)) (by omega)) rfl rfl ?_
          obtain ⟨g_77, A_77, n_77, c_77, d_77, he_77, hp_77, hq_77, h_77, hM_77, hS_77, hb_77, z_77⟩ := h74.at_ (i := k) (by omega)
          have l_77 := h_77.len; have k_77 := h_77.cap; have m_77 := h_77.max
          refine sEv (v := (.agg #[(.bool g_77), (.slice A_77 n_77 c_77)])) (evLoadA [(.bool g_77), (.slice A_77 n_77 c_77)] agg46 sz46 rfl (cell2 hp_77 hq_77)) rfl rfl ?_
          have hB79 := (hB65.frm hU68 q1)
          refine sOp rfl (oStore [(.bool g_77), (.slice A_77 n_77 c_77)] rfl rfl rfl sz46 rfl hB79 (Nat.le_of_ble_eq_true rfl) ?_)
          intro w80 hU81 hz82 hB83
          replace hB83 : Blk w80 g49 46 [(.bool g_77), (.slice A_77 n_77 c_77)] := hB83
          refine sDone ?_
          refine xN (hK71 _ _ ?_)
          refine wp_seq_k fun K84 hK84 => ?_
          refine wp_seq_k fun K85 hK85 => ?_
          refine wp_region_lit ?_
          refine sEv (v := (.int .i64 ((k : Int)))) (rfl) rfl rfl ?_
          refine sEv (v := (.slice Ag ng cg)) (rfl) rfl rfl ?_
          refine sEv (v := (.int .i64 ((ng : Int)))) (evLen Try.underlying23 rfl) rfl rfl ?_
          by_cases hc86 : ((k : Int)) < ((ng : Int))
          · refine sEv (v := (.bool true)) (evLss true rfl rfl (dT hc86)) rfl rfl ?_
            refine sDone ?_
            refine xN (hK85 _ _ ?_)
            refine cT rfl ?_
            refine wp_region_lit ?_
            refine sEv (v := (.slice Ag ng cg)) (rfl) rfl rfl ?_
            refine sEv (v := (.int .i64 ((k : Int)))) (rfl) rfl rfl ?_
            have h87 := (hg.frmB (((((((((Frm.of_ext (G := fun b => (b = g9) ∨ (b = g49) ∨ (b = g55)) hE5).trans (Frm.of_ext (G := fun b => (b = g9) ∨ (b = g49) ∨ (b = g55)) hE12)).trans (hF27.mono (G' := fun b => (b = g9) ∨ (b = g49) ∨ (b = g55)) fun _ _ h => .inl h)).trans (Frm.of_ext (G := fun b => (b = g9) ∨ (b = g49) ∨ (b = g55)) hE46)).trans (Frm.of_ext (G := fun b => (b = g9) ∨ (b = g49) ∨ (b = g55)) hE52)).trans (Frm.of_ext (G := fun b => (b = g9) ∨ (b = g49) ∨ (b = g55)) hE58)).trans (hU63.mono (G' := fun b => (b = g9) ∨ (b = g49) ∨ (b = g55)) fun _ _ h => .inr (.inl h))).trans (hU68.mono (G' := fun b => (b = g9) ∨ (b = g49) ∨ (b = g55)) fun _ _ h => .inr (.inr h))).trans (hU81.mono (G' := fun b => (b = g9) ∨ (b = g49) ∨ (b = g55)) fun _ _ h => .inr (.inl h))) q3)
            obtain ⟨b88, o89, rfl⟩ := h87.base (by omega)
            refine sEv (v := (.pointer (some ⟨b88, o89 + (k * 2), none⟩))) (evIndex k Try.underlying23 sz46 rfl rfl (by omega) (by omega) (o89 + (k * 2)) (by omega)) rfl rfl ?_
            obtain ⟨g_90, A_90, n_90, c_90, d_90, he_90, hp_90, hq_90, h_90, hM_90, hS_90, hb_90, z_90⟩ := h87.at_ (i := k) (by omega)
            have l_90 := h_90.len; have k_90 := h_90.cap; have m_90 := h_90.max
            refine sEv (v := (.agg #[(.bool g_90), (.slice A_90 n_90 c_90)])) (evLoadA [(.bool g_90), (.slice A_90 n_90 c_90)] agg46 sz46 rfl (cell2 hp_90 hq_90)) rfl rfl ?_
            have hB92 := (hB70.frm hU81 q1)
            refine sOp rfl (oStore [(.bool g_90), (.slice A_90 n_90 c_90)] rfl rfl rfl sz46 rfl hB92 (Nat.le_of_ble_eq_true rfl) ?_)
            intro w93 hU94 hz95 hB96
            replace hB96 : Blk w93 g55 46 [(.bool g_90), (.slice A_90 n_90 c_90)] := hB96
            refine sDone ?_
            refine xN (hK84 _ _ ?_)
            refine wp_region_lit ?_
            refine sEv (v := (.slice (some ⟨g9, 0, none⟩) (max nf ng) (max nf ng))) (rfl) rfl rfl ?_
            refine sEv (v := (.int .i64 ((k : Int)))) (rfl) rfl rfl ?_
            refine sEv (v := (.func (.func 72) #[] #[])) (rfl) rfl rfl ?_
            have hB97 := (hB83.frm hU94 q1)
            refine sEv (v := (.agg #[(.bool g_77), (.slice A_77 n_77 c_77)])) (evLoadAB [(.bool g_77), (.slice A_77 n_77 c_77)] agg46 sz46 rfl hB97 rfl) rfl rfl ?_
            refine sEv (v := (.agg #[(.bool g_90), (.slice A_90 n_90 c_90)])) (evLoadAB [(.bool g_90), (.slice A_90 n_90 c_90)] agg46 sz46 rfl hB96 rfl) rfl rfl ?_
            have h98 := (h_77.frmB ((hU81.mono (G' := fun b => (b = g49) ∨ (b = g55)) fun _ _ h => .inl h).trans (hU94.mono (G' := fun b => (b = g49) ∨ (b = g55)) fun _ _ h => .inr h)) q3)
            have h99 := (h_90.frmB hU94 q3)
            refine sOp rfl (oCall rfl call72 (integer_Sub h98 h99 (by omega) (by omega)) rfl ?_)
            rintro _ w101 ⟨gr_100, Ar_100, nr_100, cr_100, dr_100, rfl, hE102, hr_100, v_100, cn_100, le_100⟩
            have hz103 := hE102.size
            have lr_100 := hr_100.len; have kr_100 := hr_100.cap; have mr_100 := hr_100.max
            refine sEv (v := (.pointer (some ⟨g9, k * 2, none⟩))) (evIndex k Try.underlying23 sz46 rfl rfl (by omega) (by omega) (k * 2) (by omega)) rfl rfl ?_
            have hB105 := (hB28.frm ((((((((Frm.of_ext (G := fun b => (b = g49) ∨ (b = g55)) hE46).trans (Frm.of_ext (G := fun b => (b = g49) ∨ (b = g55)) hE52)).trans (Frm.of_ext (G := fun b => (b = g49) ∨ (b = g55)) hE58)).trans (hU63.mono (G' := fun b => (b = g49) ∨ (b = g55)) fun _ _ h => .inl h)).trans (hU68.mono (G' := fun b => (b = g49) ∨ (b = g55)) fun _ _ h => .inr h)).trans (hU81.mono (G' := fun b => (b = g49) ∨ (b = g55)) fun _ _ h => .inl h)).trans (hU94.mono (G' := fun b => (b = g49) ∨ (b = g55)) fun _ _ h => .inr h)).trans (Frm.of_ext (G := fun b => (b = g49) ∨ (b = g55)) hE102)) q1)
            refine sOp rfl (oStore [(.bool gr_100), (.slice Ar_100 nr_100 cr_100)] rfl rfl rfl sz46 rfl hB105 (by rw [cellsI_len]; simp only [List.length_cons, List.length_nil]; exact lq) ?_)
            intro w106 hU107 hz108 hB109
            replace hB109 := (cellsI_set (l := L ++ List.replicate (max nf ng - k) RI.zero) (i := k) ⟨gr_100, Ar_100, nr_100, cr_100, dr_100⟩ (by exact lq)) ▸ hB109
            replace hB109 : Blk w106 g9 46 (cellsI ((L ++ [⟨gr_100, Ar_100, nr_100, cr_100, dr_100⟩]) ++ List.replicate (max nf ng - (k + 1)) RI.zero)) := (fillI_set hL (by omega) : (L ++ List.replicate (max nf ng - k) RI.zero).set k ⟨gr_100, Ar_100, nr_100, cr_100, dr_100⟩ = (L ++ [⟨gr_100, Ar_100, nr_100, cr_100, dr_100⟩]) ++ List.replicate (max nf ng - (k + 1)) RI.zero) ▸ hB109
            refine sDone ?_
            refine bN ?_
            refine xN (hK42 _ _ ?_)
            refine wp_region_lit ?_
            refine sEv (v := (.int .i64 (((k : Int)) + 1))) (evAdd (((k : Int)) + 1) rfl rfl (wI64 (by omega))) rfl rfl ?_
            refine sEv (v := (.int .i64 (((k : Int)) + 1))) (rfl) rfl rfl ?_
            refine sDone ?_
            have h110 := (hA.frmB (((((((((Frm.of_ext (G := fun b => (b = g49) ∨ (b = g55) ∨ (b = g9)) hE46).trans (Frm.of_ext (G := fun b => (b = g49) ∨ (b = g55) ∨ (b = g9)) hE52)).trans (Frm.of_ext (G := fun b => (b = g49) ∨ (b = g55) ∨ (b = g9)) hE58)).trans (hU63.mono (G' := fun b => (b = g49) ∨ (b = g55) ∨ (b = g9)) fun _ _ h => .inl h)).trans (hU68.mono (G' := fun b => (b = g49) ∨ (b = g55) ∨ (b = g9)) fun _ _ h => .inr (.inl h))).trans (hU81.mono (G' := fun b => (b = g49) ∨ (b = g55) ∨ (b = g9)) fun _ _ h => .inl h)).trans (hU94.mono (G' := fun b => (b = g49) ∨ (b = g55) ∨ (b = g9)) fun _ _ h => .inr (.inl h))).trans (Frm.of_ext (G := fun b => (b = g49) ∨ (b = g55) ∨ (b = g9)) hE102)).trans (hU107.mono (G' := fun b => (b = g49) ∨ (b = g55) ∨ (b = g9)) fun _ _ h => .inr (.inr h))) q3)
            have h111 := (hr_100.frmB hU107 q3)
            refine again (max nf ng - (k + 1)) (by omega) ⟨(k + 1), (L ++ [⟨gr_100, Ar_100, nr_100, cr_100, dr_100⟩]), rfl, rfl, rfl, rfl, rfl, rfl, rfl, (congrArg (Value.int .i64) (by omega)), (Frm.mono ((((((((((hF27.mono (G' := fun b => (b = g9) ∨ (b = g49) ∨ (b = g55)) fun _ _ h => .inl h).trans (Frm.of_ext (G := fun b => (b = g9) ∨ (b = g49) ∨ (b = g55)) hE46)).trans (Frm.of_ext (G := fun b => (b = g9) ∨ (b = g49) ∨ (b = g55)) hE52)).trans (Frm.of_ext (G := fun b => (b = g9) ∨ (b = g49) ∨ (b = g55)) hE58)).trans (hU63.mono (G' := fun b => (b = g9) ∨ (b = g49) ∨ (b = g55)) fun _ _ h => .inr (.inl h))).trans (hU68.mono (G' := fun b => (b = g9) ∨ (b = g49) ∨ (b = g55)) fun _ _ h => .inr (.inr h))).trans (hU81.mono (G' := fun b => (b = g9) ∨ (b = g49) ∨ (b = g55)) fun _ _ h => .inr (.inl h))).trans (hU94.mono (G' := fun b => (b = g9) ∨ (b = g49) ∨ (b = g55)) fun _ _ h => .inr (.inr h))).trans (Frm.of_ext (G := fun b => (b = g9) ∨ (b = g49) ∨ (b = g55)) hE102)).trans (hU107.mono (G' := fun b => (b = g9) ∨ (b = g49) ∨ (b = g55)) fun _ _ h => .inl h)) q4), ?_, ?_, ?_, ?_, ?_, ?_⟩
            · exact hB109
            · omega
            · simp [hL]
            · exact AllN.snoc h110 (NatR.sub h111 q5) (by (try dsimp only); omega)
            · exact zs_snoc hz (by show zval _ _ = _; rw [v_100]; exact csub z_77 z_90)
            · exact AllC.snoc hC cn_100
          · refine sEv (v := (.bool false)) (evLss false rfl rfl (dF hc86)) rfl rfl ?_
            have hzf112 : zval false [] = co (zs lg) k := by rw [zval_nil, co_ge (by simp; omega)]
            refine sDone ?_
            refine xN (hK85 _ _ ?_)
            refine cF rfl ?_
            refine wp_skip ?_
            refine xN (hK84 _ _ ?_)
            refine wp_region_lit ?_
            refine sEv (v := (.slice (some ⟨g9, 0, none⟩) (max nf ng) (max nf ng))) (rfl) rfl rfl ?_
            refine sEv (v := (.int .i64 ((k : Int)))) (rfl) rfl rfl ?_
            refine sEv (v := (.func (.func 72) #[] #[])) (rfl) rfl rfl ?_
            refine sEv (v := (.agg #[(.bool g_77), (.slice A_77 n_77 c_77)])) (evLoadAB [(.bool g_77), (.slice A_77 n_77 c_77)] agg46 sz46 rfl hB83 rfl) rfl rfl ?_
            have hB113 := (hB70.frm hU81 q1)
            refine sEv (v := (.agg #[(.bool false), (.slice none 0 0)])) (evLoadAB [(.bool false), (.slice none 0 0)] agg46 sz46 rfl hB113 rfl) rfl rfl ?_
            have h114 := (h_77.frmB hU81 q3)
            refine sOp rfl (oCall rfl call72 (integer_Sub h114 (NatR.nil (S := fun _ => True)) (by omega) (by omega)) rfl ?_)
            rintro _ w116 ⟨gr_115, Ar_115, nr_115, cr_115, dr_115, rfl, hE117, hr_115, v_115, cn_115, le_115⟩
            have hz118 := hE117.size
            have lr_115 := hr_115.len; have kr_115 := hr_115.cap; have mr_115 := hr_115.max
            refine sEv (v := (.pointer (some ⟨g9, k * 2, none⟩))) (evIndex k Try.underlying23 sz46 rfl rfl (by omega) (by omega) (k * 2) (by omega)) rfl rfl ?_
            have hB120 := (hB28.frm (((((((Frm.of_ext (G := fun b => (b = g49) ∨ (b = g55)) hE46).trans (Frm.of_ext (G := fun b => (b = g49) ∨ (b = g55)) hE52)).trans (Frm.of_ext (G := fun b => (b = g49) ∨ (b = g55)) hE58)).trans (hU63.mono (G' := fun b => (b = g49) ∨ (b = g55)) fun _ _ h => .inl h)).trans (hU68.mono (G' := fun b => (b = g49) ∨ (b = g55)) fun _ _ h => .inr h)).trans (hU81.mono (G' := fun b => (b = g49) ∨ (b = g55)) fun _ _ h => .inl h)).trans (Frm.of_ext (G := fun b => (b = g49) ∨ (b = g55)) hE117)) q1)
            refine sOp rfl (oStore [(.bool gr_115), (.slice Ar_115 nr_115 cr_115)] rfl rfl rfl sz46 rfl hB120 (by rw [cellsI_len]; simp only [List.length_cons, List.length_nil]; exact lq) ?_)
            intro w121 hU122 hz123 hB124
            replace hB124 := (cellsI_set (l := L ++ List.replicate (max nf ng - k) RI.zero) (i := k) ⟨gr_115, Ar_115, nr_115, cr_115, dr_115⟩ (by exact lq)) ▸ hB124
            replace hB124 : Blk w121 g9 46 (cellsI ((L ++ [⟨gr_115, Ar_115, nr_115, cr_115, dr_115⟩]) ++ List.replicate (max nf ng - (k + 1)) RI.zero)) := (fillI_set hL (by omega) : (L ++ List.replicate (max nf ng - k) RI.zero).set k ⟨gr_115, Ar_115, nr_115, cr_115, dr_115⟩ = (L ++ [⟨gr_115, Ar_115, nr_115, cr_115, dr_115⟩]) ++ List.replicate (max nf ng - (k + 1)) RI.zero) ▸ hB124
            refine sDone ?_
            refine bN ?_
            refine xN (hK42 _ _ ?_)
            refine wp_region_lit ?_
            refine sEv (v := (.int .i64 (((k : Int)) + 1))) (evAdd (((k : Int)) + 1) rfl rfl (wI64 (by omega))) rfl rfl ?_
            refine sEv (v := (.int .i64 (((k : Int)) + 1))) (rfl) rfl rfl ?_
            refine sDone ?_
            have h125 := (hA.frmB ((((((((Frm.of_ext (G := fun b => (b = g49) ∨ (b = g55) ∨ (b = g9)) hE46).trans (Frm.of_ext (G := fun b => (b = g49) ∨ (b = g55) ∨ (b = g9)) hE52)).trans (Frm.of_ext (G := fun b => (b = g49) ∨ (b = g55) ∨ (b = g9)) hE58)).trans (hU63.mono (G' := fun b => (b = g49) ∨ (b = g55) ∨ (b = g9)) fun _ _ h => .inl h)).trans (hU68.mono (G' := fun b => (b = g49) ∨ (b = g55) ∨ (b = g9)) fun _ _ h => .inr (.inl h))).trans (hU81.mono (G' := fun b => (b = g49) ∨ (b = g55) ∨ (b = g9)) fun _ _ h => .inl h)).trans (Frm.of_ext (G := fun b => (b = g49) ∨ (b = g55) ∨ (b = g9)) hE117)).trans (hU122.mono (G' := fun b => (b = g49) ∨ (b = g55) ∨ (b = g9)) fun _ _ h => .inr (.inr h))) q3)
            have h126 := (hr_115.frmB hU122 q3)
            refine again (max nf ng - (k + 1)) (by omega) ⟨(k + 1), (L ++ [⟨gr_115, Ar_115, nr_115, cr_115, dr_115⟩]), rfl, rfl, rfl, rfl, rfl, rfl, rfl, (congrArg (Value.int .i64) (by omega)), (Frm.mono (((((((((hF27.mono (G' := fun b => (b = g9) ∨ (b = g49) ∨ (b = g55)) fun _ _ h => .inl h).trans (Frm.of_ext (G := fun b => (b = g9) ∨ (b = g49) ∨ (b = g55)) hE46)).trans (Frm.of_ext (G := fun b => (b = g9) ∨ (b = g49) ∨ (b = g55)) hE52)).trans (Frm.of_ext (G := fun b => (b = g9) ∨ (b = g49) ∨ (b = g55)) hE58)).trans (hU63.mono (G' := fun b => (b = g9) ∨ (b = g49) ∨ (b = g55)) fun _ _ h => .inr (.inl h))).trans (hU68.mono (G' := fun b => (b = g9) ∨ (b = g49) ∨ (b = g55)) fun _ _ h => .inr (.inr h))).trans (hU81.mono (G' := fun b => (b = g9) ∨ (b = g49) ∨ (b = g55)) fun _ _ h => .inr (.inl h))).trans (Frm.of_ext (G := fun b => (b = g9) ∨ (b = g49) ∨ (b = g55)) hE117)).trans (hU122.mono (G' := fun b => (b = g9) ∨ (b = g49) ∨ (b = g55)) fun _ _ h => .inl h)) q4), ?_, ?_, ?_, ?_, ?_, ?_⟩
            · exact hB124
            · omega
            · simp [hL]
            · exact AllN.snoc h125 (NatR.sub h126 q5) (by (try dsimp only); omega)
            · exact zs_snoc hz (by show zval _ _ = _; rw [v_115]; exact csub z_77 hzf112)
            · exact AllC.snoc hC cn_115
        · refine sEv (v := (.bool false)) (evLss false rfl rfl (dF hc73)) rfl rfl ?_
          have hzf127 : zval false [] = co (zs lf) k := by rw [zval_nil, co_ge (by simp; omega)]
          refine sDone ?_
          refine xN (hK72 _ _ ?_)
          refine cF rfl ?_
          refine wp_skip ?_
          refine xN (hK71 _ _ ?_)
          refine wp_seq_k fun K128 hK128 => ?_
          refine wp_seq_k fun K129 hK129 => ?_
          refine wp_region_lit ?_
          refine sEv (v := (.int .i64 ((k : Int)))) (rfl) rfl rfl ?_
          refine sEv (v := (.slice Ag ng cg)) (rfl) rfl rfl ?_
          refine sEv (v := (.int .i64 ((ng : Int)))) (evLen Try.underlying23 rfl) rfl rfl ?_
          by_cases hc130 : ((k : Int)) < ((ng : Int))
          · refine sEv (v := (.bool true)) (evLss true rfl rfl (dT hc130)) rfl rfl ?_
            refine sDone ?_
            refine xN (hK129 _ _ ?_)
            refine cT rfl ?_
            refine wp_region_lit ?_
            refine sEv (v := (.slice Ag ng cg)) (rfl) rfl rfl ?_
            refine sEv (v := (.int .i64 ((k : Int)))) (rfl) rfl rfl ?_
            have h131 := (hg.frmB ((((((((Frm.of_ext (G := fun b => (b = g9) ∨ (b = g49) ∨ (b = g55)) hE5).trans (Frm.of_ext (G := fun b => (b = g9) ∨ (b = g49) ∨ (b = g55)) hE12)).trans (hF27.mono (G' := fun b => (b = g9) ∨ (b = g49) ∨ (b = g55)) fun _ _ h => .inl h)).trans (Frm.of_ext (G := fun b => (b = g9) ∨ (b = g49) ∨ (b = g55)) hE46)).trans (Frm.of_ext (G := fun b => (b = g9) ∨ (b = g49) ∨ (b = g55)) hE52)).trans (Frm.of_ext (G := fun b => (b = g9) ∨ (b = g49) ∨ (b = g55)) hE58)).trans (hU63.mono (G' := fun b => (b = g9) ∨ (b = g49) ∨ (b = g55)) fun _ _ h => .inr (.inl h))).trans (hU68.mono (G' := fun b => (b = g9) ∨ (b = g49) ∨ (b = g55)) fun _ _ h => .inr (.inr h))) q3)
            obtain ⟨b132, o133, rfl⟩ := h131.base (by omega)
            refine sEv (v := (.pointer (some ⟨b132, o133 + (k * 2), none⟩))) (evIndex k Try.underlying23 sz46 rfl rfl (by omega) (by omega) (o133 + (k * 2)) (by omega)) rfl rfl ?_
            obtain ⟨g_134, A_134, n_134, c_134, d_134, he_134, hp_134, hq_134, h_134, hM_134, hS_134, hb_134, z_134⟩ := h131.at_ (i := k) (by omega)
            have l_134 := h_134.len; have k_134 := h_134.cap; have m_134 := h_134.max
            refine sEv (v := (.agg #[(.bool g_134), (.slice A_134 n_134 c_134)])) (evLoadA [(.bool g_134), (.slice A_134 n_134 c_134)] agg46 sz46 rfl (cell2 hp_134 hq_134)) rfl rfl ?_
            refine sOp rfl (oStore [(.bool g_134), (.slice A_134 n_134 c_134)] rfl rfl rfl sz46 rfl hB70 (Nat.le_of_ble_eq_true rfl) ?_)
            intro w136 hU137 hz138 hB139
            replace hB139 : Blk w136 g55 46 [(.bool g_134), (.slice A_134 n_134 c_134)] := hB139
            refine sDone ?_
            refine xN (hK128 _ _ ?_)
            refine wp_region_lit ?_
            refine sEv (v := (.slice (some ⟨g9, 0, none⟩) (max nf ng) (max nf ng))) (rfl) rfl rfl ?_
            refine sEv (v := (.int .i64 ((k : Int)))) (rfl) rfl rfl ?_
            refine sEv (v := (.func (.func 72) #[] #[])) (rfl) rfl rfl ?_
            have hB140 := (hB65.frm (hU68.trans hU137) q1)
            refine sEv (v := (.agg #[(.bool false), (.slice none 0 0)])) (evLoadAB [(.bool false), (.slice none 0 0)] agg46 sz46 rfl hB140 rfl) rfl rfl ?_
            refine sEv (v := (.agg #[(.bool g_134), (.slice A_134 n_134 c_134)])) (evLoadAB [(.bool g_134), (.slice A_134 n_134 c_134)] agg46 sz46 rfl hB139 rfl) rfl rfl ?_
            have h141 := (h_134.frmB hU137 q3)
            refine sOp rfl (oCall rfl call72 (integer_Sub (NatR.nil (S := fun _ => True)) h141 (by omega) (by omega)) rfl ?_)
            rintro _ w143 ⟨gr_142, Ar_142, nr_142, cr_142, dr_142, rfl, hE144, hr_142, v_142, cn_142, le_142⟩
            have hz145 := hE144.size
            have lr_142 := hr_142.len; have kr_142 := hr_142.cap; have mr_142 := hr_142.max
            refine sEv (v := (.pointer (some ⟨g9, k * 2, none⟩))) (evIndex k Try.underlying23 sz46 rfl rfl (by omega) (by omega) (k * 2) (by omega)) rfl rfl ?_
            have hB147 := (hB28.frm (((((((Frm.of_ext (G := fun b => (b = g49) ∨ (b = g55)) hE46).trans (Frm.of_ext (G := fun b => (b = g49) ∨ (b = g55)) hE52)).trans (Frm.of_ext (G := fun b => (b = g49) ∨ (b = g55)) hE58)).trans (hU63.mono (G' := fun b => (b = g49) ∨ (b = g55)) fun _ _ h => .inl h)).trans (hU68.mono (G' := fun b => (b = g49) ∨ (b = g55)) fun _ _ h => .inr h)).trans (hU137.mono (G' := fun b => (b = g49) ∨ (b = g55)) fun _ _ h => .inr h)).trans (Frm.of_ext (G := fun b => (b = g49) ∨ (b = g55)) hE144)) q1)
            refine sOp rfl (oStore [(.bool gr_142), (.slice Ar_142 nr_142 cr_142)] rfl rfl rfl sz46 rfl hB147 (by rw [cellsI_len]; simp only [List.length_cons, List.length_nil]; exact lq) ?_)
            intro w148 hU149 hz150 hB151
            replace hB151 := (cellsI_set (l := L ++ List.replicate (max nf ng - k) RI.zero) (i := k) ⟨gr_142, Ar_142, nr_142, cr_142, dr_142⟩ (by exact lq)) ▸ hB151
            replace hB151 : Blk w148 g9 46 (cellsI ((L ++ [⟨gr_142, Ar_142, nr_142, cr_142, dr_142⟩]) ++ List.replicate (max nf ng - (k + 1)) RI.zero)) := (fillI_set hL (by omega) : (L ++ List.replicate (max nf ng - k) RI.zero).set k ⟨gr_142, Ar_142, nr_142, cr_142, dr_142⟩ = (L ++ [⟨gr_142, Ar_142, nr_142, cr_142, dr_142⟩]) ++ List.replicate (max nf ng - (k + 1)) RI.zero) ▸ hB151
            refine sDone ?_
            refine bN ?_
            refine xN (hK42 _ _ ?_)
            refine wp_region_lit ?_
            refine sEv (v := (.int .i64 (((k : Int)) + 1))) (evAdd (((k : Int)) + 1) rfl rfl (wI64 (by omega))) rfl rfl ?_
            refine sEv (v := (.int .i64 (((k : Int)) + 1))) (rfl) rfl rfl ?_
            refine sDone ?_
            have h152 := (hA.frmB ((((((((Frm.of_ext (G := fun b => (b = g49) ∨ (b = g55) ∨ (b = g9)) hE46).trans (Frm.of_ext (G := fun b => (b = g49) ∨ (b = g55) ∨ (b = g9)) hE52)).trans (Frm.of_ext (G := fun b => (b = g49) ∨ (b = g55) ∨ (b = g9)) hE58)).trans (hU63.mono (G' := fun b => (b = g49) ∨ (b = g55) ∨ (b = g9)) fun _ _ h => .inl h)).trans (hU68.mono (G' := fun b => (b = g49) ∨ (b = g55) ∨ (b = g9)) fun _ _ h => .inr (.inl h))).trans (hU137.mono (G' := fun b => (b = g49) ∨ (b = g55) ∨ (b = g9)) fun _ _ h => .inr (.inl h))).trans (Frm.of_ext (G := fun b => (b = g49) ∨ (b = g55) ∨ (b = g9)) hE144)).trans (hU149.mono (G' := fun b => (b = g49) ∨ (b = g55) ∨ (b = g9)) fun _ _ h => .inr (.inr h))) q3)
            have h153 := (hr_142.frmB hU149 q3)
            refine again (max nf ng - (k + 1)) (by omega) ⟨(k + 1), (L ++ [⟨gr_142, Ar_142, nr_142, cr_142, dr_142⟩]), rfl, rfl, rfl, rfl, rfl, rfl, rfl, (congrArg (Value.int .i64) (by omega)), (Frm.mono (((((((((hF27.mono (G' := fun b => (b = g9) ∨ (b = g49) ∨ (b = g55)) fun _ _ h => .inl h).trans (Frm.of_ext (G := fun b => (b = g9) ∨ (b = g49) ∨ (b = g55)) hE46)).trans (Frm.of_ext (G := fun b => (b = g9) ∨ (b = g49) ∨ (b = g55)) hE52)).trans (Frm.of_ext (G := fun b => (b = g9) ∨ (b = g49) ∨ (b = g55)) hE58)).trans (hU63.mono (G' := fun b => (b = g9) ∨ (b = g49) ∨ (b = g55)) fun _ _ h => .inr (.inl h))).trans (hU68.mono (G' := fun b => (b = g9) ∨ (b = g49) ∨ (b = g55)) fun _ _ h => .inr (.inr h))).trans (hU137.mono (G' := fun b => (b = g9) ∨ (b = g49) ∨ (b = g55)) fun _ _ h => .inr (.inr h))).trans (Frm.of_ext (G := fun b => (b = g9) ∨ (b = g49) ∨ (b = g55)) hE144)).trans (hU149.mono (G' := fun b => (b = g9) ∨ (b = g49) ∨ (b = g55)) fun _ _ h => .inl h)) q4), ?_, ?_, ?_, ?_, ?_, ?_⟩
            · exact hB151
            · omega
            · simp [hL]
            · exact AllN.snoc h152 (NatR.sub h153 q5) (by (try dsimp only); omega)
            · exact zs_snoc hz (by show zval _ _ = _; rw [v_142]; exact csub hzf127 z_134)
            · exact AllC.snoc hC cn_142
          · refine sEv (v := (.bool false)) (evLss false rfl rfl (dF hc130)) rfl rfl ?_
            have hzf154 : zval false [] = co (zs lg) k := by rw [zval_nil, co_ge (by simp; omega)]
            refine sDone ?_
            refine xN (hK129 _ _ ?_)
            refine cF rfl ?_
            refine wp_skip ?_
            refine xN (hK128 _ _ ?_)
            refine wp_region_lit ?_
            refine sEv (v := (.slice (some ⟨g9, 0, none⟩) (max nf ng) (max nf ng))) (rfl) rfl rfl ?_
            refine sEv (v := (.int .i64 ((k : Int)))) (rfl) rfl rfl ?_
            refine sEv (v := (.func (.func 72) #[] #[])) (rfl) rfl rfl ?_
            have hB155 := (hB65.frm hU68 q1)
            refine sEv (v := (.agg #[(.bool false), (.slice none 0 0)])) (evLoadAB [(.bool false), (.slice none 0 0)] agg46 sz46 rfl hB155 rfl) rfl rfl ?_
            refine sEv (v := (.agg #[(.bool false), (.slice none 0 0)])) (evLoadAB [(.bool false), (.slice none 0 0)] agg46 sz46 rfl hB70 rfl) rfl rfl ?_
            refine sOp rfl (oCall rfl call72 (integer_Sub (NatR.nil (S := fun _ => True)) (NatR.nil (S := fun _ => True)) (by omega) (by omega)) rfl ?_)
            rintro _ w157 ⟨gr_156, Ar_156, nr_156, cr_156, dr_156, rfl, hE158, hr_156, v_156, cn_156, le_156⟩
            have hz159 := hE158.size
            have lr_156 := hr_156.len; have kr_156 := hr_156.cap; have mr_156 := hr_156.max
            refine sEv (v := (.pointer (some ⟨g9, k * 2, none⟩))) (evIndex k Try.underlying23 sz46 rfl rfl (by omega) (by omega) (k * 2) (by omega)) rfl rfl ?_
            have hB161 := (hB28.frm ((((((Frm.of_ext (G := fun b => (b = g49) ∨ (b = g55)) hE46).trans (Frm.of_ext (G := fun b => (b = g49) ∨ (b = g55)) hE52)).trans (Frm.of_ext (G := fun b => (b = g49) ∨ (b = g55)) hE58)).trans (hU63.mono (G' := fun b => (b = g49) ∨ (b = g55)) fun _ _ h => .inl h)).trans (hU68.mono (G' := fun b => (b = g49) ∨ (b = g55)) fun _ _ h => .inr h)).trans (Frm.of_ext (G := fun b => (b = g49) ∨ (b = g55)) hE158)) q1)
            refine sOp rfl (oStore [(.bool gr_156), (.slice Ar_156 nr_156 cr_156)] rfl rfl rfl sz46 rfl hB161 (by rw [cellsI_len]; simp only [List.length_cons, List.length_nil]; exact lq) ?_)
            intro w162 hU163 hz164 hB165
            replace hB165 := (cellsI_set (l := L ++ List.replicate (max nf ng - k) RI.zero) (i := k) ⟨gr_156, Ar_156, nr_156, cr_156, dr_156⟩ (by exact lq)) ▸ hB165
            replace hB165 : Blk w162 g9 46 (cellsI ((L ++ [⟨gr_156, Ar_156, nr_156, cr_156, dr_156⟩]) ++ List.replicate (max nf ng - (k + 1)) RI.zero)) := (fillI_set hL (by omega) : (L ++ List.replicate (max nf ng - k) RI.zero).set k ⟨gr_156, Ar_156, nr_156, cr_156, dr_156⟩ = (L ++ [⟨gr_156, Ar_156, nr_156, cr_156, dr_156⟩]) ++ List.replicate (max nf ng - (k + 1)) RI.zero) ▸ hB165
            refine sDone ?_
            refine bN ?_
            refine xN (hK42 _ _ ?_)
            refine wp_region_lit ?_
            refine sEv (v := (.int .i64 (((k : Int)) + 1))) (evAdd (((k : Int)) + 1) rfl rfl (wI64 (by omega))) rfl rfl ?_
            refine sEv (v := (.int .i64 (((k : Int)) + 1))) (rfl) rfl rfl ?_
            refine sDone ?_
            have h166 := (hA.frmB (((((((Frm.of_ext (G := fun b => (b = g49) ∨ (b = g55) ∨ (b = g9)) hE46).trans (Frm.of_ext (G := fun b => (b = g49) ∨ (b = g55) ∨ (b = g9)) hE52)).trans (Frm.of_ext (G := fun b => (b = g49) ∨ (b = g55) ∨ (b = g9)) hE58)).trans (hU63.mono (G' := fun b => (b = g49) ∨ (b = g55) ∨ (b = g9)) fun _ _ h => .inl h)).trans (hU68.mono (G' := fun b => (b = g49) ∨ (b = g55) ∨ (b = g9)) fun _ _ h => .inr (.inl h))).trans (Frm.of_ext (G := fun b => (b = g49) ∨ (b = g55) ∨ (b = g9)) hE158)).trans (hU163.mono (G' := fun b => (b = g49) ∨ (b = g55) ∨ (b = g9)) fun _ _ h => .inr (.inr h))) q3)
            have h167 := (hr_156.frmB hU163 q3)
            refine again (max nf ng - (k + 1)) (by omega) ⟨(k + 1), (L ++ [⟨gr_156, Ar_156, nr_156, cr_156, dr_156⟩]), rfl, rfl, rfl, rfl, rfl, rfl, rfl, (congrArg (Value.int .i64) (by omega)), (Frm.mono ((((((((hF27.mono (G' := fun b => (b = g9) ∨ (b = g49) ∨ (b = g55)) fun _ _ h => .inl h).trans (Frm.of_ext (G := fun b => (b = g9) ∨ (b = g49) ∨ (b = g55)) hE46)).trans (Frm.of_ext (G := fun b => (b = g9) ∨ (b = g49) ∨ (b = g55)) hE52)).trans (Frm.of_ext (G := fun b => (b = g9) ∨ (b = g49) ∨ (b = g55)) hE58)).trans (hU63.mono (G' := fun b => (b = g9) ∨ (b = g49) ∨ (b = g55)) fun _ _ h => .inr (.inl h))).trans (hU68.mono (G' := fun b => (b = g9) ∨ (b = g49) ∨ (b = g55)) fun _ _ h => .inr (.inr h))).trans (Frm.of_ext (G := fun b => (b = g9) ∨ (b = g49) ∨ (b = g55)) hE158)).trans (hU163.mono (G' := fun b => (b = g9) ∨ (b = g49) ∨ (b = g55)) fun _ _ h => .inl h)) q4), ?_, ?_, ?_, ?_, ?_, ?_⟩
            · exact hB165
            · omega
            · simp [hL]
            · exact AllN.snoc h166 (NatR.sub h167 q5) (by (try dsimp only); omega)
            · exact zs_snoc hz (by show zval _ _ = _; rw [v_156]; exact csub hzf127 hzf154)
            · exact AllC.snoc hC cn_156
      · refine dWp (i := 3) rfl rfl (oAlloc [(.bool false), (.slice none 0 0)] zero46 rfl ?_)
        intro g168 w169 hg170 hE171 hz172 hB173
        refine ⟨(Frm.of_ext hE171), ?_⟩
        refine dOp 2 rfl rfl (by kernel_rfl) (oAlloc [(.bool false), (.slice none 0 0)] zero46 rfl ?_)
        intro g174 w175 hg176 hE177 hz178 hB179
        refine ⟨(Frm.of_ext hE177), ?_⟩
        refine dOp 4 rfl rfl (by kernel_rfl) (oStore [(.bool false), (.slice none 0 0)] rfl rfl rfl sz46 rfl hB179 (Nat.le_of_ble_eq_true rfl) ?_)
        intro w180 hU181 hz182 hB183
        replace hB183 : Blk w180 g174 46 [(.bool false), (.slice none 0 0)] := hB183
        refine ⟨(hU181.mono q4), ?_⟩
        have hB184 := (hB173.frm ((Frm.of_ext (G := fun b => (b = g174)) hE177).trans hU181) q1)
        refine dOp 5 rfl rfl (by kernel_rfl) (oStore [(.bool false), (.slice none 0 0)] rfl rfl rfl sz46 rfl hB184 (Nat.le_of_ble_eq_true rfl) ?_)
        intro w185 hU186 hz187 hB188
        replace hB188 : Blk w185 g168 46 [(.bool false), (.slice none 0 0)] := hB188
        refine ⟨(hU186.mono q4), ?_⟩
        refine dDone (by kernel_rfl) ?_
        refine xN (hK44 _ _ ?_)
        refine wp_seq_k fun K189 hK189 => ?_
        refine wp_seq_k fun K190 hK190 => ?_
        refine wp_region_lit ?_
        refine sEv (v := (.int .i64 ((k : Int)))) (rfl) rfl rfl ?_
        refine sEv (v := (.slice Af nf cf)) (rfl) rfl rfl ?_
        refine sEv (v := (.int .i64 ((nf : Int)))) (evLen Try.underlying23 rfl) rfl rfl ?_
        by_cases hc191 : ((k : Int)) < ((nf : Int))
        · refine sEv (v := (.bool true)) (evLss true rfl rfl (dT hc191)) rfl rfl ?_
          refine sDone ?_
          refine xN (hK190 _ _ ?_)
          refine cT rfl ?_
          refine wp_region_lit ?_
          refine sEv (v := (.slice Af nf cf)) (rfl) rfl rfl ?_
          refine sEv (v := (.int .i64 ((k : Int)))) (rfl) rfl rfl ?_
          have h192 := (hf.frmB ((((((((Frm.of_ext (G := fun b => (b = g9) ∨ (b = g174) ∨ (b = g168)) hE5).trans (Frm.of_ext (G := fun b => (b = g9) ∨ (b = g174) ∨ (b = g168)) hE12)).trans (hF27.mono (G' := fun b => (b = g9) ∨ (b = g174) ∨ (b = g168)) fun _ _ h => .inl h)).trans (Frm.of_ext (G := fun b => (b = g9) ∨ (b = g174) ∨ (b = g168)) hE46)).trans (Frm.of_ext (G := fun b => (b = g9) ∨ (b = g174) ∨ (b = g168)) hE171)).trans (Frm.of_ext (G := fun b => (b = g9) ∨ (b = g174) ∨ (b = g168)) hE177)).trans (hU181.mono (G' := fun b => (b = g9) ∨ (b = g174) ∨ (b = g168)) fun _ _ h => .inr (.inl h))).trans (hU186.mono (G' := fun b => (b = g9) ∨ (b = g174) ∨ (b = g168)) fun _ _ h => .inr (.inr h))) q3)
          obtain ⟨b193, o194, rfl⟩ := h192.base (by omega)
          refine sEv (v := (.pointer (some ⟨b193, o194 + (k * 2), none⟩))) (evIndex k Try.underlying23 sz46 rfl rfl (by omega) (by omega) (o194 + (k * 2)) (by omega)) rfl rfl ?_
          obtain ⟨g_195, A_195, n_195, c_195, d_195, he_195, hp_195, hq_195, h_195, hM_195, hS_195, hb_195, z_195⟩ := h192.at_ (i := k) (by omega)
          have l_195 := h_195.len; have k_195 := h_195.cap; have m_195 := h_195.max
          refine sEv (v := (.agg #[(.bool g_195), (.slice A_195 n_195 c_195)])) (evLoadA [(.bool g_195), (.slice A_195 n_195 c_195)] agg46 sz46 rfl (cell2 hp_195 hq_195)) rfl rfl ?_
          have hB197 := (hB183.frm hU186 q1)
          refine sOp rfl (oStore [(.bool g_195), (.slice A_195 n_195 c_195)] rfl rfl rfl sz46 rfl hB197 (Nat.le_of_ble_eq_true rfl) ?_)
          intro w198 hU199 hz200 hB201
          replace hB201 : Blk w198 g174 46 [(.bool g_195), (.slice A_195 n_195 c_195)] := hB201
          refine sDone ?_
          refine xN (hK189 _ _ ?_)
          refine wp_seq_k fun K202 hK202 => ?_
          refine wp_seq_k fun K203 hK203 => ?_
          refine wp_region_lit ?_
          refine sEv (v := (.int .i64 ((k : Int)))) (rfl) rfl rfl ?_
          refine sEv (v := (.slice Ag ng cg)) (rfl) rfl rfl ?_
          refine sEv (v := (.int .i64 ((ng : Int)))) (evLen Try.underlying23 rfl) rfl rfl ?_
          by_cases hc204 : ((k : Int)) < ((ng : Int))
          · refine sEv (v := (.bool true)) (evLss true rfl rfl (dT hc204)) rfl rfl ?_
            refine sDone ?_
            refine xN (hK203 _ _ ?_)
            refine cT rfl ?_
            refine wp_region_lit ?_
            refine sEv (v := (.slice Ag ng cg)) (rfl) rfl rfl ?_
            refine sEv (v := (.int .i64 ((k : Int)))) (rfl) rfl rfl ?_
            have h205 := (hg.frmB (((((((((Frm.of_ext (G := fun b => (b = g9) ∨ (b = g174) ∨ (b = g168)) hE5).trans (Frm.of_ext (G := fun b => (b = g9) ∨ (b = g174) ∨ (b = g168)) hE12)).trans (hF27.mono (G' := fun b => (b = g9) ∨ (b = g174) ∨ (b = g168)) fun _ _ h => .inl h)).trans (Frm.of_ext (G := fun b => (b = g9) ∨ (b = g174) ∨ (b = g168)) hE46)).trans (Frm.of_ext (G := fun b => (b = g9) ∨ (b = g174) ∨ (b = g168)) hE171)).trans (Frm.of_ext (G := fun b => (b = g9) ∨ (b = g174) ∨ (b = g168)) hE177)).trans (hU181.mono (G' := fun b => (b = g9) ∨ (b = g174) ∨ (b = g168)) fun _ _ h => .inr (.inl h))).trans (hU186.mono (G' := fun b => (b = g9) ∨ (b = g174) ∨ (b = g168)) fun _ _ h => .inr (.inr h))).trans (hU199.mono (G' := fun b => (b = g9) ∨ (b = g174) ∨ (b = g168)) fun _ _ h => .inr (.inl h))) q3)
            obtain ⟨b206, o207, rfl⟩ := h205.base (by omega)
            refine sEv (v := (.pointer (some ⟨b206, o207 + (k * 2), none⟩))) (evIndex k Try.underlying23 sz46 rfl rfl (by omega) (by omega) (o207 + (k * 2)) (by omega)) rfl rfl ?_
            obtain ⟨g_208, A_208, n_208, c_208, d_208, he_208, hp_208, hq_208, h_208, hM_208, hS_208, hb_208, z_208⟩ := h205.at_ (i := k) (by omega)
            have l_208 := h_208.len; have k_208 := h_208.cap; have m_208 := h_208.max
            refine sEv (v := (.agg #[(.bool g_208), (.slice A_208 n_208 c_208)])) (evLoadA [(.bool g_208), (.slice A_208 n_208 c_208)] agg46 sz46 rfl (cell2 hp_208 hq_208)) rfl rfl ?_
            have hB210 := (hB188.frm hU199 q1)
            refine sOp rfl (oStore [(.bool g_208), (.slice A_208 n_208 c_208)] rfl rfl rfl sz46 rfl hB210 (Nat.le_of_ble_eq_true rfl) ?_)
            intro w211 hU212 hz213 hB214
            replace hB214 : Blk w211 g168 46 [(.bool g_208), (.slice A_208 n_208 c_208)] := hB214
            refine sDone ?_
            refine xN (hK202 _ _ ?_)
            refine wp_region_lit ?_
            refine sEv (v := (.slice (some ⟨g9, 0, none⟩) (max nf ng) (max nf ng))) (rfl) rfl rfl ?_
            refine sEv (v := (.int .i64 ((k : Int)))) (rfl) rfl rfl ?_
            refine sEv (v := (.func (.func 72) #[] #[])) (rfl) rfl rfl ?_
            have hB215 := (hB201.frm hU212 q1)
            refine sEv (v := (.agg #[(.bool g_195), (.slice A_195 n_195 c_195)])) (evLoadAB [(.bool g_195), (.slice A_195 n_195 c_195)] agg46 sz46 rfl hB215 rfl) rfl rfl ?_
            refine sEv (v := (.agg #[(.bool g_208), (.slice A_208 n_208 c_208)])) (evLoadAB [(.bool g_208), (.slice A_208 n_208 c_208)] agg46 sz46 rfl hB214 rfl) rfl rfl ?_
            have h216 := (h_195.frmB ((hU199.mono (G' := fun b => (b = g174) ∨ (b = g168)) fun _ _ h => .inl h).trans (hU212.mono (G' := fun b => (b = g174) ∨ (b = g168)) fun _ _ h => .inr h)) q3)
            have h217 := (h_208.frmB hU212 q3)
            refine sOp rfl (oCall rfl call72 (integer_Sub h216 h217 (by omega) (by omega)) rfl ?_)
            rintro _ w219 ⟨gr_218, Ar_218, nr_218, cr_218, dr_218, rfl, hE220, hr_218, v_218, cn_218, le_218⟩
            have hz221 := hE220.size
            have lr_218 := hr_218.len; have kr_218 := hr_218.cap; have mr_218 := hr_218.max
            refine sEv (v := (.pointer (some ⟨g9, k * 2, none⟩))) (evIndex k Try.underlying23 sz46 rfl rfl (by omega) (by omega) (k * 2) (by omega)) rfl rfl ?_
            have hB223 := (hB28.frm ((((((((Frm.of_ext (G := fun b => (b = g174) ∨ (b = g168)) hE46).trans (Frm.of_ext (G := fun b => (b = g174) ∨ (b = g168)) hE171)).trans (Frm.of_ext (G := fun b => (b = g174) ∨ (b = g168)) hE177)).trans (hU181.mono (G' := fun b => (b = g174) ∨ (b = g168)) fun _ _ h => .inl h)).trans (hU186.mono (G' := fun b => (b = g174) ∨ (b = g168)) fun _ _ h => .inr h)).trans (hU199.mono (G' := fun b => (b = g174) ∨ (b = g168)) fun _ _ h => .inl h)).trans (hU212.mono (G' := fun b => (b = g174) ∨ (b = g168)) fun _ _ h => .inr h)).trans (Frm.of_ext (G := fun b => (b = g174) ∨ (b = g168)) hE220)) q1)
            refine sOp rfl (oStore [(.bool gr_218), (.slice Ar_218 nr_218 cr_218)] rfl rfl rfl sz46 rfl hB223 (by rw [cellsI_len]; simp only [List.length_cons, List.length_nil]; exact lq) ?_)
            intro w224 hU225 hz226 hB227
            replace hB227 := (cellsI_set (l := L ++ List.replicate (max nf ng - k) RI.zero) (i := k) ⟨gr_218, Ar_218, nr_218, cr_218, dr_218⟩ (by exact lq)) ▸ hB227
            replace hB227 : Blk w224 g9 46 (cellsI ((L ++ [⟨gr_218, Ar_218, nr_218, cr_218, dr_218⟩]) ++ List.replicate (max nf ng - (k + 1)) RI.zero)) := (fillI_set hL (by omega) : (L ++ List.replicate (max nf ng - k) RI.zero).set k ⟨gr_218, Ar_218, nr_218, cr_218, dr_218⟩ = (L ++ [⟨gr_218, Ar_218, nr_218, cr_218, dr_218⟩]) ++ List.replicate (max nf ng - (k + 1)) RI.zero) ▸ hB227
            refine sDone ?_
            refine bN ?_
            refine xN (hK42 _ _ ?_)
            refine wp_region_lit ?_
            refine sEv (v := (.int .i64 (((k : Int)) + 1))) (evAdd (((k : Int)) + 1) rfl rfl (wI64 (by omega))) rfl rfl ?_
            refine sEv (v := (.int .i64 (((k : Int)) + 1))) (rfl) rfl rfl ?_
            refine sDone ?_
            have h228 := (hA.frmB (((((((((Frm.of_ext (G := fun b => (b = g174) ∨ (b = g168) ∨ (b = g9)) hE46).trans (Frm.of_ext (G := fun b => (b = g174) ∨ (b = g168) ∨ (b = g9)) hE171)).trans (Frm.of_ext (G := fun b => (b = g174) ∨ (b = g168) ∨ (b = g9)) hE177)).trans (hU181.mono (G' := fun b => (b = g174) ∨ (b = g168) ∨ (b = g9)) fun _ _ h => .inl h)).trans (hU186.mono (G' := fun b => (b = g174) ∨ (b = g168) ∨ (b = g9)) fun _ _ h => .inr (.inl h))).trans (hU199.mono (G' := fun b => (b = g174) ∨ (b = g168) ∨ (b = g9)) fun _ _ h => .inl h)).trans (hU212.mono (G' := fun b => (b = g174) ∨ (b = g168) ∨ (b = g9)) fun _ _ h => .inr (.inl h))).trans (Frm.of_ext (G := fun b => (b = g174) ∨ (b = g168) ∨ (b = g9)) hE220)).trans (hU225.mono (G' := fun b => (b = g174) ∨ (b = g168) ∨ (b = g9)) fun _ _ h => .inr (.inr h))) q3)
            have h229 := (hr_218.frmB hU225 q3)
            refine again (max nf ng - (k + 1)) (by omega) ⟨(k + 1), (L ++ [⟨gr_218, Ar_218, nr_218, cr_218, dr_218⟩]), rfl, rfl, rfl, rfl, rfl, rfl, rfl, (congrArg (Value.int .i64) (by omega)), (Frm.mono ((((((((((hF27.mono (G' := fun b => (b = g9) ∨ (b = g174) ∨ (b = g168)) fun _ _ h => .inl h).trans (Frm.of_ext (G := fun b => (b = g9) ∨ (b = g174) ∨ (b = g168)) hE46)).trans (Frm.of_ext (G := fun b => (b = g9) ∨ (b = g174) ∨ (b = g168)) hE171)).trans (Frm.of_ext (G := fun b => (b = g9) ∨ (b = g174) ∨ (b = g168)) hE177)).trans (hU181.mono (G' := fun b => (b = g9) ∨ (b = g174) ∨ (b = g168)) fun _ _ h => .inr (.inl h))).trans (hU186.mono (G' := fun b => (b = g9) ∨ (b = g174) ∨ (b = g168)) fun _ _ h => .inr (.inr h))).trans (hU199.mono (G' := fun b => (b = g9) ∨ (b = g174) ∨ (b = g168)) fun _ _ h => .inr (.inl h))).trans (hU212.mono (G' := fun b => (b = g9) ∨ (b = g174) ∨ (b = g168)) fun _ _ h => .inr (.inr h))).trans (Frm.of_ext (G := fun b => (b = g9) ∨ (b = g174) ∨ (b = g168)) hE220)).trans (hU225.mono (G' := fun b => (b = g9) ∨ (b = g174) ∨ (b = g168)) fun _ _ h => .inl h)) q4), ?_, ?_, ?_, ?_, ?_, ?_⟩
            · exact hB227
            · omega
            · simp [hL]
            · exact AllN.snoc h228 (NatR.sub h229 q5) (by (try dsimp only); omega)
            · exact zs_snoc hz (by show zval _ _ = _; rw [v_218]; exact csub z_195 z_208)
            · exact AllC.snoc hC cn_218
          · refine sEv (v := (.bool false)) (evLss false rfl rfl (dF hc204)) rfl rfl ?_
            have hzf230 : zval false [] = co (zs lg) k := by rw [zval_nil, co_ge (by simp; omega)]
            refine sDone ?_
            refine xN (hK203 _ _ ?_)
            refine cF rfl ?_
            refine wp_skip ?_
            refine xN (hK202 _ _ ?_)
            refine wp_region_lit ?_
            refine sEv (v := (.slice (some ⟨g9, 0, none⟩) (max nf ng) (max nf ng))) (rfl) rfl rfl ?_
            refine sEv (v := (.int .i64 ((k : Int)))) (rfl) rfl rfl ?_
            refine sEv (v := (.func (.func 72) #[] #[])) (rfl) rfl rfl ?_
            refine sEv (v := (.agg #[(.bool g_195), (.slice A_195 n_195 c_195)])) (evLoadAB [(.bool g_195), (.slice A_195 n_195 c_195)] agg46 sz46 rfl hB201 rfl) rfl rfl ?_
            have hB231 := (hB188.frm hU199 q1)
            refine sEv (v := (.agg #[(.bool false), (.slice none 0 0)])) (evLoadAB [(.bool false), (.slice none 0 0)] agg46 sz46 rfl hB231 rfl) rfl rfl ?_
            have h232 := (h_195.frmB hU199 q3)
            refine sOp rfl (oCall rfl call72 (integer_Sub h232 (NatR.nil (S := fun _ => True)) (by omega) (by omega)) rfl ?_)
            rintro _ w234 ⟨gr_233, Ar_233, nr_233, cr_233, dr_233, rfl, hE235, hr_233, v_233, cn_233, le_233⟩
            have hz236 := hE235.size
            have lr_233 := hr_233.len; have kr_233 := hr_233.cap; have mr_233 := hr_233.max
            refine sEv (v := (.pointer (some ⟨g9, k * 2, none⟩))) (evIndex k Try.underlying23 sz46 rfl rfl (by omega) (by omega) (k * 2) (by omega)) rfl rfl ?_
            have hB238 := (hB28.frm (((((((Frm.of_ext (G := fun b => (b = g174) ∨ (b = g168)) hE46).trans (Frm.of_ext (G := fun b => (b = g174) ∨ (b = g168)) hE171)).trans (Frm.of_ext (G := fun b => (b = g174) ∨ (b = g168)) hE177)).trans (hU181.mono (G' := fun b => (b = g174) ∨ (b = g168)) fun _ _ h => .inl h)).trans (hU186.mono (G' := fun b => (b = g174) ∨ (b = g168)) fun _ _ h => .inr h)).trans (hU199.mono (G' := fun b => (b = g174) ∨ (b = g168)) fun _ _ h => .inl h)).trans (Frm.of_ext (G := fun b => (b = g174) ∨ (b = g168)) hE235)) q1)
            refine sOp rfl (oStore [(.bool gr_233), (.slice Ar_233 nr_233 cr_233)] rfl rfl rfl sz46 rfl hB238 (by rw [cellsI_len]; simp only [List.length_cons, List.length_nil]; exact lq) ?_)
            intro w239 hU240 hz241 hB242
            replace hB242 := (cellsI_set (l := L ++ List.replicate (max nf ng - k) RI.zero) (i := k) ⟨gr_233, Ar_233, nr_233, cr_233, dr_233⟩ (by exact lq)) ▸ hB242
            replace hB242 : Blk w239 g9 46 (cellsI ((L ++ [⟨gr_233, Ar_233, nr_233, cr_233, dr_233⟩]) ++ List.replicate (max nf ng - (k + 1)) RI.zero)) := (fillI_set hL (by omega) : (L ++ List.replicate (max nf ng - k) RI.zero).set k ⟨gr_233, Ar_233, nr_233, cr_233, dr_233⟩ = (L ++ [⟨gr_233, Ar_233, nr_233, cr_233, dr_233⟩]) ++ List.replicate (max nf ng - (k + 1)) RI.zero) ▸ hB242
            refine sDone ?_
            refine bN ?_
            refine xN (hK42 _ _ ?_)
            refine wp_region_lit ?_
            refine sEv (v := (.int .i64 (((k : Int)) + 1))) (evAdd (((k : Int)) + 1) rfl rfl (wI64 (by omega))) rfl rfl ?_
            refine sEv (v := (.int .i64 (((k : Int)) + 1))) (rfl) rfl rfl ?_
            refine sDone ?_
            have h243 := (hA.frmB ((((((((Frm.of_ext (G := fun b => (b = g174) ∨ (b = g168) ∨ (b = g9)) hE46).trans (Frm.of_ext (G := fun b => (b = g174) ∨ (b = g168) ∨ (b = g9)) hE171)).trans (Frm.of_ext (G := fun b => (b = g174) ∨ (b = g168) ∨ (b = g9)) hE177)).trans (hU181.mono (G' := fun b => (b = g174) ∨ (b = g168) ∨ (b = g9)) fun _ _ h => .inl h)).trans (hU186.mono (G' := fun b => (b = g174) ∨ (b = g168) ∨ (b = g9)) fun _ _ h => .inr (.inl h))).trans (hU199.mono (G' := fun b => (b = g174) ∨ (b = g168) ∨ (b = g9)) fun _ _ h => .inl h)).trans (Frm.of_ext (G := fun b => (b = g174) ∨ (b = g168) ∨ (b = g9)) hE235)).trans (hU240.mono (G' := fun b => (b = g174) ∨ (b = g168) ∨ (b = g9)) fun _ _ h => .inr (.inr h))) q3)
            have h244 := (hr_233.frmB hU240 q3)
            refine again (max nf ng - (k + 1)) (by omega) ⟨(k + 1), (L ++ [⟨gr_233, Ar_233, nr_233, cr_233, dr_233⟩]), rfl, rfl, rfl, rfl, rfl, rfl, rfl, (congrArg (Value.int .i64) (by omega)), (Frm.mono (((((((((hF27.mono (G' := fun b => (b = g9) ∨ (b = g174) ∨ (b = g168)) fun _ _ h => .inl h).trans (Frm.of_ext (G := fun b => (b = g9) ∨ (b = g174) ∨ (b = g168)) hE46)).trans (Frm.of_ext (G := fun b => (b = g9) ∨ (b = g174) ∨ (b = g168)) hE171)).trans (Frm.of_ext (G := fun b => (b = g9) ∨ (b = g174) ∨ (b = g168)) hE177)).trans (hU181.mono (G' := fun b => (b = g9) ∨ (b = g174) ∨ (b = g168)) fun _ _ h => .inr (.inl h))).trans (hU186.mono (G' := fun b => (b = g9) ∨ (b = g174) ∨ (b = g168)) fun _ _ h => .inr (.inr h))).trans (hU199.mono (G' := fun b => (b = g9) ∨ (b = g174) ∨ (b = g168)) fun _ _ h => .inr (.inl h))).trans (Frm.of_ext (G := fun b => (b = g9) ∨ (b = g174) ∨ (b = g168)) hE235)).trans (hU240.mono (G' := fun b => (b = g9) ∨ (b = g174) ∨ (b = g168)) fun _ _ h => .inl h)) q4), ?_, ?_, ?_, ?_, ?_, ?_⟩
            · exact hB242
            · omega
            · simp [hL]
            · exact AllN.snoc h243 (NatR.sub h244 q5) (by (try dsimp only); omega)
            · exact zs_snoc hz (by show zval _ _ = _; rw [v_233]; exact csub z_195 hzf230)
            · exact AllC.snoc hC cn_233
        · refine sEv (v := (.bool false)) (evLss false rfl rfl (dF hc191)) rfl rfl ?_
          have hzf245 : zval false [] = co (zs lf) k := by rw [zval_nil, co_ge (by simp; omega)]
          refine sDone ?_
          refine xN (hK190 _ _ ?_)
          refine cF rfl ?_
          refine wp_skip ?_
          refine xN (hK189 _ _ ?_)
          refine wp_seq_k fun K246 hK246 => ?_
          refine wp_seq_k fun K247 hK247 => ?_
          refine wp_region_lit ?_
          refine sEv (v := (.int .i64 ((k : Int)))) (rfl) rfl rfl ?_
          refine sEv (v := (.slice Ag ng cg)) (rfl) rfl rfl ?_
          refine sEv (v := (.int .i64 ((ng : Int)))) (evLen Try.underlying23 rfl) rfl rfl ?_
          by_cases hc248 : ((k : Int)) < ((ng : Int))
          · refine sEv (v := (.bool true)) (evLss true rfl rfl (dT hc248)) rfl rfl ?_
            refine sDone ?_
            refine xN (hK247 _ _ ?_)
            refine cT rfl ?_
            refine wp_region_lit ?_
            refine sEv (v := (.slice Ag ng cg)) (rfl) rfl rfl ?_
            refine sEv (v := (.int .i64 ((k : Int)))) (rfl) rfl rfl ?_
            have h249 := (hg.frmB ((((((((Frm.of_ext (G := fun b => (b = g9) ∨ (b = g174) ∨ (b = g168)) hE5).trans (Frm.of_ext (G := fun b => (b = g9) ∨ (b = g174) ∨ (b = g168)) hE12)).trans (hF27.mono (G' := fun b => (b = g9) ∨ (b = g174) ∨ (b = g168)) fun _ _ h => .inl h)).trans (Frm.of_ext (G := fun b => (b = g9) ∨ (b = g174) ∨ (b = g168)) hE46)).trans (Frm.of_ext (G := fun b => (b = g9) ∨ (b = g174) ∨ (b = g168)) hE171)).trans (Frm.of_ext (G := fun b => (b = g9) ∨ (b = g174) ∨ (b = g168)) hE177)).trans (hU181.mono (G' := fun b => (b = g9) ∨ (b = g174) ∨ (b = g168)) fun _ _ h => .inr (.inl h))).trans (hU186.mono (G' := fun b => (b = g9) ∨ (b = g174) ∨ (b = g168)) fun _ _ h => .inr (.inr h))) q3)
            obtain ⟨b250, o251, rfl⟩ := h249.base (by omega)
            refine sEv (v := (.pointer (some ⟨b250, o251 + (k * 2), none⟩))) (evIndex k Try.underlying23 sz46 rfl rfl (by omega) (by omega) (o251 + (k * 2)) (by omega)) rfl rfl ?_
            obtain ⟨g_252, A_252, n_252, c_252, d_252, he_252, hp_252, hq_252, h_252, hM_252, hS_252, hb_252, z_252⟩ := h249.at_ (i := k) (by omega)
            have l_252 := h_252.len; have k_252 := h_252.cap; have m_252 := h_252.max
            refine sEv (v := (.agg #[(.bool g_252), (.slice A_252 n_252 c_252)])) (evLoadA [(.bool g_252), (.slice A_252 n_252 c_252)] agg46 sz46 rfl (cell2 hp_252 hq_252)) rfl rfl ?_
            refine sOp rfl (oStore [(.bool g_252), (.slice A_252 n_252 c_252)] rfl rfl rfl sz46 rfl hB188 (Nat.le_of_ble_eq_true rfl) ?_)
            intro w254 hU255 hz256 hB257
            replace hB257 : Blk w254 g168 46 [(.bool g_252), (.slice A_252 n_252 c_252)] := hB257
            refine sDone ?_
            refine xN (hK246 _ _ ?_)
            refine wp_region_lit ?_
            refine sEv (v := (.slice (some ⟨g9, 0, none⟩) (max nf ng) (max nf ng))) (rfl) rfl rfl ?_
            refine sEv (v := (.int .i64 ((k : Int)))) (rfl) rfl rfl ?_
            refine sEv (v := (.func (.func 72) #[] #[])) (rfl) rfl rfl ?_
            have hB258 := (hB183.frm (hU186.trans hU255) q1)
            refine sEv (v := (.agg #[(.bool false), (.slice none 0 0)])) (evLoadAB [(.bool false), (.slice none 0 0)] agg46 sz46 rfl hB258 rfl) rfl rfl ?_
            refine sEv (v := (.agg #[(.bool g_252), (.slice A_252 n_252 c_252)])) (evLoadAB [(.bool g_252), (.slice A_252 n_252 c_252)] agg46 sz46 rfl hB257 rfl) rfl rfl ?_
            have h259 := (h_252.frmB hU255 q3)
            refine sOp rfl (oCall rfl call72 (integer_Sub (NatR.nil (S := fun _ => True)) h259 (by omega) (by omega)) rfl ?_)
            rintro _ w261 ⟨gr_260, Ar_260, nr_260, cr_260, dr_260, rfl, hE262, hr_260, v_260, cn_260, le_260⟩
            have hz263 := hE262.size
            have lr_260 := hr_260.len; have kr_260 := hr_260.cap; have mr_260 := hr_260.max
            refine sEv (v := (.pointer (some ⟨g9, k * 2, none⟩))) (evIndex k Try.underlying23 sz46 rfl rfl (by omega) (by omega) (k * 2) (by omega)) rfl rfl ?_
            have hB265 := (hB28.frm (((((((Frm.of_ext (G := fun b => (b = g174) ∨ (b = g168)) hE46).trans (Frm.of_ext (G := fun b => (b = g174) ∨ (b = g168)) hE171)).trans (Frm.of_ext (G := fun b => (b = g174) ∨ (b = g168)) hE177)).trans (hU181.mono (G' := fun b => (b = g174) ∨ (b = g168)) fun _ _ h => .inl h)).trans (hU186.mono (G' := fun b => (b = g174) ∨ (b = g168)) fun _ _ h => .inr h)).trans (hU255.mono (G' := fun b => (b = g174) ∨ (b = g168)) fun _ _ h => .inr h)).trans (Frm.of_ext (G := fun b => (b = g174) ∨ (b = g168)) hE262)) q1)
            refine sOp rfl (oStore [(.bool gr_260), (.slice Ar_260 nr_260 cr_260)] rfl rfl rfl sz46 rfl hB265 (by rw [cellsI_len]; simp only [List.length_cons, List.length_nil]; exact lq) ?_)
            intro w266 hU267 hz268 hB269
            replace hB269 := (cellsI_set (l := L ++ List.replicate (max nf ng - k) RI.zero) (i := k) ⟨gr_260, Ar_260, nr_260, cr_260, dr_260⟩ (by exact lq)) ▸ hB269
            replace hB269 : Blk w266 g9 46 (cellsI ((L ++ [⟨gr_260, Ar_260, nr_260, cr_260, dr_260⟩]) ++ List.replicate (max nf ng - (k + 1)) RI.zero)) := (fillI_set hL (by omega) : (L ++ List.replicate (max nf ng - k) RI.zero).set k ⟨gr_260, Ar_260, nr_260, cr_260, dr_260⟩ = (L ++ [⟨gr_260, Ar_260, nr_260, cr_260, dr_260⟩]) ++ List.replicate (max nf ng - (k + 1)) RI.zero) ▸ hB269
            refine sDone ?_
            refine bN ?_
            refine xN (hK42 _ _ ?_)
            refine wp_region_lit ?_
            refine sEv (v := (.int .i64 (((k : Int)) + 1))) (evAdd (((k : Int)) + 1) rfl rfl (wI64 (by omega))) rfl rfl ?_
            refine sEv (v := (.int .i64 (((k : Int)) + 1))) (rfl) rfl rfl ?_
            refine sDone ?_
            have h270 := (hA.frmB ((((((((Frm.of_ext (G := fun b => (b = g174) ∨ (b = g168) ∨ (b = g9)) hE46).trans (Frm.of_ext (G := fun b => (b = g174) ∨ (b = g168) ∨ (b = g9)) hE171)).trans (Frm.of_ext (G := fun b => (b = g174) ∨ (b = g168) ∨ (b = g9)) hE177)).trans (hU181.mono (G' := fun b => (b = g174) ∨ (b = g168) ∨ (b = g9)) fun _ _ h => .inl h)).trans (hU186.mono (G' := fun b => (b = g174) ∨ (b = g168) ∨ (b = g9)) fun _ _ h => .inr (.inl h))).trans (hU255.mono (G' := fun b => (b = g174) ∨ (b = g168) ∨ (b = g9)) fun _ _ h => .inr (.inl h))).trans (Frm.of_ext (G := fun b => (b = g174) ∨ (b = g168) ∨ (b = g9)) hE262)).trans (hU267.mono (G' := fun b => (b = g174) ∨ (b = g168) ∨ (b = g9)) fun _ _ h => .inr (.inr h))) q3)
            have h271 := (hr_260.frmB hU267 q3)
            refine again (max nf ng - (k + 1)) (by omega) ⟨(k + 1), (L ++ [⟨gr_260, Ar_260, nr_260, cr_260, dr_260⟩]), rfl, rfl, rfl, rfl, rfl, rfl, rfl, (congrArg (Value.int .i64) (by omega)), (Frm.mono (((((((((hF27.mono (G' := fun b => (b = g9) ∨ (b = g174) ∨ (b = g168)) fun _ _ h => .inl h).trans (Frm.of_ext (G := fun b => (b = g9) ∨ (b = g174) ∨ (b = g168)) hE46)).trans (Frm.of_ext (G := fun b => (b = g9) ∨ (b = g174) ∨ (b = g168)) hE171)).trans (Frm.of_ext (G := fun b => (b = g9) ∨ (b = g174) ∨ (b = g168)) hE177)).trans (hU181.mono (G' := fun b => (b = g9) ∨ (b = g174) ∨ (b = g168)) fun _ _ h => .inr (.inl h))).trans (hU186.mono (G' := fun b => (b = g9) ∨ (b = g174) ∨ (b = g168)) fun _ _ h => .inr (.inr h))).trans (hU255.mono (G' := fun b => (b = g9) ∨ (b = g174) ∨ (b = g168)) fun _ _ h => .inr (.inr h))).trans (Frm.of_ext (G := fun b => (b = g9) ∨ (b = g174) ∨ (b = g168)) hE262)).trans (hU267.mono (G' := fun b => (b = g9) ∨ (b = g174) ∨ (b = g168)) fun _ _ h => .inl h)) q4), ?_, ?_, ?_, ?_, ?_, ?_⟩
            · exact hB269
            · omega
            · simp [hL]
            · exact AllN.snoc h270 (NatR.sub h271 q5) (by (try dsimp only); omega)
            · exact zs_snoc hz (by show zval _ _ = _; rw [v_260]; exact csub hzf245 z_252)
            · exact AllC.snoc hC cn_260
          · refine sEv (v := (.bool false)) (evLss false rfl rfl (dF hc248)) rfl rfl ?_
            have hzf272 : zval false [] = co (zs lg) k := by rw [zval_nil, co_ge (by simp; omega)]
            refine sDone ?_
            refine xN (hK247 _ _ ?_)
            refine cF rfl ?_
            refine wp_skip ?_
            refine xN (hK246 _ _ ?_)
            refine wp_region_lit ?_
            refine sEv (v := (.slice (some ⟨g9, 0, none⟩) (max nf ng) (max nf ng))) (rfl) rfl rfl ?_
            refine sEv (v := (.int .i64 ((k : Int)))) (rfl) rfl rfl ?_
            refine sEv (v := (.func (.func 72) #[] #[])) (rfl) rfl rfl ?_
            have hB273 := (hB183.frm hU186 q1)
            refine sEv (v := (.agg #[(.bool false), (.slice none 0 0)])) (evLoadAB [(.bool false), (.slice none 0 0)] agg46 sz46 rfl hB273 rfl) rfl rfl ?_
            refine sEv (v := (.agg #[(.bool false), (.slice none 0 0)])) (evLoadAB [(.bool false), (.slice none 0 0)] agg46 sz46 rfl hB188 rfl) rfl rfl ?_
            refine sOp rfl (oCall rfl call72 (integer_Sub (NatR.nil (S := fun _ => True)) (NatR.nil (S := fun _ => True)) (by omega) (by omega)) rfl ?_)
            rintro _ w275 ⟨gr_274, Ar_274, nr_274, cr_274, dr_274, rfl, hE276, hr_274, v_274, cn_274, le_274⟩
            have hz277 := hE276.size
            have lr_274 := hr_274.len; have kr_274 := hr_274.cap; have mr_274 := hr_274.max
            refine sEv (v := (.pointer (some ⟨g9, k * 2, none⟩))) (evIndex k Try.underlying23 sz46 rfl rfl (by omega) (by omega) (k * 2) (by omega)) rfl rfl ?_
            have hB279 := (hB28.frm ((((((Frm.of_ext (G := fun b => (b = g174) ∨ (b = g168)) hE46).trans (Frm.of_ext (G := fun b => (b = g174) ∨ (b = g168)) hE171)).trans (Frm.of_ext (G := fun b => (b = g174) ∨ (b = g168)) hE177)).trans (hU181.mono (G' := fun b => (b = g174) ∨ (b = g168)) fun _ _ h => .inl h)).trans (hU186.mono (G' := fun b => (b = g174) ∨ (b = g168)) fun _ _ h => .inr h)).trans (Frm.of_ext (G := fun b => (b = g174) ∨ (b = g168)) hE276)) q1)
            refine sOp rfl (oStore [(.bool gr_274), (.slice Ar_274 nr_274 cr_274)] rfl rfl rfl sz46 rfl hB279 (by rw [cellsI_len]; simp only [List.length_cons, List.length_nil]; exact lq) ?_)
            intro w280 hU281 hz282 hB283
            replace hB283 := (cellsI_set (l := L ++ List.replicate (max nf ng - k) RI.zero) (i := k) ⟨gr_274, Ar_274, nr_274, cr_274, dr_274⟩ (by exact lq)) ▸ hB283
            replace hB283 : Blk w280 g9 46 (cellsI ((L ++ [⟨gr_274, Ar_274, nr_274, cr_274, dr_274⟩]) ++ List.replicate (max nf ng - (k + 1)) RI.zero)) := (fillI_set hL (by omega) : (L ++ List.replicate (max nf ng - k) RI.zero).set k ⟨gr_274, Ar_274, nr_274, cr_274, dr_274⟩ = (L ++ [⟨gr_274, Ar_274, nr_274, cr_274, dr_274⟩]) ++ List.replicate (max nf ng - (k + 1)) RI.zero) ▸ hB283
            refine sDone ?_
            refine bN ?_
            refine xN (hK42 _ _ ?_)
            refine wp_region_lit ?_
            refine sEv (v := (.int .i64 (((k : Int)) + 1))) (evAdd (((k : Int)) + 1) rfl rfl (wI64 (by omega))) rfl rfl ?_
            refine sEv (v := (.int .i64 (((k : Int)) + 1))) (rfl) rfl rfl ?_
            refine sDone ?_
            have h284 := (hA.frmB (((((((Frm.of_ext (G := fun b => (b = g174) ∨ (b = g168) ∨ (b = g9)) hE46).trans (Frm.of_ext (G := fun b => (b = g174) ∨ (b = g168) ∨ (b = g9)) hE171)).trans (Frm.of_ext (G := fun b => (b = g174) ∨ (b = g168) ∨ (b = g9)) hE177)).trans (hU181.mono (G' := fun b => (b = g174) ∨ (b = g168) ∨ (b = g9)) fun _ _ h => .inl h)).trans (hU186.mono (G' := fun b => (b = g174) ∨ (b = g168) ∨ (b = g9)) fun _ _ h => .inr (.inl h))).trans (Frm.of_ext (G := fun b => (b = g174) ∨ (b = g168) ∨ (b = g9)) hE276)).trans (hU281.mono (G' := fun b => (b = g174) ∨ (b = g168) ∨ (b = g9)) fun _ _ h => .inr (.inr h))) q3)
            have h285 := (hr_274.frmB hU281 q3)
            refine again (max nf ng - (k + 1)) (by omega) ⟨(k + 1), (L ++ [⟨gr_274, Ar_274, nr_274, cr_274, dr_274⟩]), rfl, rfl, rfl, rfl, rfl, rfl, rfl, (congrArg (Value.int .i64) (by omega)), (Frm.mono ((((((((hF27.mono (G' := fun b => (b = g9) ∨ (b = g174) ∨ (b = g168)) fun _ _ h => .inl h).trans (Frm.of_ext (G := fun b => (b = g9) ∨ (b = g174) ∨ (b = g168)) hE46)).trans (Frm.of_ext (G := fun b => (b = g9) ∨ (b = g174) ∨ (b = g168)) hE171)).trans (Frm.of_ext (G := fun b => (b = g9) ∨ (b = g174) ∨ (b = g168)) hE177)).trans (hU181.mono (G' := fun b => (b = g9) ∨ (b = g174) ∨ (b = g168)) fun _ _ h => .inr (.inl h))).trans (hU186.mono (G' := fun b => (b = g9) ∨ (b = g174) ∨ (b = g168)) fun _ _ h => .inr (.inr h))).trans (Frm.of_ext (G := fun b => (b = g9) ∨ (b = g174) ∨ (b = g168)) hE276)).trans (hU281.mono (G' := fun b => (b = g9) ∨ (b = g174) ∨ (b = g168)) fun _ _ h => .inl h)) q4), ?_, ?_, ?_, ?_, ?_, ?_⟩
            · exact hB283
            · omega
            · simp [hL]
            · exact AllN.snoc h284 (NatR.sub h285 q5) (by (try dsimp only); omega)
            · exact zs_snoc hz (by show zval _ _ = _; rw [v_274]; exact csub hzf245 hzf272)
            · exact AllC.snoc hC cn_274
    · refine sEv (v := (.bool false)) (evLss false rfl rfl (dF hc40)) rfl rfl ?_
      refine sDone ?_
      refine xN (hK39 _ _ ?_)
      refine wp_seq_k fun K286 hK286 => ?_
      refine cF rfl ?_
      refine wp_exit (xE (xE (bE ?_)))
      refine xN (hK16 _ _ ?_)
      refine wp_seq_k fun K287 hK287 => ?_
      refine wp_region_lit ?_
      refine sEv (v := (.slice (some ⟨g9, 0, none⟩) (max nf ng) (max nf ng))) (rfl) rfl rfl ?_
      refine sEv (v := (.slice (some ⟨g9, 0, none⟩) (max nf ng) (max nf ng))) (rfl) rfl rfl ?_
      refine sDone ?_
      refine xN (hK287 _ _ ?_)
      refine wp_ret ?_
      refine ret1 (.slice (some ⟨g9, 0, none⟩) (max nf ng) (max nf ng)) Try.results71 (resT rfl) ?_
      have h288 : PolyR w19 (fun b => g9 ≤ b) (some ⟨g9, 0, none⟩) (max nf ng) (max nf ng) (L ++ List.replicate (max nf ng - k) RI.zero) (Mf + Mg + 1) := PolyR.of_blk hB28 (AllN.app (AllN.sub hA q5) (AllN.zeros _)) (by (try dsimp only); omega) (by exact lq) (by omega) (by unfold CapMax; omega)
      exact ⟨(some ⟨g9, 0, none⟩), (max nf ng), (max nf ng), (L ++ List.replicate (max nf ng - k) RI.zero), rfl, (Frm.mono (((Frm.of_ext (G := fun b => (b = g9)) hE5).trans (Frm.of_ext (G := fun b => (b = g9)) hE12)).trans hF27) q4), (PolyR.le (PolyR.sub h288 q5) (by omega)), (by rw [show max nf ng - k = 0 by omega, List.replicate_zero, List.append_nil, hz]; unfold psub; congr 2; simp; omega), rfl, (AllC.app hC (AllC.zeros _))⟩

end Go.Proofs.Ytppegjbdencefaa
