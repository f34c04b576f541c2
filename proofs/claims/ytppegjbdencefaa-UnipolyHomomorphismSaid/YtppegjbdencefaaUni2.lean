/-
  Walks of package unipoly: products, sums, comparison.
-/
import Derived.Test.YtppegjbdencefaaUni1
namespace Go.Proofs.Ytppegjbdencefaa
open Go.RowKit Go.Gx
set_option maxHeartbeats 1000000 in
theorem unipoly_convolve {w : World} {Sf : Nat → Prop} {Af : Option Addr} {nf cf Mf : Nat} {lf : List RI} {Sg : Nat → Prop} {Ag : Option Addr} {ng cg Mg : Nat} {lg : List RI}    (hf : PolyR w Sf Af nf cf lf Mf) (hg : PolyR w Sg Ag ng cg lg Mg) (hnf : nf ≤ 1048576) (hng : ng ≤ 1048576) (hMf : Mf ≤ 1073741824) (hMg : Mg ≤ 1073741824) : Calls Try.prog 67 #[(.slice Af nf cf), (.slice Ag ng cg), (.agg #[(.bool false), (.slice none 0 0)]), (.func (.func 56) #[] #[]), (.func (.func 69) #[] #[])] w (Ret fun v w' => ∃ (Ar : Option Addr) (nr : Nat) (cr : Nat) (lr : List RI), v = (.slice Ar nr cr) ∧ Ext w w' ∧ PolyR w' (fun b => w.heap.size ≤ b) Ar nr cr lr (Mf + Mg + nf + 1) ∧ (zs lr = pmul (zs lf) (zs lg)) ∧ (nr ≤ nf + ng) ∧ (AllC lr)) := by
  have kf := hf.len; have jf := hf.cap; have mf := hf.max
  replace hf := hf.low
  have kg := hg.len; have jg := hg.cap; have mg := hg.max
  replace hg := hg.low
  refine enter Try.func67 rfl Try.ntmps67 rfl ?_
  refine wp_seq_k fun K1 hK1 => ?_
  refine wp_region_lit ?_
  refine sOp rfl (oBox [(.bool false), (.slice none 0 0)] rfl rfl ?_)
  intro g2 w3 hg4 hE5 hz6 hB7
  refine sEv (v := (.slice none 0 0)) (rfl) rfl rfl ?_
  refine sDone ?_
  refine xN (hK1 _ _ ?_)
  refine wp_seq_k fun K8 hK8 => ?_
  refine wp_seq_k fun K9 hK9 => ?_
  refine wp_region_lit ?_
  refine sEv (v := (.slice Af nf cf)) (rfl) rfl rfl ?_
  refine sEv (v := (.int .i64 ((nf : Int)))) (evLen Try.underlying23 rfl) rfl rfl ?_
  by_cases hc10 : ((nf : Int)) = 0
  · refine sEv (v := (.bool true)) (evEql true rfl rfl (dT hc10)) rfl rfl ?_
    refine sEv (v := (.bool true)) (rfl) rfl rfl ?_
    refine sSkip rfl rfl ?_
    refine sSkip rfl rfl ?_
    refine sSkip rfl rfl ?_
    refine sEv (v := (.bool true)) (rfl) rfl rfl ?_
    refine sDone ?_
    refine xN (hK9 _ _ ?_)
    refine cT rfl ?_
    refine wp_seq_k fun K11 hK11 => ?_
    refine wp_region_lit ?_
    refine sEv (v := (.slice none 0 0)) (rfl) rfl rfl ?_
    refine sDone ?_
    refine xN (hK11 _ _ ?_)
    refine wp_ret (xR ?_)
    refine ret1 (.slice none 0 0) Try.results67 (resT rfl) ?_
    exact ⟨none, 0, 0, [], rfl, hE5, PolyR.nil, (by unfold pmul; rw [if_pos (by simp only [zlen]; omega)]; rfl), (by omega), AllC.nil⟩
  · refine sEv (v := (.bool false)) (evEql false rfl rfl (dF hc10)) rfl rfl ?_
    refine sEv (v := (.bool false)) (rfl) rfl rfl ?_
    refine sEv (v := (.slice Ag ng cg)) (rfl) rfl rfl ?_
    refine sEv (v := (.int .i64 ((ng : Int)))) (evLen Try.underlying23 rfl) rfl rfl ?_
    by_cases hc12 : ((ng : Int)) = 0
    · refine sEv (v := (.bool true)) (evEql true rfl rfl (dT hc12)) rfl rfl ?_
      refine sEv (v := (.bool true)) (rfl) rfl rfl ?_
      refine sDone ?_
      refine xN (hK9 _ _ ?_)
      refine cT rfl ?_
      refine wp_seq_k fun K13 hK13 => ?_
      refine wp_region_lit ?_
      refine sEv (v := (.slice none 0 0)) (rfl) rfl rfl ?_
      refine sDone ?_
      refine xN (hK13 _ _ ?_)
      refine wp_ret (xR ?_)
      refine ret1 (.slice none 0 0) Try.results67 (resT rfl) ?_
      exact ⟨none, 0, 0, [], rfl, hE5, PolyR.nil, (by unfold pmul; rw [if_pos (by simp only [zlen]; omega)]; rfl), (by omega), AllC.nil⟩
    · refine sEv (v := (.bool false)) (evEql false rfl rfl (dF hc12)) rfl rfl ?_
      refine sEv (v := (.bool false)) (rfl) rfl rfl ?_
      refine sDone ?_
      refine xN (hK9 _ _ ?_)
      refine cF rfl ?_
      refine wp_skip ?_
      refine xN (hK8 _ _ ?_)
      refine wp_seq_k fun K14 hK14 => ?_
      refine wp_region_lit ?_
      refine sEv (v := (.slice Af nf cf)) (rfl) rfl rfl ?_
      refine sEv (v := (.int .i64 ((nf : Int)))) (evLen Try.underlying23 rfl) rfl rfl ?_
      refine sEv (v := (.slice Ag ng cg)) (rfl) rfl rfl ?_
      refine sEv (v := (.int .i64 ((ng : Int)))) (evLen Try.underlying23 rfl) rfl rfl ?_
      refine sEv (v := (.int .i64 (((nf : Int)) + ((ng : Int))))) (evAdd (((nf : Int)) + ((ng : Int))) rfl rfl (wI64 (by omega))) rfl rfl ?_
      refine sEv (v := (.int .i64 ((((nf : Int)) + ((ng : Int))) - 1))) (evSub ((((nf : Int)) + ((ng : Int))) - 1) rfl rfl (wI64 (by omega))) rfl rfl ?_
      refine sOp rfl (oMake2 (nf + ng - 1) Try.underlying23 inf46 (congrArg (Value.int .i64) (by omega)) (congrArg (Value.int .i64) (by omega)) (by omega) (by omega) ?_)
      intro g15 w16 hg17 hE18 hz19 hB20
      have hB21 : Blk w16 g15 46 (cellsI (List.replicate (nf + ng - 1) RI.zero)) := hB20
      refine sEv (v := (.slice (some ⟨g15, 0, none⟩) (nf + ng - 1) (nf + ng - 1))) (rfl) rfl rfl ?_
      refine sDone ?_
      refine xN (hK14 _ _ ?_)
      refine wp_seq_k fun K22 hK22 => ?_
      refine wp_seq_k fun K23 hK23 => ?_
      refine wp_region_lit ?_
      refine sEv (v := (.slice (some ⟨g15, 0, none⟩) (nf + ng - 1) (nf + ng - 1))) (rfl) rfl rfl ?_
      refine sEv (v := (.int .i64 (((nf + ng - 1 : Nat) : Int)))) (evLen Try.underlying23 rfl) rfl rfl ?_
      refine sEv (v := (.int .i64 (0))) (rfl) rfl rfl ?_
      refine sDone ?_
      refine xN (hK23 _ _ ?_)
      refine wp_block ?_
      refine lLoop (fun m e w_ => ∃ (k : Nat) (L : List RI), m = (nf + ng - 1) - k ∧ e 0 = (.slice Af nf cf) ∧ e 1 = (.slice Ag ng cg) ∧ e 3 = (.func (.func 56) #[] #[]) ∧ e 4 = (.func (.func 69) #[] #[]) ∧ e 7 = (.pointer (some ⟨g2, 0, none⟩)) ∧ e 11 = (.slice (some ⟨g15, 0, none⟩) (nf + ng - 1) (nf + ng - 1)) ∧ e 31 = (.int .i64 (((nf + ng - 1 : Nat) : Int))) ∧ e 32 = (.int .i64 ((k : Int))) ∧ Frm (fun b => b = g15) w16 w_ ∧ Blk w_ g15 46 (cellsI (L ++ List.replicate ((nf + ng - 1) - k) RI.zero)) ∧ (k ≤ (nf + ng - 1)) ∧ (L.length = k) ∧ (AllN w_ (fun b => g15 < b) (Mf + Mg + nf + 1) L) ∧ (zs L = (List.range k).map (fun k => conv (zs lf) (zs lg) k)) ∧ (AllC L)) ((nf + ng - 1) - (0)) ?_ ?_
      · refine ⟨(0), ([]), rfl, rfl, rfl, rfl, rfl, rfl, rfl, rfl, (congrArg (Value.int .i64) (by omega)), (Frm.refl _ _), ?_, ?_, ?_, ?_, ?_, ?_⟩
        · simpa using hB21
        · omega
        · rfl
        · exact AllN.nil
        · rfl
        · exact AllC.nil
      · rintro m24 e37 w25 ⟨k, L, hm36, hs26, hs27, hs28, hs29, hs30, hs31, hs32, hs33, hF34, hB35, hk, hL, hA, hz, hC⟩
        obtain ⟨r38, rfl⟩ := sq (e := e37) (t := 0) hs26
        obtain ⟨r39, rfl⟩ := sq (e := r38) (t := 1) hs27
        obtain ⟨r40, rfl⟩ := sq (e := r39) (t := 3) hs28
        obtain ⟨r41, rfl⟩ := sq (e := r40) (t := 4) hs29
        obtain ⟨r42, rfl⟩ := sq (e := r41) (t := 7) hs30
        obtain ⟨r43, rfl⟩ := sq (e := r42) (t := 11) hs31
        obtain ⟨r44, rfl⟩ := sq (e := r43) (t := 31) hs32
        obtain ⟨r45, rfl⟩ := sq (e := r44) (t := 32) hs33
        have hz46 := hF34.size
        refine wp_seq_k fun K47 hK47 => ?_
        refine wp_region_lit ?_
        by_cases hc48 : ((k : Int)) < (((nf + ng - 1 : Nat) : Int))
        · refine sEv (v := (.bool true)) (evLss true rfl rfl (dT hc48)) rfl rfl ?_
          refine sDone ?_
          refine xN (hK47 _ _ ?_)
          refine wp_seq_k fun K49 hK49 => ?_
          refine cT rfl ?_
          refine wp_skip ?_
          refine xN (hK49 _ _ ?_)
          refine wp_seq_k fun K50 hK50 => ?_
          refine wp_block ?_
          refine wp_seq_k fun K51 hK51 => ?_
          refine wp_region_lit ?_
          refine sEv (v := (.int .i64 ((k : Int)))) (rfl) rfl rfl ?_
          refine sEv (v := (.int .i64 ((k : Int)))) (rfl) rfl rfl ?_
          refine sDone ?_
          refine xN (hK51 _ _ ?_)
          refine wp_seq_k fun K52 hK52 => ?_
          refine wp_region_lit ?_
          have hB53 := (hB7.frm ((Frm.of_ext (G := fun b => (b = g15)) hE18).trans hF34) q1)
          refine sEv (v := (.agg #[(.bool false), (.slice none 0 0)])) (evLoadAB [(.bool false), (.slice none 0 0)] agg46 sz46 rfl hB53 rfl) rfl rfl ?_
          refine sOp rfl (oAlloc [(.bool false), (.slice none 0 0)] zero46 rfl ?_)
          intro g54 w55 hg56 hE57 hz58 hB59
          refine sOp rfl (oStore [(.bool false), (.slice none 0 0)] rfl rfl rfl sz46 rfl hB59 (Nat.le_of_ble_eq_true rfl) ?_)
          intro w60 hU61 hz62 hB63
          replace hB63 : Blk w60 g54 46 [(.bool false), (.slice none 0 0)] := hB63
          refine sDone ?_
          refine xN (hK52 _ _ ?_)
          refine wp_seq_k fun K64 hK64 => ?_
          refine wp_seq_k fun K65 hK65 => ?_
          refine wp_region_lit ?_
          refine sEv (v := (.int .i64 ((k : Int)))) (rfl) rfl rfl ?_
          refine sEv (v := (.slice Ag ng cg)) (rfl) rfl rfl ?_
          refine sEv (v := (.int .i64 ((ng : Int)))) (evLen Try.underlying23 rfl) rfl rfl ?_
          refine sEv (v := (.int .i64 (((k : Int)) - ((ng : Int))))) (evSub (((k : Int)) - ((ng : Int))) rfl rfl (wI64 (by omega))) rfl rfl ?_
          refine sEv (v := (.int .i64 ((((k : Int)) - ((ng : Int))) + 1))) (evAdd ((((k : Int)) - ((ng : Int))) + 1) rfl rfl (wI64 (by omega))) rfl rfl ?_
          refine sEv (v := (.int .i64 (((k + 1 - ng : Nat) : Int)))) (evMax (((k + 1 - ng : Nat) : Int)) rfl rfl (by split <;> omega)) rfl rfl ?_
          refine sEv (v := (.int .i64 (((k + 1 - ng : Nat) : Int)))) (rfl) rfl rfl ?_
          refine sDone ?_
          refine xN (hK65 _ _ ?_)
          refine wp_block ?_
          refine lLoop (fun m e w_ => ∃ (i : Nat) (gs : Bool) (As : Option Addr) (ns : Nat) (cs : Nat) (ds : List Nat), m = k + 1 - i ∧ e 0 = (.slice Af nf cf) ∧ e 1 = (.slice Ag ng cg) ∧ e 3 = (.func (.func 56) #[] #[]) ∧ e 4 = (.func (.func 69) #[] #[]) ∧ e 7 = (.pointer (some ⟨g2, 0, none⟩)) ∧ e 11 = (.slice (some ⟨g15, 0, none⟩) (nf + ng - 1) (nf + ng - 1)) ∧ e 12 = (.int .i64 ((k : Int))) ∧ e 13 = (.pointer (some ⟨g54, 0, none⟩)) ∧ e 14 = (.int .i64 ((i : Int))) ∧ e 31 = (.int .i64 (((nf + ng - 1 : Nat) : Int))) ∧ e 32 = (.int .i64 ((k : Int))) ∧ Frm (fun b => b = g54) w60 w_ ∧ Blk w_ g54 46 ([.bool gs, .slice As ns cs]) ∧ (i ≤ k + 1) ∧ (ns ≤ Mf + Mg + i) ∧ (NatR w_ (fun b => g15 < b) As ns cs ds) ∧ (zval gs ds = rsum (fun t => co (zs lf) t * co (zs lg) (k - t)) i) ∧ (ICan gs ds) ∧ (i ≤ nf ∨ i = k + 1 - ng) ∧ (k + 1 - ng ≤ i)) (k + 1 - (k + 1 - ng)) ?_ ?_
          · refine ⟨(k + 1 - ng), (false), (none), (0), (0), ([]), rfl, rfl, rfl, rfl, rfl, rfl, rfl, rfl, rfl, (congrArg (Value.int .i64) (by omega)), rfl, rfl, (Frm.refl _ _), ?_, ?_, ?_, ?_, ?_, ?_, ?_, ?_⟩
            · exact hB63
            · omega
            · omega
            · exact NatR.nil
            · rw [zval_nil]; exact conv_lo (by simp only [zlen]; omega)
            · exact ICan.zero
            · omega
            · omega
          · rintro m66 e82 w67 ⟨i, gs, As, ns, cs, ds, hm81, hs68, hs69, hs70, hs71, hs72, hs73, hs74, hs75, hs76, hs77, hs78, hF79, hB80, hi, hnn, hN, hs, hcs, hin, hlo⟩
            obtain ⟨r83, rfl⟩ := sq (e := e82) (t := 0) hs68
            obtain ⟨r84, rfl⟩ := sq (e := r83) (t := 1) hs69
            obtain ⟨r85, rfl⟩ := sq (e := r84) (t := 3) hs70
            obtain ⟨r86, rfl⟩ := sq (e := r85) (t := 4) hs71
            obtain ⟨r87, rfl⟩ := sq (e := r86) (t := 7) hs72
            obtain ⟨r88, rfl⟩ := sq (e := r87) (t := 11) hs73
            obtain ⟨r89, rfl⟩ := sq (e := r88) (t := 12) hs74
            obtain ⟨r90, rfl⟩ := sq (e := r89) (t := 13) hs75
            obtain ⟨r91, rfl⟩ := sq (e := r90) (t := 14) hs76
            obtain ⟨r92, rfl⟩ := sq (e := r91) (t := 31) hs77
            obtain ⟨r93, rfl⟩ := sq (e := r92) (t := 32) hs78
            have hz94 := hF79.size
            have lsN := hN.len; have lsC := hN.cap; have lsM := hN.max
            refine wp_seq_k fun K95 hK95 => ?_
            refine wp_seq_k fun K96 hK96 => ?_
            refine wp_region_lit ?_
            refine sEv (v := (.int .i64 ((i : Int)))) (rfl) rfl rfl ?_
            refine sEv (v := (.int .i64 ((k : Int)))) (rfl) rfl rfl ?_
            refine sEv (v := (.slice Af nf cf)) (rfl) rfl rfl ?_
            refine sEv (v := (.int .i64 ((nf : Int)))) (evLen Try.underlying23 rfl) rfl rfl ?_
            refine sEv (v := (.int .i64 (((nf : Int)) - 1))) (evSub (((nf : Int)) - 1) rfl rfl (wI64 (by omega))) rfl rfl ?_
            refine sEv (v := (.int .i64 (((min k (nf - 1) : Nat) : Int)))) (evMin (((min k (nf - 1) : Nat) : Int)) rfl rfl (by split <;> omega)) rfl rfl ?_
            by_cases hc97 : ((i : Int)) ≤ (((min k (nf - 1) : Nat) : Int))
            · refine sEv (v := (.bool true)) (evLeq true rfl rfl (dT hc97)) rfl rfl ?_
              refine sDone ?_
              refine xN (hK96 _ _ ?_)
              refine cT rfl ?_
              refine wp_skip ?_
              refine xN (hK95 _ _ ?_)
              refine wp_seq_k fun K98 hK98 => ?_
              refine wp_block ?_
              refine dBegin (fun b => b = g54) mixed ?_
              intro w99 hE100 hz101
              refine dEv 0 rfl (v := (.func (.func 56) #[] #[])) (fun _ _ => rfl) rfl rfl (by kernel_rfl) ?_
              refine dEv 2 rfl (v := (.func (.func 69) #[] #[])) (fun _ _ => rfl) rfl rfl (by kernel_rfl) ?_
              refine dEv 3 rfl (v := (.slice Af nf cf)) (fun _ _ => rfl) rfl rfl (by kernel_rfl) ?_
              refine dEv 4 rfl (v := (.int .i64 ((i : Int)))) (fun _ _ => rfl) rfl rfl (by kernel_rfl) ?_
              have h102 := (hf.frmB (((((((Frm.of_ext (G := fun b => (b = g15) ∨ (b = g54)) hE5).trans (Frm.of_ext (G := fun b => (b = g15) ∨ (b = g54)) hE18)).trans (hF34.mono (G' := fun b => (b = g15) ∨ (b = g54)) fun _ _ h => .inl h)).trans (Frm.of_ext (G := fun b => (b = g15) ∨ (b = g54)) hE57)).trans (hU61.mono (G' := fun b => (b = g15) ∨ (b = g54)) fun _ _ h => .inr h)).trans (hF79.mono (G' := fun b => (b = g15) ∨ (b = g54)) fun _ _ h => .inr h)).trans (Frm.of_ext (G := fun b => (b = g15) ∨ (b = g54)) hE100)) q3)
              obtain ⟨b103, o104, rfl⟩ := h102.base (by omega)
              refine dEv 5 rfl (v := (.pointer (some ⟨b103, o104 + (i * 2), none⟩))) (fun _ _ => evIndex i Try.underlying23 sz46 rfl rfl (by omega) (by omega) (o104 + (i * 2)) (by omega)) rfl rfl (by kernel_rfl) ?_
              obtain ⟨g_105, A_105, n_105, c_105, d_105, he_105, hp_105, hq_105, h_105, hM_105, hS_105, hb_105, z_105⟩ := h102.at_ (i := i) (by omega)
              have l_105 := h_105.len; have k_105 := h_105.cap; have m_105 := h_105.max
              refine dEv 6 rfl (v := (.agg #[(.bool g_105), (.slice A_105 n_105 c_105)])) (fun _ hf => evLoadA [(.bool g_105), (.slice A_105 n_105 c_105)] agg46 sz46 rfl (cell2F hp_105 hq_105 hf hb_105 (by (try dsimp only at hS_105 ⊢); omega))) rfl rfl (by kernel_rfl) ?_
              refine dEv 7 rfl (v := (.slice Ag ng cg)) (fun _ _ => rfl) rfl rfl (by kernel_rfl) ?_
              refine dEv 8 rfl (v := (.int .i64 ((k : Int)))) (fun _ _ => rfl) rfl rfl (by kernel_rfl) ?_
              refine dEv 9 rfl (v := (.int .i64 ((i : Int)))) (fun _ _ => rfl) rfl rfl (by kernel_rfl) ?_
              refine dEv 10 rfl (v := (.int .i64 (((k : Int)) - ((i : Int))))) (fun _ _ => evSub (((k : Int)) - ((i : Int))) rfl rfl (wI64 (by omega))) rfl rfl (by kernel_rfl) ?_
              have h107 := (hg.frmB (((((((Frm.of_ext (G := fun b => (b = g15) ∨ (b = g54)) hE5).trans (Frm.of_ext (G := fun b => (b = g15) ∨ (b = g54)) hE18)).trans (hF34.mono (G' := fun b => (b = g15) ∨ (b = g54)) fun _ _ h => .inl h)).trans (Frm.of_ext (G := fun b => (b = g15) ∨ (b = g54)) hE57)).trans (hU61.mono (G' := fun b => (b = g15) ∨ (b = g54)) fun _ _ h => .inr h)).trans (hF79.mono (G' := fun b => (b = g15) ∨ (b = g54)) fun _ _ h => .inr h)).trans (Frm.of_ext (G := fun b => (b = g15) ∨ (b = g54)) hE100)) q3)
              obtain ⟨b108, o109, rfl⟩ := h107.base (by omega)
              refine dEv 11 rfl (v := (.pointer (some ⟨b108, o109 + ((k - i) * 2), none⟩))) (fun _ _ => evIndex (k - i) Try.underlying23 sz46 rfl rfl (by omega) (by omega) (o109 + ((k - i) * 2)) (by omega)) rfl rfl (by kernel_rfl) ?_
              obtain ⟨g_110, A_110, n_110, c_110, d_110, he_110, hp_110, hq_110, h_110, hM_110, hS_110, hb_110, z_110⟩ := h107.at_ (i := k - i) (by omega)
              have l_110 := h_110.len; have k_110 := h_110.cap; have m_110 := h_110.max
              refine dEv 12 rfl (v := (.agg #[(.bool g_110), (.slice A_110 n_110 c_110)])) (fun _ hf => evLoadA [(.bool g_110), (.slice A_110 n_110 c_110)] agg46 sz46 rfl (cell2F hp_110 hq_110 hf hb_110 (by (try dsimp only at hS_110 ⊢); omega))) rfl rfl (by kernel_rfl) ?_
              refine dTwo 1 13 (by kernel_rfl) ?_ ?_
              · have hB112 := (hB80.ext hE100)
                refine dWp (i := 1) rfl rfl (oEv (v := (.agg #[(.bool gs), (.slice As ns cs)])) (evLoadAB [(.bool gs), (.slice As ns cs)] agg46 sz46 rfl hB112 rfl) rfl ⟨Frm.refl _ _, ?_⟩)
                refine dOp 13 rfl rfl (by kernel_rfl) (oCall rfl call69 (integer_Mul h_105 h_110 (by omega)) rfl ?_)
                rintro _ w114 ⟨gr_113, Ar_113, nr_113, cr_113, dr_113, rfl, hE115, hr_113, v_113, cn_113, le_113⟩
                refine ⟨(Frm.of_ext hE115), ?_⟩
                have hz116 := hE115.size
                have lr_113 := hr_113.len; have kr_113 := hr_113.cap; have mr_113 := hr_113.max
                have h118 := (hN.ext (hE100.trans hE115))
                refine dOp 14 rfl rfl (by kernel_rfl) (oCall rfl call56 (integer_Add h118 hr_113 (by omega) (by omega)) rfl ?_)
                rintro _ w120 ⟨gr_119, Ar_119, nr_119, cr_119, dr_119, rfl, hE121, hr_119, v_119, cn_119, le_119⟩
                refine ⟨(Frm.of_ext hE121), ?_⟩
                have hz122 := hE121.size
                have lr_119 := hr_119.len; have kr_119 := hr_119.cap; have mr_119 := hr_119.max
                have hB124 := (hB112.ext (hE115.trans hE121))
                refine dOp 15 rfl rfl (by kernel_rfl) (oStore [(.bool gr_119), (.slice Ar_119 nr_119 cr_119)] rfl rfl rfl sz46 rfl hB124 (Nat.le_of_ble_eq_true rfl) ?_)
                intro w125 hU126 hz127 hB128
                replace hB128 : Blk w125 g54 46 [(.bool gr_119), (.slice Ar_119 nr_119 cr_119)] := hB128
                refine ⟨hU126, ?_⟩
                refine dDone (by kernel_rfl) ?_
                refine bN ?_
                refine xN (hK98 _ _ ?_)
                refine wp_region_lit ?_
                refine sEv (v := (.int .i64 ((i : Int)))) (rfl) rfl rfl ?_
                refine sEv (v := (.int .i64 (((i : Int)) + 1))) (evAdd (((i : Int)) + 1) rfl rfl (wI64 (by omega))) rfl rfl ?_
                refine sEv (v := (.int .i64 (((i : Int)) + 1))) (rfl) rfl rfl ?_
                refine sDone ?_
                have h129 := (hr_119.frmB hU126 q3)
                refine again (k + 1 - (i + 1)) (by omega) ⟨(i + 1), (gr_119), (Ar_119), (nr_119), (cr_119), (dr_119), rfl, rfl, rfl, rfl, rfl, rfl, rfl, rfl, rfl, (congrArg (Value.int .i64) (by omega)), rfl, rfl, ((((hF79.trans (Frm.of_ext (G := fun b => (b = g54)) hE100)).trans (Frm.of_ext (G := fun b => (b = g54)) hE115)).trans (Frm.of_ext (G := fun b => (b = g54)) hE121)).trans hU126), ?_, ?_, ?_, ?_, ?_, ?_, ?_, ?_⟩
                · exact hB128
                · omega
                · omega
                · exact NatR.sub h129 q5
                · rw [rsum_succ, v_119, hs, v_113]; exact cadd rfl (cmul z_105 z_110)
                · exact cn_119
                · omega
                · omega
              · refine dWp (i := 13) rfl rfl (oCall rfl call69 (integer_Mul h_105 h_110 (by omega)) rfl ?_)
                rintro _ w131 ⟨gr_130, Ar_130, nr_130, cr_130, dr_130, rfl, hE132, hr_130, v_130, cn_130, le_130⟩
                refine ⟨(Frm.of_ext hE132), ?_⟩
                have hz133 := hE132.size
                have lr_130 := hr_130.len; have kr_130 := hr_130.cap; have mr_130 := hr_130.max
                have hB135 := (hB80.ext (hE100.trans hE132))
                refine dOp 1 rfl rfl (by kernel_rfl) (oEv (v := (.agg #[(.bool gs), (.slice As ns cs)])) (evLoadAB [(.bool gs), (.slice As ns cs)] agg46 sz46 rfl hB135 rfl) rfl ⟨Frm.refl _ _, ?_⟩)
                have h136 := (hN.ext (hE100.trans hE132))
                refine dOp 14 rfl rfl (by kernel_rfl) (oCall rfl call56 (integer_Add h136 hr_130 (by omega) (by omega)) rfl ?_)
                rintro _ w138 ⟨gr_137, Ar_137, nr_137, cr_137, dr_137, rfl, hE139, hr_137, v_137, cn_137, le_137⟩
                refine ⟨(Frm.of_ext hE139), ?_⟩
                have hz140 := hE139.size
                have lr_137 := hr_137.len; have kr_137 := hr_137.cap; have mr_137 := hr_137.max
                have hB142 := (hB135.ext hE139)
                refine dOp 15 rfl rfl (by kernel_rfl) (oStore [(.bool gr_137), (.slice Ar_137 nr_137 cr_137)] rfl rfl rfl sz46 rfl hB142 (Nat.le_of_ble_eq_true rfl) ?_)
                intro w143 hU144 hz145 hB146
                replace hB146 : Blk w143 g54 46 [(.bool gr_137), (.slice Ar_137 nr_137 cr_137)] := hB146
                refine ⟨hU144, ?_⟩
                refine dDone (by kernel_rfl) ?_
                refine bN ?_
                refine xN (hK98 _ _ ?_)
                refine wp_region_lit ?_
                refine sEv (v := (.int .i64 ((i : Int)))) (rfl) rfl rfl ?_
                refine sEv (v := (.int .i64 (((i : Int)) + 1))) (evAdd (((i : Int)) + 1) rfl rfl (wI64 (by omega))) rfl rfl ?_
                refine sEv (v := (.int .i64 (((i : Int)) + 1))) (rfl) rfl rfl ?_
                refine sDone ?_
                have h147 := (hr_137.frmB hU144 q3)
                refine again (k + 1 - (i + 1)) (by omega) ⟨(i + 1), (gr_137), (Ar_137), (nr_137), (cr_137), (dr_137), rfl, rfl, rfl, rfl, rfl, rfl, rfl, rfl, rfl, (congrArg (Value.int .i64) (by omega)), rfl, rfl, ((((hF79.trans (Frm.of_ext (G := fun b => (b = g54)) hE100)).trans (Frm.of_ext (G := fun b => (b = g54)) hE132)).trans (Frm.of_ext (G := fun b => (b = g54)) hE139)).trans hU144), ?_, ?_, ?_, ?_, ?_, ?_, ?_, ?_⟩
                · exact hB146
                · omega
                · omega
                · exact NatR.sub h147 q5
                · rw [rsum_succ, v_137, hs, v_130]; exact cadd rfl (cmul z_105 z_110)
                · exact cn_137
                · omega
                · omega
            · refine sEv (v := (.bool false)) (evLeq false rfl rfl (dF hc97)) rfl rfl ?_
              refine sDone ?_
              refine xN (hK96 _ _ ?_)
              refine cF rfl ?_
              refine wp_exit (xE (xE (bE ?_)))
              refine xN (hK64 _ _ ?_)
              refine wp_region_lit ?_
              refine sEv (v := (.slice (some ⟨g15, 0, none⟩) (nf + ng - 1) (nf + ng - 1))) (rfl) rfl rfl ?_
              refine sEv (v := (.int .i64 ((k : Int)))) (rfl) rfl rfl ?_
              refine sEv (v := (.agg #[(.bool gs), (.slice As ns cs)])) (evLoadAB [(.bool gs), (.slice As ns cs)] agg46 sz46 rfl hB80 rfl) rfl rfl ?_
              refine sEv (v := (.pointer (some ⟨g15, k * 2, none⟩))) (evIndex k Try.underlying23 sz46 rfl rfl (by omega) (by omega) (k * 2) (by omega)) rfl rfl ?_
              have hB148 := (hB35.frm (((Frm.of_ext (G := fun b => (b = g54)) hE57).trans hU61).trans hF79) q1)
              refine sOp rfl (oStore [(.bool gs), (.slice As ns cs)] rfl rfl rfl sz46 rfl hB148 (by rw [cellsI_len]; simp only [List.length_cons, List.length_nil]; exact lq) ?_)
              intro w149 hU150 hz151 hB152
              replace hB152 := (cellsI_set (l := L ++ List.replicate ((nf + ng - 1) - k) RI.zero) (i := k) ⟨gs, As, ns, cs, ds⟩ (by exact lq)) ▸ hB152
              replace hB152 : Blk w149 g15 46 (cellsI ((L ++ [⟨gs, As, ns, cs, ds⟩]) ++ List.replicate ((nf + ng - 1) - (k + 1)) RI.zero)) := (fillI_set hL (by omega) : (L ++ List.replicate ((nf + ng - 1) - k) RI.zero).set k ⟨gs, As, ns, cs, ds⟩ = (L ++ [⟨gs, As, ns, cs, ds⟩]) ++ List.replicate ((nf + ng - 1) - (k + 1)) RI.zero) ▸ hB152
              refine sDone ?_
              refine bN ?_
              refine xN (hK50 _ _ ?_)
              refine wp_region_lit ?_
              refine sEv (v := (.int .i64 (((k : Int)) + 1))) (evAdd (((k : Int)) + 1) rfl rfl (wI64 (by omega))) rfl rfl ?_
              refine sEv (v := (.int .i64 (((k : Int)) + 1))) (rfl) rfl rfl ?_
              refine sDone ?_
              have h153 := (hA.frmB ((((Frm.of_ext (G := fun b => (b = g54) ∨ (b = g15)) hE57).trans (hU61.mono (G' := fun b => (b = g54) ∨ (b = g15)) fun _ _ h => .inl h)).trans (hF79.mono (G' := fun b => (b = g54) ∨ (b = g15)) fun _ _ h => .inl h)).trans (hU150.mono (G' := fun b => (b = g54) ∨ (b = g15)) fun _ _ h => .inr h)) q3)
              have h154 := (hN.frmB hU150 q3)
              refine again ((nf + ng - 1) - (k + 1)) (by omega) ⟨(k + 1), (L ++ [⟨gs, As, ns, cs, ds⟩]), rfl, rfl, rfl, rfl, rfl, rfl, rfl, rfl, (congrArg (Value.int .i64) (by omega)), (Frm.mono (((((hF34.mono (G' := fun b => (b = g15) ∨ (b = g54)) fun _ _ h => .inl h).trans (Frm.of_ext (G := fun b => (b = g15) ∨ (b = g54)) hE57)).trans (hU61.mono (G' := fun b => (b = g15) ∨ (b = g54)) fun _ _ h => .inr h)).trans (hF79.mono (G' := fun b => (b = g15) ∨ (b = g54)) fun _ _ h => .inr h)).trans (hU150.mono (G' := fun b => (b = g15) ∨ (b = g54)) fun _ _ h => .inl h)) q4), ?_, ?_, ?_, ?_, ?_, ?_⟩
              · exact hB152
              · omega
              · simp [hL]
              · exact AllN.snoc h153 (NatR.sub h154 q5) (by (try dsimp only); omega)
              · exact zs_snoc hz (by show zval _ _ = _; exact conv_end hs (by omega) (by simp only [zlen]; omega))
              · exact AllC.snoc hC hcs
        · refine sEv (v := (.bool false)) (evLss false rfl rfl (dF hc48)) rfl rfl ?_
          refine sDone ?_
          refine xN (hK47 _ _ ?_)
          refine wp_seq_k fun K155 hK155 => ?_
          refine cF rfl ?_
          refine wp_exit (xE (xE (bE ?_)))
          refine xN (hK22 _ _ ?_)
          refine wp_seq_k fun K156 hK156 => ?_
          refine wp_region_lit ?_
          refine sEv (v := (.slice (some ⟨g15, 0, none⟩) (nf + ng - 1) (nf + ng - 1))) (rfl) rfl rfl ?_
          refine sEv (v := (.slice (some ⟨g15, 0, none⟩) (nf + ng - 1) (nf + ng - 1))) (rfl) rfl rfl ?_
          refine sDone ?_
          refine xN (hK156 _ _ ?_)
          refine wp_ret ?_
          refine ret1 (.slice (some ⟨g15, 0, none⟩) (nf + ng - 1) (nf + ng - 1)) Try.results67 (resT rfl) ?_
          have h157 : PolyR w25 (fun b => g15 ≤ b) (some ⟨g15, 0, none⟩) (nf + ng - 1) (nf + ng - 1) (L ++ List.replicate ((nf + ng - 1) - k) RI.zero) (Mf + Mg + nf + 1) := PolyR.of_blk hB35 (AllN.app (AllN.sub hA q5) (AllN.zeros _)) (by (try dsimp only); omega) (by exact lq) (by omega) (by unfold CapMax; omega)
          exact ⟨(some ⟨g15, 0, none⟩), (nf + ng - 1), (nf + ng - 1), (L ++ List.replicate ((nf + ng - 1) - k) RI.zero), rfl, (Frm.mono (((Frm.of_ext (G := fun b => (b = g15)) hE5).trans (Frm.of_ext (G := fun b => (b = g15)) hE18)).trans hF34) q4), (PolyR.le (PolyR.sub h157 q5) (by omega)), (by rw [show (nf + ng - 1) - k = 0 by omega, List.replicate_zero, List.append_nil, hz]; exact pmul_pos (by simp only [zlen]; omega) (by simp only [zlen]; omega) (by simp only [zlen]; omega)), (by omega), (AllC.app hC (AllC.zeros _))⟩

theorem unipoly_Mul {w : World} {Sf : Nat → Prop} {Af : Option Addr} {nf cf Mf : Nat} {lf : List RI} {Sg : Nat → Prop} {Ag : Option Addr} {ng cg Mg : Nat} {lg : List RI} (hf : PolyR w Sf Af nf cf lf Mf) (hg : PolyR w Sg Ag ng cg lg Mg) (hnf : nf ≤ 1048576) (hng : ng ≤ 1048576) (hMf : Mf ≤ 1073741824) (hMg : Mg ≤ 1073741824) : Calls Try.prog 18 #[(.slice Af nf cf), (.slice Ag ng cg)] w (Ret fun v w' => ∃ (Ar : Option Addr) (nr : Nat) (cr : Nat) (lr : List RI), v = (.slice Ar nr cr) ∧ Ext w w' ∧ PolyR w' (fun b => w.heap.size ≤ b) Ar nr cr lr (Mf + Mg + nf + 1) ∧ (zs lr = trimZ (pmul (zs lf) (zs lg))) ∧ (nr ≤ nf + ng) ∧ (AllC lr)) := by
  have kf := hf.len; have jf := hf.cap; have mf := hf.max
  replace hf := hf.low
  have kg := hg.len; have jg := hg.cap; have mg := hg.max
  replace hg := hg.low
  refine enter Try.func18 rfl Try.ntmps18 rfl ?_
  refine wp_seq_k fun K1 hK1 => ?_
  refine wp_region_lit ?_
  refine sEv (v := (.slice none 0 0)) (rfl) rfl rfl ?_
  refine sDone ?_
  refine xN (hK1 _ _ ?_)
  refine wp_seq_k fun K2 hK2 => ?_
  refine wp_region_lit ?_
  refine sEv (v := (.slice Af nf cf)) (rfl) rfl rfl ?_
  refine sOp rfl (oCall rfl call68 (unipoly_trim hf) rfl ?_)
  rintro _ w4 ⟨Ar_3, nr_3, cr_3, lr_3, rfl, hE5, hr_3, e_3, le_3⟩
  have hz6 := hE5.size
  have kr_3 := hr_3.len; have jr_3 := hr_3.cap; have mr_3 := hr_3.max
  refine sEv (v := (.slice Ag ng cg)) (rfl) rfl rfl ?_
  have h8 := (hg.ext hE5)
  refine sOp rfl (oCall rfl call68 (unipoly_trim h8) rfl ?_)
  rintro _ w10 ⟨Ar_9, nr_9, cr_9, lr_9, rfl, hE11, hr_9, e_9, le_9⟩
  have hz12 := hE11.size
  have kr_9 := hr_9.len; have jr_9 := hr_9.cap; have mr_9 := hr_9.max
  refine sEv (v := (.agg #[(.bool false), (.slice none 0 0)])) (evK (by kernel_rfl)) rfl rfl ?_
  have h14 := (hr_3.ext hE11)
  refine sOp rfl (oCall rfl call67 (unipoly_convolve h14 hr_9 (by omega) (by omega) (by omega) (by omega)) rfl ?_)
  rintro _ w16 ⟨Ar_15, nr_15, cr_15, lr_15, rfl, hE17, hr_15, e_15, ln_15, cn_15⟩
  have hz18 := hE17.size
  have kr_15 := hr_15.len; have jr_15 := hr_15.cap; have mr_15 := hr_15.max
  refine sEv (v := (.slice Ar_15 nr_15 cr_15)) (rfl) rfl rfl ?_
  refine sDone ?_
  refine xN (hK2 _ _ ?_)
  refine wp_ret ?_
  refine ret1 (.slice Ar_15 nr_15 cr_15) Try.results18 (resT rfl) ?_
  exact ⟨Ar_15, nr_15, cr_15, lr_15, rfl, ((hE5.trans hE11).trans hE17), (PolyR.le (PolyR.sub hr_15 q5) (by omega)), (by rw [e_15, e_3, e_9, zs_trim, zs_trim, mul_trim]), (by omega), cn_15⟩

theorem unipoly_Add {w : World} {Sf : Nat → Prop} {Af : Option Addr} {nf cf Mf : Nat} {lf : List RI} {Sg : Nat → Prop} {Ag : Option Addr} {ng cg Mg : Nat} {lg : List RI} (hf : PolyR w Sf Af nf cf lf Mf) (hg : PolyR w Sg Ag ng cg lg Mg) (hnf : nf ≤ 1048576) (hng : ng ≤ 1048576) (hMf : Mf ≤ 1073741824) (hMg : Mg ≤ 1073741824) : Calls Try.prog 22 #[(.slice Af nf cf), (.slice Ag ng cg)] w (Ret fun v w' => ∃ (Ar : Option Addr) (nr : Nat) (cr : Nat) (lr : List RI), v = (.slice Ar nr cr) ∧ Ext w w' ∧ PolyR w' (fun b => w.heap.size ≤ b) Ar nr cr lr (Mf + Mg + 1) ∧ (zs lr = trimZ (padd (zs lf) (zs lg))) ∧ (nr ≤ max nf ng) ∧ (AllC lr)) := by
  have kf := hf.len; have jf := hf.cap; have mf := hf.max
  replace hf := hf.low
  have kg := hg.len; have jg := hg.cap; have mg := hg.max
  replace hg := hg.low
  refine enter Try.func22 rfl Try.ntmps22 rfl ?_
  refine wp_seq_k fun K1 hK1 => ?_
  refine wp_region_lit ?_
  refine sEv (v := (.slice none 0 0)) (rfl) rfl rfl ?_
  refine sDone ?_
  refine xN (hK1 _ _ ?_)
  refine wp_seq_k fun K2 hK2 => ?_
  refine wp_region_lit ?_
  refine sEv (v := (.slice Af nf cf)) (rfl) rfl rfl ?_
  refine sEv (v := (.slice Ag ng cg)) (rfl) rfl rfl ?_
  refine sEv (v := (.agg #[(.bool false), (.slice none 0 0)])) (evK (by kernel_rfl)) rfl rfl ?_
  refine sOp rfl (oCall rfl call71 (unipoly_combine_Add hf hg (by omega) (by omega) (by omega) (by omega)) rfl ?_)
  rintro _ w4 ⟨Ar_3, nr_3, cr_3, lr_3, rfl, hE5, hr_3, e_3, ln_3, cn_3⟩
  have hz6 := hE5.size
  have kr_3 := hr_3.len; have jr_3 := hr_3.cap; have mr_3 := hr_3.max
  refine sOp rfl (oCall rfl call68 (unipoly_trim hr_3) rfl ?_)
  rintro _ w9 ⟨Ar_8, nr_8, cr_8, lr_8, rfl, hE10, hr_8, e_8, le_8⟩
  have hz11 := hE10.size
  have kr_8 := hr_8.len; have jr_8 := hr_8.cap; have mr_8 := hr_8.max
  refine sEv (v := (.slice Ar_8 nr_8 cr_8)) (rfl) rfl rfl ?_
  refine sDone ?_
  refine xN (hK2 _ _ ?_)
  refine wp_ret ?_
  refine ret1 (.slice Ar_8 nr_8 cr_8) Try.results22 (resT rfl) ?_
  exact ⟨Ar_8, nr_8, cr_8, lr_8, rfl, (hE5.trans hE10), (PolyR.le (PolyR.sub hr_8 q5) (by omega)), (by rw [e_8, zs_trim, e_3]), (by omega), (by rw [e_8]; exact cn_3.trim)⟩

theorem unipoly_Sub {w : World} {Sf : Nat → Prop} {Af : Option Addr} {nf cf Mf : Nat} {lf : List RI} {Sg : Nat → Prop} {Ag : Option Addr} {ng cg Mg : Nat} {lg : List RI} (hf : PolyR w Sf Af nf cf lf Mf) (hg : PolyR w Sg Ag ng cg lg Mg) (hnf : nf ≤ 1048576) (hng : ng ≤ 1048576) (hMf : Mf ≤ 1073741824) (hMg : Mg ≤ 1073741824) : Calls Try.prog 24 #[(.slice Af nf cf), (.slice Ag ng cg)] w (Ret fun v w' => ∃ (Ar : Option Addr) (nr : Nat) (cr : Nat) (lr : List RI), v = (.slice Ar nr cr) ∧ Ext w w' ∧ PolyR w' (fun b => w.heap.size ≤ b) Ar nr cr lr (Mf + Mg + 1) ∧ (zs lr = trimZ (psub (zs lf) (zs lg))) ∧ (nr ≤ max nf ng) ∧ (AllC lr)) := by
  have kf := hf.len; have jf := hf.cap; have mf := hf.max
  replace hf := hf.low
  have kg := hg.len; have jg := hg.cap; have mg := hg.max
  replace hg := hg.low
  refine enter Try.func24 rfl Try.ntmps24 rfl ?_
  refine wp_seq_k fun K1 hK1 => ?_
  refine wp_region_lit ?_
  refine sEv (v := (.slice none 0 0)) (rfl) rfl rfl ?_
  refine sDone ?_
  refine xN (hK1 _ _ ?_)
  refine wp_seq_k fun K2 hK2 => ?_
  refine wp_region_lit ?_
  refine sEv (v := (.slice Af nf cf)) (rfl) rfl rfl ?_
  refine sEv (v := (.slice Ag ng cg)) (rfl) rfl rfl ?_
  refine sEv (v := (.agg #[(.bool false), (.slice none 0 0)])) (evK (by kernel_rfl)) rfl rfl ?_
  refine sOp rfl (oCall rfl call71 (unipoly_combine_Sub hf hg (by omega) (by omega) (by omega) (by omega)) rfl ?_)
  rintro _ w4 ⟨Ar_3, nr_3, cr_3, lr_3, rfl, hE5, hr_3, e_3, ln_3, cn_3⟩
  have hz6 := hE5.size
  have kr_3 := hr_3.len; have jr_3 := hr_3.cap; have mr_3 := hr_3.max
  refine sOp rfl (oCall rfl call68 (unipoly_trim hr_3) rfl ?_)
  rintro _ w9 ⟨Ar_8, nr_8, cr_8, lr_8, rfl, hE10, hr_8, e_8, le_8⟩
  have hz11 := hE10.size
  have kr_8 := hr_8.len; have jr_8 := hr_8.cap; have mr_8 := hr_8.max
  refine sEv (v := (.slice Ar_8 nr_8 cr_8)) (rfl) rfl rfl ?_
  refine sDone ?_
  refine xN (hK2 _ _ ?_)
  refine wp_ret ?_
  refine ret1 (.slice Ar_8 nr_8 cr_8) Try.results24 (resT rfl) ?_
  exact ⟨Ar_8, nr_8, cr_8, lr_8, rfl, (hE5.trans hE10), (PolyR.le (PolyR.sub hr_8 q5) (by omega)), (by rw [e_8, zs_trim, e_3]), (by omega), (by rw [e_8]; exact cn_3.trim)⟩

end Go.Proofs.Ytppegjbdencefaa
