/-
  Walks of package unipoly: products, sums, comparison.
-/
import Derived.Test.YtneolcopompkaaaGreatDoorUni1
namespace Go.Proofs.YtneolcopompkaaaGreatDoor
open Go.RowKit Go.Gx
set_option maxHeartbeats 1000000 in
theorem unipoly_convolve {w : World} {Sf : Nat → Prop} {Af : Option Addr} {nf cf Mf : Nat} {lf : List RI} {Sg : Nat → Prop} {Ag : Option Addr} {ng cg Mg : Nat} {lg : List RI}    (hf : PolyR w Sf Af nf cf lf Mf) (hg : PolyR w Sg Ag ng cg lg Mg) (hnf : nf ≤ 1048576) (hng : ng ≤ 1048576) (hMf : Mf ≤ 1073741824) (hMg : Mg ≤ 1073741824) : Calls Tryz.prog 52 #[(.slice Af nf cf), (.slice Ag ng cg), (.agg #[(.bool false), (.slice none 0 0)]), (.func (.func 12) #[] #[]), (.func (.func 33) #[] #[])] w (Ret fun v w' => ∃ (Ar : Option Addr) (nr : Nat) (cr : Nat) (lr : List RI), v = (.slice Ar nr cr) ∧ Ext w w' ∧ PolyR w' (fun b => w.heap.size ≤ b) Ar nr cr lr (Mf + Mg + nf + 1) ∧ (zs lr = pmul (zs lf) (zs lg)) ∧ (nr ≤ nf + ng) ∧ (AllC lr)) := by
  have ⟨kf, jf, mf⟩ := hf.lkm
  replace hf := hf.low
  have ⟨kg, jg, mg⟩ := hg.lkm
  replace hg := hg.low
  refine enter Tryz.func52 rfl Tryz.ntmps52 rfl (rS fun K1 hK1 => sO (oBox [(.bool false), (.slice none 0 0)] rfl rfl (fun g2 w3 hg4 hE5 hz6 hB7 => sAs rfl (sK hK1 (wp_seq_k fun K8 hK8 => rS fun K9 hK9 => sMs rfl (sV (evLen Tryz.underlying39 rfl) ?_))))))
  by_cases hc10 : ((nf : Int)) = 0
  · refine sV (evEql true rfl rfl (dT hc10)) (sMb rfl (sSkip rfl rfl (sSkip rfl rfl (sSkip rfl rfl (sV (v := (.bool true)) (rfl) (sK hK9 (cT rfl (rS fun K11 hK11 => sAs rfl (sK hK11 (wp_ret (xR (ret1 (.slice none 0 0) Tryz.results52 (resT rfl) ?_))))))))))))
    exact ⟨none, 0, 0, [], rfl, hE5, PolyR.nil, (by unfold pmul; rw [if_pos (by simp only [zlen]; omega)]; rfl), (by omega), AllC.nil⟩
  · refine sV (evEql false rfl rfl (dF hc10)) (sMb rfl (sEv (v := (.slice Ag ng cg)) (rfl) rfl rfl (sEv (v := (.int .i64 ((ng : Int)))) (evLen Tryz.underlying39 rfl) rfl rfl ?_)))
    by_cases hc12 : ((ng : Int)) = 0
    · refine sEv (v := (.bool true)) (evEql true rfl rfl (dT hc12)) rfl rfl (sV (v := (.bool true)) (rfl) (sK hK9 (cT rfl (rS fun K13 hK13 => sAs rfl (sK hK13 (wp_ret (xR (ret1 (.slice none 0 0) Tryz.results52 (resT rfl) ?_))))))))
      exact ⟨none, 0, 0, [], rfl, hE5, PolyR.nil, (by unfold pmul; rw [if_pos (by simp only [zlen]; omega)]; rfl), (by omega), AllC.nil⟩
    · refine sEv (v := (.bool false)) (evEql false rfl rfl (dF hc12)) rfl rfl (sV (v := (.bool false)) (rfl) (sK hK9 (cF rfl (wp_skip (xN (hK8 _ _ (rS fun K14 hK14 => sMs rfl (sV (evLen Tryz.underlying39 rfl) (sMs rfl (sV (evLen Tryz.underlying39 rfl) (sV (evAdd (((nf : Int)) + ((ng : Int))) rfl rfl wI) (sV (evSub ((((nf : Int)) + ((ng : Int))) - 1) rfl rfl wI) (sO (oMake2 (nf + ng - 1) Tryz.underlying39 inf25 cI cI (by omega) (by omega) (fun g15 w16 hg17 hE18 hz19 hB20 => ?_)))))))))))))))
      have hB21 : Blk w16 g15 25 (cellsI (List.replicate (nf + ng - 1) RI.zero)) := hB20
      refine sAs rfl (sK hK14 (wp_seq_k fun K22 hK22 => rS fun K23 hK23 => sMs rfl (sV (evLen Tryz.underlying39 rfl) (sMi rfl (sK hK23 (wp_block ?_))))))
      refine lLoop (fun m e w_ => ∃ (k : Nat) (L : List RI), m = (nf + ng - 1) - k ∧ e 0 = (.slice Af nf cf) ∧ e 1 = (.slice Ag ng cg) ∧ e 3 = (.func (.func 12) #[] #[]) ∧ e 4 = (.func (.func 33) #[] #[]) ∧ e 7 = (.pointer (some ⟨g2, 0, none⟩)) ∧ e 11 = (.slice (some ⟨g15, 0, none⟩) (nf + ng - 1) (nf + ng - 1)) ∧ e 31 = (.int .i64 (((nf + ng - 1 : Nat) : Int))) ∧ e 32 = (.int .i64 ((k : Int))) ∧ Frm (fun b => b = g15) w16 w_ ∧ Blk w_ g15 25 (cellsI (L ++ List.replicate ((nf + ng - 1) - k) RI.zero)) ∧ (k ≤ (nf + ng - 1)) ∧ (L.length = k) ∧ (AllN w_ (fun b => g15 < b) (Mf + Mg + nf + 1) L) ∧ (zs L = (List.range k).map (fun k => conv (zs lf) (zs lg) k)) ∧ (AllC L)) ((nf + ng - 1) - (0)) ?_ ?_
      · refine ⟨(0), ([]), rfl, rfl, rfl, rfl, rfl, rfl, rfl, rfl, cI, (Frm.refl _ _), ?_, ?_, ?_, ?_, ?_, ?_⟩
        · simpa using hB21
        · omega
        · rfl
        · exact AllN.nil
        · rfl
        · exact AllC.nil
      · rintro m24 e37 w25 ⟨k, L, hm36, hs26, hs27, hs28, hs29, hs30, hs31, hs32, hs33, hF34, hB35, hk, hL, hA, hz, hC⟩
        obtain ⟨r38, rfl⟩ := sq (e := e37) (t := 0) hs26
        obtain ⟨r39, rfl⟩ := sq (e := r38) (t := 1) hs27
        obtain ⟨r40, rfl⟩ := sq (e := r39) (t := 3) hs28
        obtain ⟨r41, rfl⟩ := sq (e := r40) (t := 4) hs29
        obtain ⟨r42, rfl⟩ := sq (e := r41) (t := 7) hs30
        obtain ⟨r43, rfl⟩ := sq (e := r42) (t := 11) hs31
        obtain ⟨r44, rfl⟩ := sq (e := r43) (t := 31) hs32
        obtain ⟨r45, rfl⟩ := sq (e := r44) (t := 32) hs33
        have hz46 := hF34.size
        refine rS fun K47 hK47 => ?_
        by_cases hc48 : ((k : Int)) < (((nf + ng - 1 : Nat) : Int))
        · refine sV (evLss true rfl rfl (dT hc48)) (sK hK47 (wp_seq_k fun K49 hK49 => cT rfl (wp_skip (xN (hK49 _ _ (wp_seq_k fun K50 hK50 => wp_block (rS fun K51 hK51 => sMi rfl (sAi rfl (sK hK51 (rS fun K52 hK52 => ?_))))))))))
          have hR53 := hE18.rx hF34
          have hB54 := (hB7.frm hR53 q1)
          refine sV (evLoadAB [(.bool false), (.slice none 0 0)] agg25 sz25 rfl hB54 rfl) (sO (oAlloc [(.bool false), (.slice none 0 0)] zero25 rfl (fun g55 w56 hg57 hE58 hz59 hB60 => sO (oStore [(.bool false), (.slice none 0 0)] rfl rfl rfl sz25 rfl hB60 (Nat.le_of_ble_eq_true rfl) (fun w61 hU62 hz63 hB64 => ?_)))))
          replace hB64 : Blk w61 g55 25 [(.bool false), (.slice none 0 0)] := hB64
          refine sK hK52 (wp_seq_k fun K65 hK65 => rS fun K66 hK66 => sMi rfl (sMs rfl (sV (evLen Tryz.underlying39 rfl) (sV (evSub (((k : Int)) - ((ng : Int))) rfl rfl wI) (sV (evAdd ((((k : Int)) - ((ng : Int))) + 1) rfl rfl wI) (sV (evMax (((k + 1 - ng : Nat) : Int)) rfl rfl (by split <;> omega)) (sAi rfl (sK hK66 (wp_block ?_)))))))))
          refine lLoop (fun m e w_ => ∃ (i : Nat) (gs : Bool) (As : Option Addr) (ns : Nat) (cs : Nat) (ds : List Nat), m = k + 1 - i ∧ e 0 = (.slice Af nf cf) ∧ e 1 = (.slice Ag ng cg) ∧ e 3 = (.func (.func 12) #[] #[]) ∧ e 4 = (.func (.func 33) #[] #[]) ∧ e 7 = (.pointer (some ⟨g2, 0, none⟩)) ∧ e 11 = (.slice (some ⟨g15, 0, none⟩) (nf + ng - 1) (nf + ng - 1)) ∧ e 12 = (.int .i64 ((k : Int))) ∧ e 13 = (.pointer (some ⟨g55, 0, none⟩)) ∧ e 14 = (.int .i64 ((i : Int))) ∧ e 31 = (.int .i64 (((nf + ng - 1 : Nat) : Int))) ∧ e 32 = (.int .i64 ((k : Int))) ∧ Frm (fun b => b = g55) w61 w_ ∧ Blk w_ g55 25 ([.bool gs, .slice As ns cs]) ∧ (i ≤ k + 1) ∧ (ns ≤ Mf + Mg + i) ∧ (NatR w_ (fun b => g15 < b) As ns cs ds) ∧ (zval gs ds = rsum (fun t => co (zs lf) t * co (zs lg) (k - t)) i) ∧ (ICan gs ds) ∧ (i ≤ nf ∨ i = k + 1 - ng) ∧ (k + 1 - ng ≤ i)) (k + 1 - (k + 1 - ng)) ?_ ?_
          · refine ⟨(k + 1 - ng), (false), (none), (0), (0), ([]), rfl, rfl, rfl, rfl, rfl, rfl, rfl, rfl, rfl, cI, rfl, rfl, (Frm.refl _ _), ?_, ?_, ?_, ?_, ?_, ?_, ?_, ?_⟩
            · exact hB64
            · omega
            · omega
            · exact NatR.nil
            · rw [zval_nil]; exact conv_lo (by simp only [zlen]; omega)
            · exact ICan.zero
            · omega
            · omega
          · rintro m67 e83 w68 ⟨i, gs, As, ns, cs, ds, hm82, hs69, hs70, hs71, hs72, hs73, hs74, hs75, hs76, hs77, hs78, hs79, hF80, hB81, hi, hnn, hN, hs, hcs, hin, hlo⟩
            obtain ⟨r84, rfl⟩ := sq (e := e83) (t := 0) hs69
            obtain ⟨r85, rfl⟩ := sq (e := r84) (t := 1) hs70
            obtain ⟨r86, rfl⟩ := sq (e := r85) (t := 3) hs71
            obtain ⟨r87, rfl⟩ := sq (e := r86) (t := 4) hs72
            obtain ⟨r88, rfl⟩ := sq (e := r87) (t := 7) hs73
            obtain ⟨r89, rfl⟩ := sq (e := r88) (t := 11) hs74
            obtain ⟨r90, rfl⟩ := sq (e := r89) (t := 12) hs75
            obtain ⟨r91, rfl⟩ := sq (e := r90) (t := 13) hs76
            obtain ⟨r92, rfl⟩ := sq (e := r91) (t := 14) hs77
            obtain ⟨r93, rfl⟩ := sq (e := r92) (t := 31) hs78
            obtain ⟨r94, rfl⟩ := sq (e := r93) (t := 32) hs79
            have hz95 := hF80.size
            have ⟨lsN, lsC, lsM⟩ := hN.lkm
            refine wp_seq_k fun K96 hK96 => rS fun K97 hK97 => sMi rfl (sMi rfl (sMs rfl (sV (evLen Tryz.underlying39 rfl) (sV (evSub (((nf : Int)) - 1) rfl rfl wI) (sV (evMin (((min k (nf - 1) : Nat) : Int)) rfl rfl (by split <;> omega)) ?_)))))
            by_cases hc98 : ((i : Int)) ≤ (((min k (nf - 1) : Nat) : Int))
            · refine sV (evLeq true rfl rfl (dT hc98)) (sK hK97 (cT rfl (wp_skip (xN (hK96 _ _ (wp_seq_k fun K99 hK99 => wp_block (dBegin (fun b => b = g55) mixed (fun w100 hE101 hz102 => dV 0 rfl (v := (.func (.func 12) #[] #[])) (fun _ _ => rfl) (dV 2 rfl (v := (.func (.func 33) #[] #[])) (fun _ _ => rfl) (dMs 3 rfl rfl (dMi 4 rfl rfl ?_)))))))))))
              have hR103 := (((((hE5.trans hE18).rx hF34).xr hE58).tr hU62).tr hF80).xr hE101
              have h104 := (hf.frmB hR103 q3)
              obtain ⟨b105, o106, rfl⟩ := h104.base (by omega)
              refine dV 5 rfl (fun _ _ => evIx i Tryz.underlying39 sz25 rfl rfl (o106 + (i * 2))) ?_
              obtain ⟨g_107, A_107, n_107, c_107, d_107, he_107, hp_107, hq_107, h_107, hM_107, hS_107, hb_107, z_107⟩ := h104.at_ (i := i) (by omega)
              have ⟨l_107, k_107, m_107⟩ := h_107.lkm
              refine dV 6 rfl (fun _ hf => evLoadA [(.bool g_107), (.slice A_107 n_107 c_107)] agg25 sz25 rfl (cell2F hp_107 hq_107 hf hb_107 (by (try dsimp only at hS_107 ⊢); omega))) (dMs 7 rfl rfl (dMi 8 rfl rfl (dMi 9 rfl rfl (dV 10 rfl (fun _ _ => evSub (((k : Int)) - ((i : Int))) rfl rfl wI) ?_))))
              have h109 := (hg.frmB hR103 q3)
              obtain ⟨b110, o111, rfl⟩ := h109.base (by omega)
              refine dV 11 rfl (fun _ _ => evIx (k - i) Tryz.underlying39 sz25 rfl rfl (o111 + ((k - i) * 2))) ?_
              obtain ⟨g_112, A_112, n_112, c_112, d_112, he_112, hp_112, hq_112, h_112, hM_112, hS_112, hb_112, z_112⟩ := h109.at_ (i := k - i) (by omega)
              have ⟨l_112, k_112, m_112⟩ := h_112.lkm
              refine dV 12 rfl (fun _ hf => evLoadA [(.bool g_112), (.slice A_112 n_112 c_112)] agg25 sz25 rfl (cell2F hp_112 hq_112 hf hb_112 (by (try dsimp only at hS_112 ⊢); omega))) (dTwo 1 13 (by kernel_rfl) ?_ ?_)
              · have hB114 := (hB81.ext hE101)
                refine dWp (i := 1) rfl rfl (oEv (v := (.agg #[(.bool gs), (.slice As ns cs)])) (evLoadAB [(.bool gs), (.slice As ns cs)] agg25 sz25 rfl hB114 rfl) rfl ⟨Frm.refl _ _, dOp 13 rfl rfl (by kernel_rfl) (oCall rfl call33 (integer_Mul h_107 h_112 (by omega)) rfl ?_)⟩)
                rintro _ w116 ⟨gr_115, Ar_115, nr_115, cr_115, dr_115, rfl, hE117, hr_115, v_115, cn_115, le_115⟩
                refine ⟨(Frm.of_ext hE117), ?_⟩
                have hz118 := hE117.size
                have ⟨lr_115, kr_115, mr_115⟩ := hr_115.lkm
                have hR120 := hE101.trans hE117
                have h121 := (hN.ext hR120)
                refine dOp 14 rfl rfl (by kernel_rfl) (oCall rfl call12 (integer_Add h121 hr_115 (by omega) (by omega)) rfl ?_)
                rintro _ w123 ⟨gr_122, Ar_122, nr_122, cr_122, dr_122, rfl, hE124, hr_122, v_122, cn_122, le_122⟩
                refine ⟨(Frm.of_ext hE124), ?_⟩
                have hz125 := hE124.size
                have ⟨lr_122, kr_122, mr_122⟩ := hr_122.lkm
                have hR127 := hE117.trans hE124
                have hB128 := (hB114.ext hR127)
                refine dOp 15 rfl rfl (by kernel_rfl) (oStore [(.bool gr_122), (.slice Ar_122 nr_122 cr_122)] rfl rfl rfl sz25 rfl hB128 (Nat.le_of_ble_eq_true rfl) (fun w129 hU130 hz131 hB132 => ?_))
                replace hB132 : Blk w129 g55 25 [(.bool gr_122), (.slice Ar_122 nr_122 cr_122)] := hB132
                refine ⟨hU130, dDone (by kernel_rfl) (bN (xN (hK99 _ _ (wp_region_lit (sMi rfl (sV (evAdd (((i : Int)) + 1) rfl rfl wI) (sAi rfl (sDone ?_))))))))⟩
                have hR133 := (hR120.trans hE124).rx hU130
                have h134 := (hr_122.frmB hU130 q3)
                refine again (k + 1 - (i + 1)) (by omega) ⟨(i + 1), (gr_122), (Ar_122), (nr_122), (cr_122), (dr_122), rfl, rfl, rfl, rfl, rfl, rfl, rfl, rfl, rfl, cI, rfl, rfl, (hF80.trans hR133), ?_, ?_, ?_, ?_, ?_, ?_, ?_, ?_⟩
                · exact hB132
                · omega
                · omega
                · exact NatR.sub h134 q5
                · rw [rsum_succ, v_122, hs, v_115]; exact cadd rfl (cmul z_107 z_112)
                · exact cn_122
                · omega
                · omega
              · refine dWp (i := 13) rfl rfl (oCall rfl call33 (integer_Mul h_107 h_112 (by omega)) rfl ?_)
                rintro _ w136 ⟨gr_135, Ar_135, nr_135, cr_135, dr_135, rfl, hE137, hr_135, v_135, cn_135, le_135⟩
                refine ⟨(Frm.of_ext hE137), ?_⟩
                have hz138 := hE137.size
                have ⟨lr_135, kr_135, mr_135⟩ := hr_135.lkm
                have hR140 := hE101.trans hE137
                have hB141 := (hB81.ext hR140)
                refine dOp 1 rfl rfl (by kernel_rfl) (oEv (v := (.agg #[(.bool gs), (.slice As ns cs)])) (evLoadAB [(.bool gs), (.slice As ns cs)] agg25 sz25 rfl hB141 rfl) rfl ⟨Frm.refl _ _, ?_⟩)
                have h142 := (hN.ext hR140)
                refine dOp 14 rfl rfl (by kernel_rfl) (oCall rfl call12 (integer_Add h142 hr_135 (by omega) (by omega)) rfl ?_)
                rintro _ w144 ⟨gr_143, Ar_143, nr_143, cr_143, dr_143, rfl, hE145, hr_143, v_143, cn_143, le_143⟩
                refine ⟨(Frm.of_ext hE145), ?_⟩
                have hz146 := hE145.size
                have ⟨lr_143, kr_143, mr_143⟩ := hr_143.lkm
                have hB148 := (hB141.ext hE145)
                refine dOp 15 rfl rfl (by kernel_rfl) (oStore [(.bool gr_143), (.slice Ar_143 nr_143 cr_143)] rfl rfl rfl sz25 rfl hB148 (Nat.le_of_ble_eq_true rfl) (fun w149 hU150 hz151 hB152 => ?_))
                replace hB152 : Blk w149 g55 25 [(.bool gr_143), (.slice Ar_143 nr_143 cr_143)] := hB152
                refine ⟨hU150, dDone (by kernel_rfl) (bN (xN (hK99 _ _ (wp_region_lit (sMi rfl (sV (evAdd (((i : Int)) + 1) rfl rfl wI) (sAi rfl (sDone ?_))))))))⟩
                have hR153 := (hR140.trans hE145).rx hU150
                have h154 := (hr_143.frmB hU150 q3)
                refine again (k + 1 - (i + 1)) (by omega) ⟨(i + 1), (gr_143), (Ar_143), (nr_143), (cr_143), (dr_143), rfl, rfl, rfl, rfl, rfl, rfl, rfl, rfl, rfl, cI, rfl, rfl, (hF80.trans hR153), ?_, ?_, ?_, ?_, ?_, ?_, ?_, ?_⟩
                · exact hB152
                · omega
                · omega
                · exact NatR.sub h154 q5
                · rw [rsum_succ, v_143, hs, v_135]; exact cadd rfl (cmul z_107 z_112)
                · exact cn_143
                · omega
                · omega
            · refine sV (evLeq false rfl rfl (dF hc98)) (sK hK97 (cF rfl (wp_exit (xE (xE (bE (xN (hK65 _ _ (wp_region_lit (sMs rfl (sMi rfl (sV (evLoadAB [(.bool gs), (.slice As ns cs)] agg25 sz25 rfl hB81 rfl) (sV (evIx k Tryz.underlying39 sz25 rfl rfl (k * 2)) ?_)))))))))))))
              have hR155 := (hE58.rx hU62).trans hF80
              have hB156 := (hB35.frm hR155 q1)
              refine sO (oStore [(.bool gs), (.slice As ns cs)] rfl rfl rfl sz25 rfl hB156 (by rw [cellsI_len]; simp only [List.length_cons, List.length_nil]; exact lq) (fun w157 hU158 hz159 hB160 => ?_))
              replace hB160 := (cellsI_set (l := L ++ List.replicate ((nf + ng - 1) - k) RI.zero) (i := k) ⟨gs, As, ns, cs, ds⟩ (by exact lq)) ▸ hB160
              replace hB160 : Blk w157 g15 25 (cellsI ((L ++ [⟨gs, As, ns, cs, ds⟩]) ++ List.replicate ((nf + ng - 1) - (k + 1)) RI.zero)) := (fillI_set hL (by omega) : (L ++ List.replicate ((nf + ng - 1) - k) RI.zero).set k ⟨gs, As, ns, cs, ds⟩ = (L ++ [⟨gs, As, ns, cs, ds⟩]) ++ List.replicate ((nf + ng - 1) - (k + 1)) RI.zero) ▸ hB160
              refine sDone (bN (xN (hK50 _ _ (wp_region_lit (sV (evAdd (((k : Int)) + 1) rfl rfl wI) (sMi rfl (sDone ?_)))))))
              have hR161 := hR155.tr hU158
              have h162 := (hA.frmB hR161 q3)
              have h163 := (hN.frmB hU158 q3)
              refine again ((nf + ng - 1) - (k + 1)) (by omega) ⟨(k + 1), (L ++ [⟨gs, As, ns, cs, ds⟩]), rfl, rfl, rfl, rfl, rfl, rfl, rfl, rfl, cI, (Frm.mono (hF34.tr hR161) q4), ?_, ?_, ?_, ?_, ?_, ?_⟩
              · exact hB160
              · omega
              · simp [hL]
              · exact AllN.snoc h162 (NatR.sub h163 q5) (by (try dsimp only); omega)
              · exact zs_snoc hz (by show zval _ _ = _; exact conv_end hs (by omega) (by simp only [zlen]; omega))
              · exact AllC.snoc hC hcs
        · refine sV (evLss false rfl rfl (dF hc48)) (sK hK47 (wp_seq_k fun K164 hK164 => cF rfl (wp_exit (xE (xE (bE (xN (hK22 _ _ (rS fun K165 hK165 => sMs rfl (sAs rfl (sK hK165 (wp_ret (ret1 (.slice (some ⟨g15, 0, none⟩) (nf + ng - 1) (nf + ng - 1)) Tryz.results52 (resT rfl) ?_)))))))))))))
          have h166 : PolyR w25 (fun b => g15 ≤ b) (some ⟨g15, 0, none⟩) (nf + ng - 1) (nf + ng - 1) (L ++ List.replicate ((nf + ng - 1) - k) RI.zero) (Mf + Mg + nf + 1) := PolyR.of_blk hB35 (AllN.app (AllN.sub hA q5) (AllN.zeros _)) (by (try dsimp only); omega) (by exact lq) (by omega) (by unfold CapMax; omega)
          have hR167 := (hE5.trans hE18).rx hF34
          exact ⟨(some ⟨g15, 0, none⟩), (nf + ng - 1), (nf + ng - 1), (L ++ List.replicate ((nf + ng - 1) - k) RI.zero), rfl, (Frm.mono hR167 q4), (PolyR.le (PolyR.sub h166 q5) (by omega)), (by rw [show (nf + ng - 1) - k = 0 by omega, List.replicate_zero, List.append_nil, hz]; exact pmul_pos (by simp only [zlen]; omega) (by simp only [zlen]; omega) (by simp only [zlen]; omega)), (by omega), (AllC.app hC (AllC.zeros _))⟩
theorem unipoly_Mul {w : World} {Sf : Nat → Prop} {Af : Option Addr} {nf cf Mf : Nat} {lf : List RI} {Sg : Nat → Prop} {Ag : Option Addr} {ng cg Mg : Nat} {lg : List RI} (hf : PolyR w Sf Af nf cf lf Mf) (hg : PolyR w Sg Ag ng cg lg Mg) (hnf : nf ≤ 1048576) (hng : ng ≤ 1048576) (hMf : Mf ≤ 1073741824) (hMg : Mg ≤ 1073741824) : Calls Tryz.prog 19 #[(.slice Af nf cf), (.slice Ag ng cg)] w (Ret fun v w' => ∃ (Ar : Option Addr) (nr : Nat) (cr : Nat) (lr : List RI), v = (.slice Ar nr cr) ∧ Ext w w' ∧ PolyR w' (fun b => w.heap.size ≤ b) Ar nr cr lr (Mf + Mg + nf + 1) ∧ (zs lr = trimZ (pmul (zs lf) (zs lg))) ∧ (nr ≤ nf + ng) ∧ (AllC lr)) := by
  have ⟨kf, jf, mf⟩ := hf.lkm
  replace hf := hf.low
  have ⟨kg, jg, mg⟩ := hg.lkm
  replace hg := hg.low
  refine enter Tryz.func19 rfl Tryz.ntmps19 rfl (rS fun K1 hK1 => sAs rfl (sK hK1 (rS fun K2 hK2 => sMs rfl (sO (oCall rfl call49 (unipoly_trim hf) rfl ?_)))))
  rintro _ w4 ⟨Ar_3, nr_3, cr_3, lr_3, rfl, hE5, hr_3, e_3, le_3⟩
  have hz6 := hE5.size
  have ⟨kr_3, jr_3, mr_3⟩ := hr_3.lkm
  refine sMs rfl ?_
  have h8 := (hg.ext hE5)
  refine sO (oCall rfl call49 (unipoly_trim h8) rfl ?_)
  rintro _ w10 ⟨Ar_9, nr_9, cr_9, lr_9, rfl, hE11, hr_9, e_9, le_9⟩
  have hz12 := hE11.size
  have ⟨kr_9, jr_9, mr_9⟩ := hr_9.lkm
  refine sV (v := (.agg #[(.bool false), (.slice none 0 0)])) (evK (by kernel_rfl)) ?_
  have h14 := (hr_3.ext hE11)
  refine sO (oCall rfl call52 (unipoly_convolve h14 hr_9 (by omega) (by omega) (by omega) (by omega)) rfl ?_)
  rintro _ w16 ⟨Ar_15, nr_15, cr_15, lr_15, rfl, hE17, hr_15, e_15, ln_15, cn_15⟩
  have hz18 := hE17.size
  have ⟨kr_15, jr_15, mr_15⟩ := hr_15.lkm
  refine sAs rfl (sK hK2 (wp_ret (ret1 (.slice Ar_15 nr_15 cr_15) Tryz.results19 (resT rfl) ?_)))
  have hR20 := (hE5.trans hE11).trans hE17
  exact ⟨Ar_15, nr_15, cr_15, lr_15, rfl, hR20, (PolyR.le (PolyR.sub hr_15 q5) (by omega)), (by rw [e_15, e_3, e_9, zs_trim, zs_trim, mul_trim]), (by omega), cn_15⟩
theorem unipoly_Add {w : World} {Sf : Nat → Prop} {Af : Option Addr} {nf cf Mf : Nat} {lf : List RI} {Sg : Nat → Prop} {Ag : Option Addr} {ng cg Mg : Nat} {lg : List RI} (hf : PolyR w Sf Af nf cf lf Mf) (hg : PolyR w Sg Ag ng cg lg Mg) (hnf : nf ≤ 1048576) (hng : ng ≤ 1048576) (hMf : Mf ≤ 1073741824) (hMg : Mg ≤ 1073741824) : Calls Tryz.prog 102 #[(.slice Af nf cf), (.slice Ag ng cg)] w (Ret fun v w' => ∃ (Ar : Option Addr) (nr : Nat) (cr : Nat) (lr : List RI), v = (.slice Ar nr cr) ∧ Ext w w' ∧ PolyR w' (fun b => w.heap.size ≤ b) Ar nr cr lr (Mf + Mg + 1) ∧ (zs lr = trimZ (padd (zs lf) (zs lg))) ∧ (nr ≤ max nf ng) ∧ (AllC lr)) := by
  have ⟨kf, jf, mf⟩ := hf.lkm
  replace hf := hf.low
  have ⟨kg, jg, mg⟩ := hg.lkm
  replace hg := hg.low
  refine enter Tryz.func102 rfl Tryz.ntmps102 rfl (rS fun K1 hK1 => sAs rfl (sK hK1 (rS fun K2 hK2 => sMs rfl (sMs rfl (sV (v := (.agg #[(.bool false), (.slice none 0 0)])) (evK (by kernel_rfl)) (sO (oCall rfl call107 (unipoly_combine_Add hf hg (by omega) (by omega) (by omega) (by omega)) rfl ?_)))))))
  rintro _ w4 ⟨Ar_3, nr_3, cr_3, lr_3, rfl, hE5, hr_3, e_3, ln_3, cn_3⟩
  have hz6 := hE5.size
  have ⟨kr_3, jr_3, mr_3⟩ := hr_3.lkm
  refine sO (oCall rfl call49 (unipoly_trim hr_3) rfl ?_)
  rintro _ w9 ⟨Ar_8, nr_8, cr_8, lr_8, rfl, hE10, hr_8, e_8, le_8⟩
  have hz11 := hE10.size
  have ⟨kr_8, jr_8, mr_8⟩ := hr_8.lkm
  refine sAs rfl (sK hK2 (wp_ret (ret1 (.slice Ar_8 nr_8 cr_8) Tryz.results102 (resT rfl) ?_)))
  have hR13 := hE5.trans hE10
  exact ⟨Ar_8, nr_8, cr_8, lr_8, rfl, hR13, (PolyR.le (PolyR.sub hr_8 q5) (by omega)), (by rw [e_8, zs_trim, e_3]), (by omega), (by rw [e_8]; exact cn_3.trim)⟩
theorem unipoly_Sub {w : World} {Sf : Nat → Prop} {Af : Option Addr} {nf cf Mf : Nat} {lf : List RI} {Sg : Nat → Prop} {Ag : Option Addr} {ng cg Mg : Nat} {lg : List RI} (hf : PolyR w Sf Af nf cf lf Mf) (hg : PolyR w Sg Ag ng cg lg Mg) (hnf : nf ≤ 1048576) (hng : ng ≤ 1048576) (hMf : Mf ≤ 1073741824) (hMg : Mg ≤ 1073741824) : Calls Tryz.prog 71 #[(.slice Af nf cf), (.slice Ag ng cg)] w (Ret fun v w' => ∃ (Ar : Option Addr) (nr : Nat) (cr : Nat) (lr : List RI), v = (.slice Ar nr cr) ∧ Ext w w' ∧ PolyR w' (fun b => w.heap.size ≤ b) Ar nr cr lr (Mf + Mg + 1) ∧ (zs lr = trimZ (psub (zs lf) (zs lg))) ∧ (nr ≤ max nf ng) ∧ (AllC lr)) := by
  have ⟨kf, jf, mf⟩ := hf.lkm
  replace hf := hf.low
  have ⟨kg, jg, mg⟩ := hg.lkm
  replace hg := hg.low
  refine enter Tryz.func71 rfl Tryz.ntmps71 rfl (rS fun K1 hK1 => sAs rfl (sK hK1 (rS fun K2 hK2 => sMs rfl (sMs rfl (sV (v := (.agg #[(.bool false), (.slice none 0 0)])) (evK (by kernel_rfl)) (sO (oCall rfl call107 (unipoly_combine_Sub hf hg (by omega) (by omega) (by omega) (by omega)) rfl ?_)))))))
  rintro _ w4 ⟨Ar_3, nr_3, cr_3, lr_3, rfl, hE5, hr_3, e_3, ln_3, cn_3⟩
  have hz6 := hE5.size
  have ⟨kr_3, jr_3, mr_3⟩ := hr_3.lkm
  refine sO (oCall rfl call49 (unipoly_trim hr_3) rfl ?_)
  rintro _ w9 ⟨Ar_8, nr_8, cr_8, lr_8, rfl, hE10, hr_8, e_8, le_8⟩
  have hz11 := hE10.size
  have ⟨kr_8, jr_8, mr_8⟩ := hr_8.lkm
  refine sAs rfl (sK hK2 (wp_ret (ret1 (.slice Ar_8 nr_8 cr_8) Tryz.results71 (resT rfl) ?_)))
  have hR13 := hE5.trans hE10
  exact ⟨Ar_8, nr_8, cr_8, lr_8, rfl, hR13, (PolyR.le (PolyR.sub hr_8 q5) (by omega)), (by rw [e_8, zs_trim, e_3]), (by omega), (by rw [e_8]; exact cn_3.trim)⟩
end Go.Proofs.YtneolcopompkaaaGreatDoor
