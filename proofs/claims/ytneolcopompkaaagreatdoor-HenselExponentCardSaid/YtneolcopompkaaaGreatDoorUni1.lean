/-
  Walks of package unipoly: trim, sums, products, comparison.
-/
import Derived.Test.YtneolcopompkaaaGreatDoorInt1
import Derived.Test.YtneolcopompkaaaGreatDoorLibA
namespace Go.Proofs.YtneolcopompkaaaGreatDoor
open Go.RowKit Go.Gx
theorem unipoly_trim {w : World} {Sa : Nat → Prop} {Aa : Option Addr} {na ca Ma : Nat} {la : List RI} (ha : PolyR w Sa Aa na ca la Ma)  : Calls Tryz.prog 49 #[(.slice Aa na ca)] w (Ret fun v w' => ∃ (Ar : Option Addr) (nr : Nat) (cr : Nat) (lr : List RI), v = (.slice Ar nr cr) ∧ Ext w w' ∧ PolyR w' (Sa) Ar nr cr lr (Ma) ∧ (lr = trimB RI.isZ la) ∧ (nr ≤ na)) := by
  have ⟨ka, ja, ma⟩ := ha.lkm
  refine enter Tryz.func49 rfl Tryz.ntmps49 rfl (rS fun K1 hK1 => sAs rfl (sK hK1 (rS fun K2 hK2 => sMs rfl (sV (evLen Tryz.underlying39 rfl) (sAi rfl (sK hK2 (wp_seq_k fun K3 hK3 => wp_block ?_)))))))
  refine lLoop (fun m e w_ => ∃ (k : Nat), m = k ∧ e 0 = (.slice Aa na ca) ∧ e 3 = (.int .i64 ((k : Int))) ∧ Frm (fun b => False) w w_ ∧ (k ≤ na) ∧ (∀ j, k ≤ j → (zs la).getD j 0 = 0)) ((na)) ?_ ?_
  · refine ⟨(na), rfl, rfl, cI, (Frm.refl _ _), ?_, ?_⟩
    · omega
    · exact zget_ge (by simp; omega)
  · rintro m4 e10 w5 ⟨k, hm9, hs6, hs7, hF8, hk, hz⟩
    obtain ⟨r11, rfl⟩ := sq (e := e10) (t := 0) hs6
    obtain ⟨r12, rfl⟩ := sq (e := r11) (t := 3) hs7
    have hz13 := hF8.size
    refine wp_seq_k fun K14 hK14 => rS fun K15 hK15 => sMi rfl ?_
    by_cases hc16 : ((k : Int)) > 0
    · refine sV (evGtr true rfl rfl (dT hc16)) (sMb rfl (sEv (v := (.slice Aa na ca)) (rfl) rfl rfl (sEv (v := (.int .i64 ((k : Int)))) (rfl) rfl rfl (sEv (v := (.int .i64 (((k : Int)) - 1))) (evSub (((k : Int)) - 1) rfl rfl wI) rfl rfl ?_))))
      have h17 := (ha.ext hF8)
      obtain ⟨b18, o19, rfl⟩ := h17.base (by omega)
      refine sEv (v := (.pointer (some ⟨b18, o19 + ((k - 1) * 2), none⟩))) (evIx (k - 1) Tryz.underlying39 sz25 rfl rfl (o19 + ((k - 1) * 2))) rfl rfl ?_
      obtain ⟨g_20, A_20, n_20, c_20, d_20, he_20, hp_20, hq_20, h_20, hM_20, hS_20, hb_20, z_20⟩ := h17.at_ (i := k - 1) (by omega)
      have ⟨l_20, k_20, m_20⟩ := h_20.lkm
      refine sEv (v := (.agg #[(.bool g_20), (.slice A_20 n_20 c_20)])) (evLoadA [(.bool g_20), (.slice A_20 n_20 c_20)] agg25 sz25 rfl (cell2 hp_20 hq_20)) rfl rfl (sOp rfl (oCall rfl call29 (integer_Sign h_20) rfl ?_))
      rintro _ w23 ⟨xr_22, rfl, hE24, e_22⟩
      have hz25 := hE24.size
      by_cases hc26 : xr_22 = 0
      · refine sEv (v := (.bool true)) (evEql true rfl rfl (dT hc26)) rfl rfl ?_
        have hzz := (sign_zero_iff e_22 z_20).1 hc26
        refine sV (v := (.bool true)) (rfl) (sK hK15 (cT rfl (wp_skip (xN (hK14 _ _ (wp_block (wp_region_lit (sMi rfl (sV (evSub (((k : Int)) - 1) rfl rfl wI) (sAi rfl (sDone (bN (again ((k - 1)) (by omega) ⟨(k - 1), rfl, rfl, cI, (hF8.trans hE24), ?_, ?_⟩)))))))))))))
        · omega
        · exact zeros_downZ hz hzz
      · refine sEv (v := (.bool false)) (evEql false rfl rfl (dF hc26)) rfl rfl ?_
        have hzz := fun hh => hc26 ((sign_zero_iff e_22 z_20).2 hh)
        refine sV (v := (.bool false)) (rfl) (sK hK15 (cF rfl (wp_exit (xE (xE (bE (xN (hK3 _ _ (rS fun K27 hK27 => sMs rfl (sMi rfl ?_))))))))))
        have h28 := (h17.ext hE24)
        have h29 := h28.take (m := k) (by omega)
        refine sV (evSliceHi k Tryz.underlying39 sz25 rfl rfl (by omega) (by omega)) (sAs rfl (sK hK27 (wp_ret (ret1 (.slice (some ⟨b18, o19, none⟩) k ca) Tryz.results49 (resT rfl) ?_))))
        have hR31 := hF8.trans hE24
        exact ⟨(some ⟨b18, o19, none⟩), k, ca, ((la).take k), rfl, hR31, (PolyR.le h29 (by omega)), (trimI_of (by omega) hz (by first | omega | exact .inr hzz)), (by omega)⟩
    · refine sV (evGtr false rfl rfl (dF hc16)) (sMb rfl (sSkip rfl rfl (sSkip rfl rfl (sSkip rfl rfl (sSkip rfl rfl (sSkip rfl rfl (sSkip rfl rfl (sSkip rfl rfl (sV (v := (.bool false)) (rfl) (sK hK15 (cF rfl (wp_exit (xE (xE (bE (xN (hK3 _ _ (rS fun K32 hK32 => sMs rfl (sMi rfl ?_)))))))))))))))))))
      have h33 := (ha.ext hF8)
      have h34 := h33.take (m := k) (by omega)
      refine sV (evSliceHi k Tryz.underlying39 sz25 rfl rfl (by omega) (by omega)) (sAs rfl (sK hK32 (wp_ret (ret1 (.slice Aa k ca) Tryz.results49 (resT rfl) ?_))))
      exact ⟨Aa, k, ca, ((la).take k), rfl, hF8, (PolyR.le h34 (by omega)), (trimI_of (by omega) hz (by first | omega | exact .inr hzz)), (by omega)⟩
theorem unipoly_combine_Add {w : World} {Sf : Nat → Prop} {Af : Option Addr} {nf cf Mf : Nat} {lf : List RI} {Sg : Nat → Prop} {Ag : Option Addr} {ng cg Mg : Nat} {lg : List RI}   (hf : PolyR w Sf Af nf cf lf Mf) (hg : PolyR w Sg Ag ng cg lg Mg) (hnf : nf ≤ 1048576) (hng : ng ≤ 1048576) (hMf : Mf ≤ 1073741824) (hMg : Mg ≤ 1073741824) : Calls Tryz.prog 107 #[(.slice Af nf cf), (.slice Ag ng cg), (.agg #[(.bool false), (.slice none 0 0)]), (.func (.func 12) #[] #[])] w (Ret fun v w' => ∃ (Ar : Option Addr) (nr : Nat) (cr : Nat) (lr : List RI), v = (.slice Ar nr cr) ∧ Ext w w' ∧ PolyR w' (fun b => w.heap.size ≤ b) Ar nr cr lr (Mf + Mg + 1) ∧ (zs lr = padd (zs lf) (zs lg)) ∧ (nr = max nf ng) ∧ (AllC lr)) := by
  have ⟨kf, jf, mf⟩ := hf.lkm
  replace hf := hf.low
  have ⟨kg, jg, mg⟩ := hg.lkm
  replace hg := hg.low
  refine enter Tryz.func107 rfl Tryz.ntmps107 rfl (rS fun K1 hK1 => sO (oBox [(.bool false), (.slice none 0 0)] rfl rfl (fun g2 w3 hg4 hE5 hz6 hB7 => sAs rfl (sK hK1 (rS fun K8 hK8 => sMs rfl (sV (evLen Tryz.underlying39 rfl) (sMs rfl (sV (evLen Tryz.underlying39 rfl) (sV (evMax (((max nf ng : Nat) : Int)) rfl rfl (maxN)) (sO (oMake2 (max nf ng) Tryz.underlying39 inf25 cI cI (by omega) (by omega) (fun g9 w10 hg11 hE12 hz13 hB14 => ?_))))))))))))
  have hB15 : Blk w10 g9 25 (cellsI (List.replicate (max nf ng) RI.zero)) := hB14
  refine sAs rfl (sK hK8 (wp_seq_k fun K16 hK16 => rS fun K17 hK17 => sMs rfl (sV (evLen Tryz.underlying39 rfl) (sMi rfl (sK hK17 (wp_block ?_))))))
  refine lLoop (fun m e w_ => ∃ (k : Nat) (L : List RI), m = max nf ng - k ∧ e 0 = (.slice Af nf cf) ∧ e 1 = (.slice Ag ng cg) ∧ e 3 = (.func (.func 12) #[] #[]) ∧ e 6 = (.pointer (some ⟨g2, 0, none⟩)) ∧ e 9 = (.slice (some ⟨g9, 0, none⟩) (max nf ng) (max nf ng)) ∧ e 20 = (.int .i64 (((max nf ng : Nat) : Int))) ∧ e 21 = (.int .i64 ((k : Int))) ∧ Frm (fun b => b = g9) w10 w_ ∧ Blk w_ g9 25 (cellsI (L ++ List.replicate (max nf ng - k) RI.zero)) ∧ (k ≤ max nf ng) ∧ (L.length = k) ∧ (AllN w_ (fun b => g9 < b) (Mf + Mg + 1) L) ∧ (zs L = (List.range k).map (fun i => co (zs lf) i + co (zs lg) i)) ∧ (AllC L)) (max nf ng - (0)) ?_ ?_
  · refine ⟨(0), ([]), rfl, rfl, rfl, rfl, rfl, rfl, rfl, cI, (Frm.refl _ _), ?_, ?_, ?_, ?_, ?_, ?_⟩
    · simpa using hB15
    · omega
    · rfl
    · exact AllN.nil
    · rfl
    · exact AllC.nil
  · rintro m18 e30 w19 ⟨k, L, hm29, hs20, hs21, hs22, hs23, hs24, hs25, hs26, hF27, hB28, hk, hL, hA, hz, hC⟩
    obtain ⟨r31, rfl⟩ := sq (e := e30) (t := 0) hs20
    obtain ⟨r32, rfl⟩ := sq (e := r31) (t := 1) hs21
    obtain ⟨r33, rfl⟩ := sq (e := r32) (t := 3) hs22
    obtain ⟨r34, rfl⟩ := sq (e := r33) (t := 6) hs23
    obtain ⟨r35, rfl⟩ := sq (e := r34) (t := 9) hs24
    obtain ⟨r36, rfl⟩ := sq (e := r35) (t := 20) hs25
    obtain ⟨r37, rfl⟩ := sq (e := r36) (t := 21) hs26
    have hz38 := hF27.size
    refine rS fun K39 hK39 => ?_
    by_cases hc40 : ((k : Int)) < (((max nf ng : Nat) : Int))
    · refine sV (evLss true rfl rfl (dT hc40)) (sK hK39 (wp_seq_k fun K41 hK41 => cT rfl (wp_skip (xN (hK41 _ _ (wp_seq_k fun K42 hK42 => wp_block (rS fun K43 hK43 => sMi rfl (sAi rfl (sK hK43 (wp_seq_k fun K44 hK44 => dBegin (fun b => w19.heap.size ≤ b) mixed (fun w45 hE46 hz47 => ?_)))))))))))
      have hR48 := (hE12.rx hF27).xr hE46
      have hB49 := (hB7.frm hR48 q1)
      refine dV 0 rfl (fun _ hf => evLoadAB [(.bool false), (.slice none 0 0)] agg25 sz25 rfl (hB49.frm hf q1) rfl) (dV 1 rfl (fun _ hf => evLoadAB [(.bool false), (.slice none 0 0)] agg25 sz25 rfl (hB49.frm hf q1) rfl) (wAl2 (fun k => bif Nat.beq k 2 then (11, 25, [(.bool false), (.slice none 0 0)]) else (12, 25, [(.bool false), (.slice none 0 0)])) 2 3 (alOp rfl rfl zero25 rfl) (alOp rfl rfl zero25 rfl) rfl fun F50 => wEnd2 F50 #[true, true, true, true, false, false] (by kernel_rfl) fun g51 g52 w53 hE54 hb55 hb56 hne61 hB57 hB58 ho59 ho60 => ?_))
      have hz62 := hE54.size
      have lt63 := hB57.lt
      have lt64 := hB58.lt
      refine dOp 4 rfl rfl (by kernel_rfl) (oStore [(.bool false), (.slice none 0 0)] rfl rfl rfl sz25 rfl hB57 (Nat.le_of_ble_eq_true rfl) (fun w65 hU66 hz67 hB68 => ?_))
      replace hB68 : Blk w65 g51 25 [(.bool false), (.slice none 0 0)] := hB68
      refine ⟨(hU66.mono q4), ?_⟩
      have hB69 := (hB58.frm hU66 q1)
      refine dOp 5 rfl rfl (by kernel_rfl) (oStore [(.bool false), (.slice none 0 0)] rfl rfl rfl sz25 rfl hB69 (Nat.le_of_ble_eq_true rfl) (fun w70 hU71 hz72 hB73 => ?_))
      replace hB73 : Blk w70 g52 25 [(.bool false), (.slice none 0 0)] := hB73
      refine ⟨(hU71.mono q4), dDone (by kernel_rfl) (xN (hK44 _ _ (wp_seq_k fun K74 hK74 => rS fun K75 hK75 => sMi rfl (sMs rfl (sV (evLen Tryz.underlying39 rfl) ?_)))))⟩
      by_cases hc76 : ((k : Int)) < ((nf : Int))
      · refine sV (evLss true rfl rfl (dT hc76)) (sK hK75 (cT rfl (wp_region_lit (sMs rfl (sMi rfl ?_)))))
        have hR77 := (((((hE5.trans hE12).rx hF27).xr hE46).xr hE54).tr hU66).tr hU71
        have h78 := (hf.frmB hR77 q3)
        obtain ⟨b79, o80, rfl⟩ := h78.base (by omega)
        refine sV (evIx k Tryz.underlying39 sz25 rfl rfl (o80 + (k * 2))) ?_
        obtain ⟨g_81, A_81, n_81, c_81, d_81, he_81, hp_81, hq_81, h_81, hM_81, hS_81, hb_81, z_81⟩ := h78.at_ (i := k) (by omega)
        have ⟨l_81, k_81, m_81⟩ := h_81.lkm
        refine sV (evLoadA [(.bool g_81), (.slice A_81 n_81 c_81)] agg25 sz25 rfl (cell2 hp_81 hq_81)) ?_
        have hB83 := (hB68.frm hU71 q1)
        refine sO (oStore [(.bool g_81), (.slice A_81 n_81 c_81)] rfl rfl rfl sz25 rfl hB83 (Nat.le_of_ble_eq_true rfl) (fun w84 hU85 hz86 hB87 => ?_))
        replace hB87 : Blk w84 g51 25 [(.bool g_81), (.slice A_81 n_81 c_81)] := hB87
        refine sK hK74 (wp_seq_k fun K88 hK88 => rS fun K89 hK89 => sMi rfl (sMs rfl (sV (evLen Tryz.underlying39 rfl) ?_)))
        by_cases hc90 : ((k : Int)) < ((ng : Int))
        · refine sV (evLss true rfl rfl (dT hc90)) (sK hK89 (cT rfl (wp_region_lit (sMs rfl (sMi rfl ?_)))))
          have hR91 := hR77.tr hU85
          have h92 := (hg.frmB hR91 q3)
          obtain ⟨b93, o94, rfl⟩ := h92.base (by omega)
          refine sV (evIx k Tryz.underlying39 sz25 rfl rfl (o94 + (k * 2))) ?_
          obtain ⟨g_95, A_95, n_95, c_95, d_95, he_95, hp_95, hq_95, h_95, hM_95, hS_95, hb_95, z_95⟩ := h92.at_ (i := k) (by omega)
          have ⟨l_95, k_95, m_95⟩ := h_95.lkm
          refine sV (evLoadA [(.bool g_95), (.slice A_95 n_95 c_95)] agg25 sz25 rfl (cell2 hp_95 hq_95)) ?_
          have hB97 := (hB73.frm hU85 q1)
          refine sO (oStore [(.bool g_95), (.slice A_95 n_95 c_95)] rfl rfl rfl sz25 rfl hB97 (Nat.le_of_ble_eq_true rfl) (fun w98 hU99 hz100 hB101 => ?_))
          replace hB101 : Blk w98 g52 25 [(.bool g_95), (.slice A_95 n_95 c_95)] := hB101
          refine sK hK88 (wp_region_lit (sMs rfl (sMi rfl (sV (v := (.func (.func 12) #[] #[])) (rfl) ?_))))
          have hB102 := (hB87.frm hU99 q1)
          refine sV (evLoadAB [(.bool g_81), (.slice A_81 n_81 c_81)] agg25 sz25 rfl hB102 rfl) (sV (evLoadAB [(.bool g_95), (.slice A_95 n_95 c_95)] agg25 sz25 rfl hB101 rfl) ?_)
          have hR103 := hU85.tr hU99
          have h104 := (h_81.frmB hR103 q3)
          have h105 := (h_95.frmB hU99 q3)
          refine sO (oCall rfl call12 (integer_Add h104 h105 (by omega) (by omega)) rfl ?_)
          rintro _ w107 ⟨gr_106, Ar_106, nr_106, cr_106, dr_106, rfl, hE108, hr_106, v_106, cn_106, le_106⟩
          have hz109 := hE108.size
          have ⟨lr_106, kr_106, mr_106⟩ := hr_106.lkm
          refine sV (evIx k Tryz.underlying39 sz25 rfl rfl (k * 2)) ?_
          have hR111 := (((((hE46.trans hE54).rx hU66).tr hU71).tr hU85).tr hU99).xr hE108
          have hB112 := (hB28.frm hR111 q1)
          refine sO (oStore [(.bool gr_106), (.slice Ar_106 nr_106 cr_106)] rfl rfl rfl sz25 rfl hB112 (by rw [cellsI_len]; simp only [List.length_cons, List.length_nil]; exact lq) (fun w113 hU114 hz115 hB116 => ?_))
          replace hB116 := (cellsI_set (l := L ++ List.replicate (max nf ng - k) RI.zero) (i := k) ⟨gr_106, Ar_106, nr_106, cr_106, dr_106⟩ (by exact lq)) ▸ hB116
          replace hB116 : Blk w113 g9 25 (cellsI ((L ++ [⟨gr_106, Ar_106, nr_106, cr_106, dr_106⟩]) ++ List.replicate (max nf ng - (k + 1)) RI.zero)) := (fillI_set hL (by omega) : (L ++ List.replicate (max nf ng - k) RI.zero).set k ⟨gr_106, Ar_106, nr_106, cr_106, dr_106⟩ = (L ++ [⟨gr_106, Ar_106, nr_106, cr_106, dr_106⟩]) ++ List.replicate (max nf ng - (k + 1)) RI.zero) ▸ hB116
          refine sDone (bN (xN (hK42 _ _ (wp_region_lit (sV (evAdd (((k : Int)) + 1) rfl rfl wI) (sMi rfl (sDone ?_)))))))
          have hR117 := hR111.tr hU114
          have h118 := (hA.frmB hR117 q3)
          have h119 := (hr_106.frmB hU114 q3)
          refine again (max nf ng - (k + 1)) (by omega) ⟨(k + 1), (L ++ [⟨gr_106, Ar_106, nr_106, cr_106, dr_106⟩]), rfl, rfl, rfl, rfl, rfl, rfl, rfl, cI, (Frm.mono (hF27.tr hR117) q4), ?_, ?_, ?_, ?_, ?_, ?_⟩
          · exact hB116
          · omega
          · simp [hL]
          · exact AllN.snoc h118 (NatR.sub h119 q5) (by (try dsimp only); omega)
          · exact zs_snoc hz (by show zval _ _ = _; rw [v_106]; exact cadd z_81 z_95)
          · exact AllC.snoc hC cn_106
        · refine sV (evLss false rfl rfl (dF hc90)) ?_
          have hzf120 : zval false [] = co (zs lg) k := by rw [zval_nil, co_ge (by simp; omega)]
          refine sK hK89 (cF rfl (wp_skip (xN (hK88 _ _ (wp_region_lit (sMs rfl (sMi rfl (sV (v := (.func (.func 12) #[] #[])) (rfl) (sV (evLoadAB [(.bool g_81), (.slice A_81 n_81 c_81)] agg25 sz25 rfl hB87 rfl) ?_)))))))))
          have hB121 := (hB73.frm hU85 q1)
          refine sV (evLoadAB [(.bool false), (.slice none 0 0)] agg25 sz25 rfl hB121 rfl) ?_
          have h122 := (h_81.frmB hU85 q3)
          refine sO (oCall rfl call12 (integer_Add h122 (NatR.nil (S := fun _ => True)) (by omega) (by omega)) rfl ?_)
          rintro _ w124 ⟨gr_123, Ar_123, nr_123, cr_123, dr_123, rfl, hE125, hr_123, v_123, cn_123, le_123⟩
          have hz126 := hE125.size
          have ⟨lr_123, kr_123, mr_123⟩ := hr_123.lkm
          refine sV (evIx k Tryz.underlying39 sz25 rfl rfl (k * 2)) ?_
          have hR128 := ((((hE46.trans hE54).rx hU66).tr hU71).tr hU85).xr hE125
          have hB129 := (hB28.frm hR128 q1)
          refine sO (oStore [(.bool gr_123), (.slice Ar_123 nr_123 cr_123)] rfl rfl rfl sz25 rfl hB129 (by rw [cellsI_len]; simp only [List.length_cons, List.length_nil]; exact lq) (fun w130 hU131 hz132 hB133 => ?_))
          replace hB133 := (cellsI_set (l := L ++ List.replicate (max nf ng - k) RI.zero) (i := k) ⟨gr_123, Ar_123, nr_123, cr_123, dr_123⟩ (by exact lq)) ▸ hB133
          replace hB133 : Blk w130 g9 25 (cellsI ((L ++ [⟨gr_123, Ar_123, nr_123, cr_123, dr_123⟩]) ++ List.replicate (max nf ng - (k + 1)) RI.zero)) := (fillI_set hL (by omega) : (L ++ List.replicate (max nf ng - k) RI.zero).set k ⟨gr_123, Ar_123, nr_123, cr_123, dr_123⟩ = (L ++ [⟨gr_123, Ar_123, nr_123, cr_123, dr_123⟩]) ++ List.replicate (max nf ng - (k + 1)) RI.zero) ▸ hB133
          refine sDone (bN (xN (hK42 _ _ (wp_region_lit (sV (evAdd (((k : Int)) + 1) rfl rfl wI) (sMi rfl (sDone ?_)))))))
          have hR134 := hR128.tr hU131
          have h135 := (hA.frmB hR134 q3)
          have h136 := (hr_123.frmB hU131 q3)
          refine again (max nf ng - (k + 1)) (by omega) ⟨(k + 1), (L ++ [⟨gr_123, Ar_123, nr_123, cr_123, dr_123⟩]), rfl, rfl, rfl, rfl, rfl, rfl, rfl, cI, (Frm.mono (hF27.tr hR134) q4), ?_, ?_, ?_, ?_, ?_, ?_⟩
          · exact hB133
          · omega
          · simp [hL]
          · exact AllN.snoc h135 (NatR.sub h136 q5) (by (try dsimp only); omega)
          · exact zs_snoc hz (by show zval _ _ = _; rw [v_123]; exact cadd z_81 hzf120)
          · exact AllC.snoc hC cn_123
      · refine sV (evLss false rfl rfl (dF hc76)) ?_
        have hzf137 : zval false [] = co (zs lf) k := by rw [zval_nil, co_ge (by simp; omega)]
        refine sK hK75 (cF rfl (wp_skip (xN (hK74 _ _ (wp_seq_k fun K138 hK138 => rS fun K139 hK139 => sMi rfl (sMs rfl (sV (evLen Tryz.underlying39 rfl) ?_)))))))
        by_cases hc140 : ((k : Int)) < ((ng : Int))
        · refine sV (evLss true rfl rfl (dT hc140)) (sK hK139 (cT rfl (wp_region_lit (sMs rfl (sMi rfl ?_)))))
          have hR141 := (((((hE5.trans hE12).rx hF27).xr hE46).xr hE54).tr hU66).tr hU71
          have h142 := (hg.frmB hR141 q3)
          obtain ⟨b143, o144, rfl⟩ := h142.base (by omega)
          refine sV (evIx k Tryz.underlying39 sz25 rfl rfl (o144 + (k * 2))) ?_
          obtain ⟨g_145, A_145, n_145, c_145, d_145, he_145, hp_145, hq_145, h_145, hM_145, hS_145, hb_145, z_145⟩ := h142.at_ (i := k) (by omega)
          have ⟨l_145, k_145, m_145⟩ := h_145.lkm
          refine sV (evLoadA [(.bool g_145), (.slice A_145 n_145 c_145)] agg25 sz25 rfl (cell2 hp_145 hq_145)) (sO (oStore [(.bool g_145), (.slice A_145 n_145 c_145)] rfl rfl rfl sz25 rfl hB73 (Nat.le_of_ble_eq_true rfl) (fun w147 hU148 hz149 hB150 => ?_)))
          replace hB150 : Blk w147 g52 25 [(.bool g_145), (.slice A_145 n_145 c_145)] := hB150
          refine sK hK138 (wp_region_lit (sMs rfl (sMi rfl (sV (v := (.func (.func 12) #[] #[])) (rfl) ?_))))
          have hR151 := hU71.trans hU148
          have hB152 := (hB68.frm hR151 q1)
          refine sV (evLoadAB [(.bool false), (.slice none 0 0)] agg25 sz25 rfl hB152 rfl) (sV (evLoadAB [(.bool g_145), (.slice A_145 n_145 c_145)] agg25 sz25 rfl hB150 rfl) ?_)
          have h153 := (h_145.frmB hU148 q3)
          refine sO (oCall rfl call12 (integer_Add (NatR.nil (S := fun _ => True)) h153 (by omega) (by omega)) rfl ?_)
          rintro _ w155 ⟨gr_154, Ar_154, nr_154, cr_154, dr_154, rfl, hE156, hr_154, v_154, cn_154, le_154⟩
          have hz157 := hE156.size
          have ⟨lr_154, kr_154, mr_154⟩ := hr_154.lkm
          refine sV (evIx k Tryz.underlying39 sz25 rfl rfl (k * 2)) ?_
          have hR159 := ((((hE46.trans hE54).rx hU66).tr hU71).tr hU148).xr hE156
          have hB160 := (hB28.frm hR159 q1)
          refine sO (oStore [(.bool gr_154), (.slice Ar_154 nr_154 cr_154)] rfl rfl rfl sz25 rfl hB160 (by rw [cellsI_len]; simp only [List.length_cons, List.length_nil]; exact lq) (fun w161 hU162 hz163 hB164 => ?_))
          replace hB164 := (cellsI_set (l := L ++ List.replicate (max nf ng - k) RI.zero) (i := k) ⟨gr_154, Ar_154, nr_154, cr_154, dr_154⟩ (by exact lq)) ▸ hB164
          replace hB164 : Blk w161 g9 25 (cellsI ((L ++ [⟨gr_154, Ar_154, nr_154, cr_154, dr_154⟩]) ++ List.replicate (max nf ng - (k + 1)) RI.zero)) := (fillI_set hL (by omega) : (L ++ List.replicate (max nf ng - k) RI.zero).set k ⟨gr_154, Ar_154, nr_154, cr_154, dr_154⟩ = (L ++ [⟨gr_154, Ar_154, nr_154, cr_154, dr_154⟩]) ++ List.replicate (max nf ng - (k + 1)) RI.zero) ▸ hB164
          refine sDone (bN (xN (hK42 _ _ (wp_region_lit (sV (evAdd (((k : Int)) + 1) rfl rfl wI) (sMi rfl (sDone ?_)))))))
          have hR165 := hR159.tr hU162
          have h166 := (hA.frmB hR165 q3)
          have h167 := (hr_154.frmB hU162 q3)
          refine again (max nf ng - (k + 1)) (by omega) ⟨(k + 1), (L ++ [⟨gr_154, Ar_154, nr_154, cr_154, dr_154⟩]), rfl, rfl, rfl, rfl, rfl, rfl, rfl, cI, (Frm.mono (hF27.tr hR165) q4), ?_, ?_, ?_, ?_, ?_, ?_⟩
          · exact hB164
          · omega
          · simp [hL]
          · exact AllN.snoc h166 (NatR.sub h167 q5) (by (try dsimp only); omega)
          · exact zs_snoc hz (by show zval _ _ = _; rw [v_154]; exact cadd hzf137 z_145)
          · exact AllC.snoc hC cn_154
        · refine sV (evLss false rfl rfl (dF hc140)) ?_
          have hzf168 : zval false [] = co (zs lg) k := by rw [zval_nil, co_ge (by simp; omega)]
          refine sK hK139 (cF rfl (wp_skip (xN (hK138 _ _ (wp_region_lit (sMs rfl (sMi rfl (sV (v := (.func (.func 12) #[] #[])) (rfl) ?_))))))))
          have hB169 := (hB68.frm hU71 q1)
          refine sV (evLoadAB [(.bool false), (.slice none 0 0)] agg25 sz25 rfl hB169 rfl) (sV (evLoadAB [(.bool false), (.slice none 0 0)] agg25 sz25 rfl hB73 rfl) (sO (oCall rfl call12 (integer_Add (NatR.nil (S := fun _ => True)) (NatR.nil (S := fun _ => True)) (by omega) (by omega)) rfl ?_)))
          rintro _ w171 ⟨gr_170, Ar_170, nr_170, cr_170, dr_170, rfl, hE172, hr_170, v_170, cn_170, le_170⟩
          have hz173 := hE172.size
          have ⟨lr_170, kr_170, mr_170⟩ := hr_170.lkm
          refine sV (evIx k Tryz.underlying39 sz25 rfl rfl (k * 2)) ?_
          have hR175 := (((hE46.trans hE54).rx hU66).tr hU71).xr hE172
          have hB176 := (hB28.frm hR175 q1)
          refine sO (oStore [(.bool gr_170), (.slice Ar_170 nr_170 cr_170)] rfl rfl rfl sz25 rfl hB176 (by rw [cellsI_len]; simp only [List.length_cons, List.length_nil]; exact lq) (fun w177 hU178 hz179 hB180 => ?_))
          replace hB180 := (cellsI_set (l := L ++ List.replicate (max nf ng - k) RI.zero) (i := k) ⟨gr_170, Ar_170, nr_170, cr_170, dr_170⟩ (by exact lq)) ▸ hB180
          replace hB180 : Blk w177 g9 25 (cellsI ((L ++ [⟨gr_170, Ar_170, nr_170, cr_170, dr_170⟩]) ++ List.replicate (max nf ng - (k + 1)) RI.zero)) := (fillI_set hL (by omega) : (L ++ List.replicate (max nf ng - k) RI.zero).set k ⟨gr_170, Ar_170, nr_170, cr_170, dr_170⟩ = (L ++ [⟨gr_170, Ar_170, nr_170, cr_170, dr_170⟩]) ++ List.replicate (max nf ng - (k + 1)) RI.zero) ▸ hB180
          refine sDone (bN (xN (hK42 _ _ (wp_region_lit (sV (evAdd (((k : Int)) + 1) rfl rfl wI) (sMi rfl (sDone ?_)))))))
          have hR181 := hR175.tr hU178
          have h182 := (hA.frmB hR181 q3)
          have h183 := (hr_170.frmB hU178 q3)
          refine again (max nf ng - (k + 1)) (by omega) ⟨(k + 1), (L ++ [⟨gr_170, Ar_170, nr_170, cr_170, dr_170⟩]), rfl, rfl, rfl, rfl, rfl, rfl, rfl, cI, (Frm.mono (hF27.tr hR181) q4), ?_, ?_, ?_, ?_, ?_, ?_⟩
          · exact hB180
          · omega
          · simp [hL]
          · exact AllN.snoc h182 (NatR.sub h183 q5) (by (try dsimp only); omega)
          · exact zs_snoc hz (by show zval _ _ = _; rw [v_170]; exact cadd hzf137 hzf168)
          · exact AllC.snoc hC cn_170
    · refine sV (evLss false rfl rfl (dF hc40)) (sK hK39 (wp_seq_k fun K184 hK184 => cF rfl (wp_exit (xE (xE (bE (xN (hK16 _ _ (rS fun K185 hK185 => sMs rfl (sAs rfl (sK hK185 (wp_ret (ret1 (.slice (some ⟨g9, 0, none⟩) (max nf ng) (max nf ng)) Tryz.results107 (resT rfl) ?_)))))))))))))
      have h186 : PolyR w19 (fun b => g9 ≤ b) (some ⟨g9, 0, none⟩) (max nf ng) (max nf ng) (L ++ List.replicate (max nf ng - k) RI.zero) (Mf + Mg + 1) := PolyR.of_blk hB28 (AllN.app (AllN.sub hA q5) (AllN.zeros _)) (by (try dsimp only); omega) (by exact lq) (by omega) (by unfold CapMax; omega)
      have hR187 := (hE5.trans hE12).rx hF27
      exact ⟨(some ⟨g9, 0, none⟩), (max nf ng), (max nf ng), (L ++ List.replicate (max nf ng - k) RI.zero), rfl, (Frm.mono hR187 q4), (PolyR.le (PolyR.sub h186 q5) (by omega)), (by rw [show max nf ng - k = 0 by omega, List.replicate_zero, List.append_nil, hz]; unfold padd; congr 2; simp; omega), rfl, (AllC.app hC (AllC.zeros _))⟩
theorem unipoly_combine_Sub {w : World} {Sf : Nat → Prop} {Af : Option Addr} {nf cf Mf : Nat} {lf : List RI} {Sg : Nat → Prop} {Ag : Option Addr} {ng cg Mg : Nat} {lg : List RI}   (hf : PolyR w Sf Af nf cf lf Mf) (hg : PolyR w Sg Ag ng cg lg Mg) (hnf : nf ≤ 1048576) (hng : ng ≤ 1048576) (hMf : Mf ≤ 1073741824) (hMg : Mg ≤ 1073741824) : Calls Tryz.prog 107 #[(.slice Af nf cf), (.slice Ag ng cg), (.agg #[(.bool false), (.slice none 0 0)]), (.func (.func 106) #[] #[])] w (Ret fun v w' => ∃ (Ar : Option Addr) (nr : Nat) (cr : Nat) (lr : List RI), v = (.slice Ar nr cr) ∧ Ext w w' ∧ PolyR w' (fun b => w.heap.size ≤ b) Ar nr cr lr (Mf + Mg + 1) ∧ (zs lr = psub (zs lf) (zs lg)) ∧ (nr = max nf ng) ∧ (AllC lr)) := by
  have ⟨kf, jf, mf⟩ := hf.lkm
  replace hf := hf.low
  have ⟨kg, jg, mg⟩ := hg.lkm
  replace hg := hg.low
  refine enter Tryz.func107 rfl Tryz.ntmps107 rfl (rS fun K1 hK1 => sO (oBox [(.bool false), (.slice none 0 0)] rfl rfl (fun g2 w3 hg4 hE5 hz6 hB7 => sAs rfl (sK hK1 (rS fun K8 hK8 => sMs rfl (sV (evLen Tryz.underlying39 rfl) (sMs rfl (sV (evLen Tryz.underlying39 rfl) (sV (evMax (((max nf ng : Nat) : Int)) rfl rfl (maxN)) (sO (oMake2 (max nf ng) Tryz.underlying39 inf25 cI cI (by omega) (by omega) (fun g9 w10 hg11 hE12 hz13 hB14 => ?_))))))))))))
  have hB15 : Blk w10 g9 25 (cellsI (List.replicate (max nf ng) RI.zero)) := hB14
  refine sAs rfl (sK hK8 (wp_seq_k fun K16 hK16 => rS fun K17 hK17 => sMs rfl (sV (evLen Tryz.underlying39 rfl) (sMi rfl (sK hK17 (wp_block ?_))))))
  refine lLoop (fun m e w_ => ∃ (k : Nat) (L : List RI), m = max nf ng - k ∧ e 0 = (.slice Af nf cf) ∧ e 1 = (.slice Ag ng cg) ∧ e 3 = (.func (.func 106) #[] #[]) ∧ e 6 = (.pointer (some ⟨g2, 0, none⟩)) ∧ e 9 = (.slice (some ⟨g9, 0, none⟩) (max nf ng) (max nf ng)) ∧ e 20 = (.int .i64 (((max nf ng : Nat) : Int))) ∧ e 21 = (.int .i64 ((k : Int))) ∧ Frm (fun b => b = g9) w10 w_ ∧ Blk w_ g9 25 (cellsI (L ++ List.replicate (max nf ng - k) RI.zero)) ∧ (k ≤ max nf ng) ∧ (L.length = k) ∧ (AllN w_ (fun b => g9 < b) (Mf + Mg + 1) L) ∧ (zs L = (List.range k).map (fun i => co (zs lf) i - co (zs lg) i)) ∧ (AllC L)) (max nf ng - (0)) ?_ ?_
  · refine ⟨(0), ([]), rfl, rfl, rfl, rfl, rfl, rfl, rfl, cI, (Frm.refl _ _), ?_, ?_, ?_, ?_, ?_, ?_⟩
    · simpa using hB15
    · omega
    · rfl
    · exact AllN.nil
    · rfl
    · exact AllC.nil
  · rintro m18 e30 w19 ⟨k, L, hm29, hs20, hs21, hs22, hs23, hs24, hs25, hs26, hF27, hB28, hk, hL, hA, hz, hC⟩
    obtain ⟨r31, rfl⟩ := sq (e := e30) (t := 0) hs20
    obtain ⟨r32, rfl⟩ := sq (e := r31) (t := 1) hs21
    obtain ⟨r33, rfl⟩ := sq (e := r32) (t := 3) hs22
    obtain ⟨r34, rfl⟩ := sq (e := r33) (t := 6) hs23
    obtain ⟨r35, rfl⟩ := sq (e := r34) (t := 9) hs24
    obtain ⟨r36, rfl⟩ := sq (e := r35) (t := 20) hs25
    obtain ⟨r37, rfl⟩ := sq (e := r36) (t := 21) hs26
    have hz38 := hF27.size
    refine rS fun K39 hK39 => ?_
    by_cases hc40 : ((k : Int)) < (((max nf ng : Nat) : Int))
    · refine sV (evLss true rfl rfl (dT hc40)) (sK hK39 (wp_seq_k fun K41 hK41 => cT rfl (wp_skip (xN (hK41 _ _ (wp_seq_k fun K42 hK42 => wp_block (rS fun K43 hK43 => sMi rfl (sAi rfl (sK hK43 (wp_seq_k fun K44 hK44 => dBegin (fun b => w19.heap.size ≤ b) mixed (fun w45 hE46 hz47 => ?_)))))))))))
      have hR48 := (hE12.rx hF27).xr hE46
      have hB49 := (hB7.frm hR48 q1)
      refine dV 0 rfl (fun _ hf => evLoadAB [(.bool false), (.slice none 0 0)] agg25 sz25 rfl (hB49.frm hf q1) rfl) (dV 1 rfl (fun _ hf => evLoadAB [(.bool false), (.slice none 0 0)] agg25 sz25 rfl (hB49.frm hf q1) rfl) (wAl2 (fun k => bif Nat.beq k 2 then (11, 25, [(.bool false), (.slice none 0 0)]) else (12, 25, [(.bool false), (.slice none 0 0)])) 2 3 (alOp rfl rfl zero25 rfl) (alOp rfl rfl zero25 rfl) rfl fun F50 => wEnd2 F50 #[true, true, true, true, false, false] (by kernel_rfl) fun g51 g52 w53 hE54 hb55 hb56 hne61 hB57 hB58 ho59 ho60 => ?_))
      have hz62 := hE54.size
      have lt63 := hB57.lt
      have lt64 := hB58.lt
      refine dOp 4 rfl rfl (by kernel_rfl) (oStore [(.bool false), (.slice none 0 0)] rfl rfl rfl sz25 rfl hB57 (Nat.le_of_ble_eq_true rfl) (fun w65 hU66 hz67 hB68 => ?_))
      replace hB68 : Blk w65 g51 25 [(.bool false), (.slice none 0 0)] := hB68
      refine ⟨(hU66.mono q4), ?_⟩
      have hB69 := (hB58.frm hU66 q1)
      refine dOp 5 rfl rfl (by kernel_rfl) (oStore [(.bool false), (.slice none 0 0)] rfl rfl rfl sz25 rfl hB69 (Nat.le_of_ble_eq_true rfl) (fun w70 hU71 hz72 hB73 => ?_))
      replace hB73 : Blk w70 g52 25 [(.bool false), (.slice none 0 0)] := hB73
      refine ⟨(hU71.mono q4), dDone (by kernel_rfl) (xN (hK44 _ _ (wp_seq_k fun K74 hK74 => rS fun K75 hK75 => sMi rfl (sMs rfl (sV (evLen Tryz.underlying39 rfl) ?_)))))⟩
      by_cases hc76 : ((k : Int)) < ((nf : Int))
      · refine sV (evLss true rfl rfl (dT hc76)) (sK hK75 (cT rfl (wp_region_lit (sMs rfl (sMi rfl ?_)))))
        have hR77 := (((((hE5.trans hE12).rx hF27).xr hE46).xr hE54).tr hU66).tr hU71
        have h78 := (hf.frmB hR77 q3)
        obtain ⟨b79, o80, rfl⟩ := h78.base (by omega)
        refine sV (evIx k Tryz.underlying39 sz25 rfl rfl (o80 + (k * 2))) ?_
        obtain ⟨g_81, A_81, n_81, c_81, d_81, he_81, hp_81, hq_81, h_81, hM_81, hS_81, hb_81, z_81⟩ := h78.at_ (i := k) (by omega)
        have ⟨l_81, k_81, m_81⟩ := h_81.lkm
        refine sV (evLoadA [(.bool g_81), (.slice A_81 n_81 c_81)] agg25 sz25 rfl (cell2 hp_81 hq_81)) ?_
        have hB83 := (hB68.frm hU71 q1)
        refine sO (oStore [(.bool g_81), (.slice A_81 n_81 c_81)] rfl rfl rfl sz25 rfl hB83 (Nat.le_of_ble_eq_true rfl) (fun w84 hU85 hz86 hB87 => ?_))
        replace hB87 : Blk w84 g51 25 [(.bool g_81), (.slice A_81 n_81 c_81)] := hB87
        refine sK hK74 (wp_seq_k fun K88 hK88 => rS fun K89 hK89 => sMi rfl (sMs rfl (sV (evLen Tryz.underlying39 rfl) ?_)))
        by_cases hc90 : ((k : Int)) < ((ng : Int))
        · refine sV (evLss true rfl rfl (dT hc90)) (sK hK89 (cT rfl (wp_region_lit (sMs rfl (sMi rfl ?_)))))
          have hR91 := hR77.tr hU85
          have h92 := (hg.frmB hR91 q3)
          obtain ⟨b93, o94, rfl⟩ := h92.base (by omega)
          refine sV (evIx k Tryz.underlying39 sz25 rfl rfl (o94 + (k * 2))) ?_
          obtain ⟨g_95, A_95, n_95, c_95, d_95, he_95, hp_95, hq_95, h_95, hM_95, hS_95, hb_95, z_95⟩ := h92.at_ (i := k) (by omega)
          have ⟨l_95, k_95, m_95⟩ := h_95.lkm
          refine sV (evLoadA [(.bool g_95), (.slice A_95 n_95 c_95)] agg25 sz25 rfl (cell2 hp_95 hq_95)) ?_
          have hB97 := (hB73.frm hU85 q1)
          refine sO (oStore [(.bool g_95), (.slice A_95 n_95 c_95)] rfl rfl rfl sz25 rfl hB97 (Nat.le_of_ble_eq_true rfl) (fun w98 hU99 hz100 hB101 => ?_))
          replace hB101 : Blk w98 g52 25 [(.bool g_95), (.slice A_95 n_95 c_95)] := hB101
          refine sK hK88 (wp_region_lit (sMs rfl (sMi rfl (sV (v := (.func (.func 106) #[] #[])) (rfl) ?_))))
          have hB102 := (hB87.frm hU99 q1)
          refine sV (evLoadAB [(.bool g_81), (.slice A_81 n_81 c_81)] agg25 sz25 rfl hB102 rfl) (sV (evLoadAB [(.bool g_95), (.slice A_95 n_95 c_95)] agg25 sz25 rfl hB101 rfl) ?_)
          have hR103 := hU85.tr hU99
          have h104 := (h_81.frmB hR103 q3)
          have h105 := (h_95.frmB hU99 q3)
          refine sO (oCall rfl call106 (integer_Sub h104 h105 (by omega) (by omega)) rfl ?_)
          rintro _ w107 ⟨gr_106, Ar_106, nr_106, cr_106, dr_106, rfl, hE108, hr_106, v_106, cn_106, le_106⟩
          have hz109 := hE108.size
          have ⟨lr_106, kr_106, mr_106⟩ := hr_106.lkm
          refine sV (evIx k Tryz.underlying39 sz25 rfl rfl (k * 2)) ?_
          have hR111 := (((((hE46.trans hE54).rx hU66).tr hU71).tr hU85).tr hU99).xr hE108
          have hB112 := (hB28.frm hR111 q1)
          refine sO (oStore [(.bool gr_106), (.slice Ar_106 nr_106 cr_106)] rfl rfl rfl sz25 rfl hB112 (by rw [cellsI_len]; simp only [List.length_cons, List.length_nil]; exact lq) (fun w113 hU114 hz115 hB116 => ?_))
          replace hB116 := (cellsI_set (l := L ++ List.replicate (max nf ng - k) RI.zero) (i := k) ⟨gr_106, Ar_106, nr_106, cr_106, dr_106⟩ (by exact lq)) ▸ hB116
          replace hB116 : Blk w113 g9 25 (cellsI ((L ++ [⟨gr_106, Ar_106, nr_106, cr_106, dr_106⟩]) ++ List.replicate (max nf ng - (k + 1)) RI.zero)) := (fillI_set hL (by omega) : (L ++ List.replicate (max nf ng - k) RI.zero).set k ⟨gr_106, Ar_106, nr_106, cr_106, dr_106⟩ = (L ++ [⟨gr_106, Ar_106, nr_106, cr_106, dr_106⟩]) ++ List.replicate (max nf ng - (k + 1)) RI.zero) ▸ hB116
          refine sDone (bN (xN (hK42 _ _ (wp_region_lit (sV (evAdd (((k : Int)) + 1) rfl rfl wI) (sMi rfl (sDone ?_)))))))
          have hR117 := hR111.tr hU114
          have h118 := (hA.frmB hR117 q3)
          have h119 := (hr_106.frmB hU114 q3)
          refine again (max nf ng - (k + 1)) (by omega) ⟨(k + 1), (L ++ [⟨gr_106, Ar_106, nr_106, cr_106, dr_106⟩]), rfl, rfl, rfl, rfl, rfl, rfl, rfl, cI, (Frm.mono (hF27.tr hR117) q4), ?_, ?_, ?_, ?_, ?_, ?_⟩
          · exact hB116
          · omega
          · simp [hL]
          · exact AllN.snoc h118 (NatR.sub h119 q5) (by (try dsimp only); omega)
          · exact zs_snoc hz (by show zval _ _ = _; rw [v_106]; exact csub z_81 z_95)
          · exact AllC.snoc hC cn_106
        · refine sV (evLss false rfl rfl (dF hc90)) ?_
          have hzf120 : zval false [] = co (zs lg) k := by rw [zval_nil, co_ge (by simp; omega)]
          refine sK hK89 (cF rfl (wp_skip (xN (hK88 _ _ (wp_region_lit (sMs rfl (sMi rfl (sV (v := (.func (.func 106) #[] #[])) (rfl) (sV (evLoadAB [(.bool g_81), (.slice A_81 n_81 c_81)] agg25 sz25 rfl hB87 rfl) ?_)))))))))
          have hB121 := (hB73.frm hU85 q1)
          refine sV (evLoadAB [(.bool false), (.slice none 0 0)] agg25 sz25 rfl hB121 rfl) ?_
          have h122 := (h_81.frmB hU85 q3)
          refine sO (oCall rfl call106 (integer_Sub h122 (NatR.nil (S := fun _ => True)) (by omega) (by omega)) rfl ?_)
          rintro _ w124 ⟨gr_123, Ar_123, nr_123, cr_123, dr_123, rfl, hE125, hr_123, v_123, cn_123, le_123⟩
          have hz126 := hE125.size
          have ⟨lr_123, kr_123, mr_123⟩ := hr_123.lkm
          refine sV (evIx k Tryz.underlying39 sz25 rfl rfl (k * 2)) ?_
          have hR128 := ((((hE46.trans hE54).rx hU66).tr hU71).tr hU85).xr hE125
          have hB129 := (hB28.frm hR128 q1)
          refine sO (oStore [(.bool gr_123), (.slice Ar_123 nr_123 cr_123)] rfl rfl rfl sz25 rfl hB129 (by rw [cellsI_len]; simp only [List.length_cons, List.length_nil]; exact lq) (fun w130 hU131 hz132 hB133 => ?_))
          replace hB133 := (cellsI_set (l := L ++ List.replicate (max nf ng - k) RI.zero) (i := k) ⟨gr_123, Ar_123, nr_123, cr_123, dr_123⟩ (by exact lq)) ▸ hB133
          replace hB133 : Blk w130 g9 25 (cellsI ((L ++ [⟨gr_123, Ar_123, nr_123, cr_123, dr_123⟩]) ++ List.replicate (max nf ng - (k + 1)) RI.zero)) := (fillI_set hL (by omega) : (L ++ List.replicate (max nf ng - k) RI.zero).set k ⟨gr_123, Ar_123, nr_123, cr_123, dr_123⟩ = (L ++ [⟨gr_123, Ar_123, nr_123, cr_123, dr_123⟩]) ++ List.replicate (max nf ng - (k + 1)) RI.zero) ▸ hB133
          refine sDone (bN (xN (hK42 _ _ (wp_region_lit (sV (evAdd (((k : Int)) + 1) rfl rfl wI) (sMi rfl (sDone ?_)))))))
          have hR134 := hR128.tr hU131
          have h135 := (hA.frmB hR134 q3)
          have h136 := (hr_123.frmB hU131 q3)
          refine again (max nf ng - (k + 1)) (by omega) ⟨(k + 1), (L ++ [⟨gr_123, Ar_123, nr_123, cr_123, dr_123⟩]), rfl, rfl, rfl, rfl, rfl, rfl, rfl, cI, (Frm.mono (hF27.tr hR134) q4), ?_, ?_, ?_, ?_, ?_, ?_⟩
          · exact hB133
          · omega
          · simp [hL]
          · exact AllN.snoc h135 (NatR.sub h136 q5) (by (try dsimp only); omega)
          · exact zs_snoc hz (by show zval _ _ = _; rw [v_123]; exact csub z_81 hzf120)
          · exact AllC.snoc hC cn_123
      · refine sV (evLss false rfl rfl (dF hc76)) ?_
        have hzf137 : zval false [] = co (zs lf) k := by rw [zval_nil, co_ge (by simp; omega)]
        refine sK hK75 (cF rfl (wp_skip (xN (hK74 _ _ (wp_seq_k fun K138 hK138 => rS fun K139 hK139 => sMi rfl (sMs rfl (sV (evLen Tryz.underlying39 rfl) ?_)))))))
        by_cases hc140 : ((k : Int)) < ((ng : Int))
        · refine sV (evLss true rfl rfl (dT hc140)) (sK hK139 (cT rfl (wp_region_lit (sMs rfl (sMi rfl ?_)))))
          have hR141 := (((((hE5.trans hE12).rx hF27).xr hE46).xr hE54).tr hU66).tr hU71
          have h142 := (hg.frmB hR141 q3)
          obtain ⟨b143, o144, rfl⟩ := h142.base (by omega)
          refine sV (evIx k Tryz.underlying39 sz25 rfl rfl (o144 + (k * 2))) ?_
          obtain ⟨g_145, A_145, n_145, c_145, d_145, he_145, hp_145, hq_145, h_145, hM_145, hS_145, hb_145, z_145⟩ := h142.at_ (i := k) (by omega)
          have ⟨l_145, k_145, m_145⟩ := h_145.lkm
          refine sV (evLoadA [(.bool g_145), (.slice A_145 n_145 c_145)] agg25 sz25 rfl (cell2 hp_145 hq_145)) (sO (oStore [(.bool g_145), (.slice A_145 n_145 c_145)] rfl rfl rfl sz25 rfl hB73 (Nat.le_of_ble_eq_true rfl) (fun w147 hU148 hz149 hB150 => ?_)))
          replace hB150 : Blk w147 g52 25 [(.bool g_145), (.slice A_145 n_145 c_145)] := hB150
          refine sK hK138 (wp_region_lit (sMs rfl (sMi rfl (sV (v := (.func (.func 106) #[] #[])) (rfl) ?_))))
          have hR151 := hU71.trans hU148
          have hB152 := (hB68.frm hR151 q1)
          refine sV (evLoadAB [(.bool false), (.slice none 0 0)] agg25 sz25 rfl hB152 rfl) (sV (evLoadAB [(.bool g_145), (.slice A_145 n_145 c_145)] agg25 sz25 rfl hB150 rfl) ?_)
          have h153 := (h_145.frmB hU148 q3)
          refine sO (oCall rfl call106 (integer_Sub (NatR.nil (S := fun _ => True)) h153 (by omega) (by omega)) rfl ?_)
          rintro _ w155 ⟨gr_154, Ar_154, nr_154, cr_154, dr_154, rfl, hE156, hr_154, v_154, cn_154, le_154⟩
          have hz157 := hE156.size
          have ⟨lr_154, kr_154, mr_154⟩ := hr_154.lkm
          refine sV (evIx k Tryz.underlying39 sz25 rfl rfl (k * 2)) ?_
          have hR159 := ((((hE46.trans hE54).rx hU66).tr hU71).tr hU148).xr hE156
          have hB160 := (hB28.frm hR159 q1)
          refine sO (oStore [(.bool gr_154), (.slice Ar_154 nr_154 cr_154)] rfl rfl rfl sz25 rfl hB160 (by rw [cellsI_len]; simp only [List.length_cons, List.length_nil]; exact lq) (fun w161 hU162 hz163 hB164 => ?_))
          replace hB164 := (cellsI_set (l := L ++ List.replicate (max nf ng - k) RI.zero) (i := k) ⟨gr_154, Ar_154, nr_154, cr_154, dr_154⟩ (by exact lq)) ▸ hB164
          replace hB164 : Blk w161 g9 25 (cellsI ((L ++ [⟨gr_154, Ar_154, nr_154, cr_154, dr_154⟩]) ++ List.replicate (max nf ng - (k + 1)) RI.zero)) := (fillI_set hL (by omega) : (L ++ List.replicate (max nf ng - k) RI.zero).set k ⟨gr_154, Ar_154, nr_154, cr_154, dr_154⟩ = (L ++ [⟨gr_154, Ar_154, nr_154, cr_154, dr_154⟩]) ++ List.replicate (max nf ng - (k + 1)) RI.zero) ▸ hB164
          refine sDone (bN (xN (hK42 _ _ (wp_region_lit (sV (evAdd (((k : Int)) + 1) rfl rfl wI) (sMi rfl (sDone ?_)))))))
          have hR165 := hR159.tr hU162
          have h166 := (hA.frmB hR165 q3)
          have h167 := (hr_154.frmB hU162 q3)
          refine again (max nf ng - (k + 1)) (by omega) ⟨(k + 1), (L ++ [⟨gr_154, Ar_154, nr_154, cr_154, dr_154⟩]), rfl, rfl, rfl, rfl, rfl, rfl, rfl, cI, (Frm.mono (hF27.tr hR165) q4), ?_, ?_, ?_, ?_, ?_, ?_⟩
          · exact hB164
          · omega
          · simp [hL]
          · exact AllN.snoc h166 (NatR.sub h167 q5) (by (try dsimp only); omega)
          · exact zs_snoc hz (by show zval _ _ = _; rw [v_154]; exact csub hzf137 z_145)
          · exact AllC.snoc hC cn_154
        · refine sV (evLss false rfl rfl (dF hc140)) ?_
          have hzf168 : zval false [] = co (zs lg) k := by rw [zval_nil, co_ge (by simp; omega)]
          refine sK hK139 (cF rfl (wp_skip (xN (hK138 _ _ (wp_region_lit (sMs rfl (sMi rfl (sV (v := (.func (.func 106) #[] #[])) (rfl) ?_))))))))
          have hB169 := (hB68.frm hU71 q1)
          refine sV (evLoadAB [(.bool false), (.slice none 0 0)] agg25 sz25 rfl hB169 rfl) (sV (evLoadAB [(.bool false), (.slice none 0 0)] agg25 sz25 rfl hB73 rfl) (sO (oCall rfl call106 (integer_Sub (NatR.nil (S := fun _ => True)) (NatR.nil (S := fun _ => True)) (by omega) (by omega)) rfl ?_)))
          rintro _ w171 ⟨gr_170, Ar_170, nr_170, cr_170, dr_170, rfl, hE172, hr_170, v_170, cn_170, le_170⟩
          have hz173 := hE172.size
          have ⟨lr_170, kr_170, mr_170⟩ := hr_170.lkm
          refine sV (evIx k Tryz.underlying39 sz25 rfl rfl (k * 2)) ?_
          have hR175 := (((hE46.trans hE54).rx hU66).tr hU71).xr hE172
          have hB176 := (hB28.frm hR175 q1)
          refine sO (oStore [(.bool gr_170), (.slice Ar_170 nr_170 cr_170)] rfl rfl rfl sz25 rfl hB176 (by rw [cellsI_len]; simp only [List.length_cons, List.length_nil]; exact lq) (fun w177 hU178 hz179 hB180 => ?_))
          replace hB180 := (cellsI_set (l := L ++ List.replicate (max nf ng - k) RI.zero) (i := k) ⟨gr_170, Ar_170, nr_170, cr_170, dr_170⟩ (by exact lq)) ▸ hB180
          replace hB180 : Blk w177 g9 25 (cellsI ((L ++ [⟨gr_170, Ar_170, nr_170, cr_170, dr_170⟩]) ++ List.replicate (max nf ng - (k + 1)) RI.zero)) := (fillI_set hL (by omega) : (L ++ List.replicate (max nf ng - k) RI.zero).set k ⟨gr_170, Ar_170, nr_170, cr_170, dr_170⟩ = (L ++ [⟨gr_170, Ar_170, nr_170, cr_170, dr_170⟩]) ++ List.replicate (max nf ng - (k + 1)) RI.zero) ▸ hB180
          refine sDone (bN (xN (hK42 _ _ (wp_region_lit (sV (evAdd (((k : Int)) + 1) rfl rfl wI) (sMi rfl (sDone ?_)))))))
          have hR181 := hR175.tr hU178
          have h182 := (hA.frmB hR181 q3)
          have h183 := (hr_170.frmB hU178 q3)
          refine again (max nf ng - (k + 1)) (by omega) ⟨(k + 1), (L ++ [⟨gr_170, Ar_170, nr_170, cr_170, dr_170⟩]), rfl, rfl, rfl, rfl, rfl, rfl, rfl, cI, (Frm.mono (hF27.tr hR181) q4), ?_, ?_, ?_, ?_, ?_, ?_⟩
          · exact hB180
          · omega
          · simp [hL]
          · exact AllN.snoc h182 (NatR.sub h183 q5) (by (try dsimp only); omega)
          · exact zs_snoc hz (by show zval _ _ = _; rw [v_170]; exact csub hzf137 hzf168)
          · exact AllC.snoc hC cn_170
    · refine sV (evLss false rfl rfl (dF hc40)) (sK hK39 (wp_seq_k fun K184 hK184 => cF rfl (wp_exit (xE (xE (bE (xN (hK16 _ _ (rS fun K185 hK185 => sMs rfl (sAs rfl (sK hK185 (wp_ret (ret1 (.slice (some ⟨g9, 0, none⟩) (max nf ng) (max nf ng)) Tryz.results107 (resT rfl) ?_)))))))))))))
      have h186 : PolyR w19 (fun b => g9 ≤ b) (some ⟨g9, 0, none⟩) (max nf ng) (max nf ng) (L ++ List.replicate (max nf ng - k) RI.zero) (Mf + Mg + 1) := PolyR.of_blk hB28 (AllN.app (AllN.sub hA q5) (AllN.zeros _)) (by (try dsimp only); omega) (by exact lq) (by omega) (by unfold CapMax; omega)
      have hR187 := (hE5.trans hE12).rx hF27
      exact ⟨(some ⟨g9, 0, none⟩), (max nf ng), (max nf ng), (L ++ List.replicate (max nf ng - k) RI.zero), rfl, (Frm.mono hR187 q4), (PolyR.le (PolyR.sub h186 q5) (by omega)), (by rw [show max nf ng - k = 0 by omega, List.replicate_zero, List.append_nil, hz]; unfold psub; congr 2; simp; omega), rfl, (AllC.app hC (AllC.zeros _))⟩
end Go.Proofs.YtneolcopompkaaaGreatDoor
