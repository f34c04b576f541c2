/-
  Walk of package squarefree: products of powers of factors; the law's own normal.
-/
import Derived.Test.YtikplganiodciaaSq11
import Derived.Test.YtikplganiodciaaLibB
namespace Go.Proofs.Ytikplganiodciaa
open Go.RowKit Go.Gx
set_option maxHeartbeats 2000000 in
theorem squarefree_Multiply {w : World} {gu : Bool} {Su : Nat → Prop} {Au : Option Addr} {nu cu : Nat} {du : List Nat} {Sf : Nat → Prop} {Af : Option Addr} {nf cf : Nat} {ff : List FE} (hu : NatR w Su Au nu cu du) (hf : FacsR w Sf Af nf cf ff 17) (hnu : nu ≤ 8) (hnf : nf ≤ 11) (hok : ∀ x ∈ ff, FacOk x) : Calls Try.prog 32 #[(.agg #[(.bool gu), (.slice Au nu cu)]), (.slice Af nf cf)] w (Ret fun v w' => ∃ (Ar : Option Addr) (nr : Nat) (cr : Nat) (lr : List RI), v = (.slice Ar nr cr) ∧ Ext w w' ∧ PolyR w' (fun _ => True) Ar nr cr lr (20000) ∧ (P (zs lr) = K ((zval gu du : Int) : Rat) * prodQ ff) ∧ (nr ≤ 65536)) := by
  have ⟨lu, ku, mu⟩ := hu.lkm
  replace hu := hu.low
  have ⟨kf, jf, mf⟩ := hf.lkm; replace hf := hf.low
  refine enter Try.func32 rfl Try.ntmps32 rfl (rS fun K1 hK1 => sO (oBox [(.bool gu), (.slice Au nu cu)] rfl rfl (fun g2 w3 hg4 hE5 hz6 hB7 => sAs rfl (sK hK1 (wp_seq_k fun K8 hK8 => rS fun K9 hK9 => sV (evLoadAB [(.bool gu), (.slice Au nu cu)] agg51 sz51 rfl hB7 rfl) ?_)))))
  have h10 := (hu.ext hE5)
  refine sO (oCall rfl call46 (integer_Sign h10) rfl ?_)
  rintro _ w12 ⟨xr_11, rfl, hE13, e_11⟩
  have hz14 := hE13.size
  by_cases hc15 : xr_11 = 0
  · refine sV (evEql true rfl rfl (dT hc15)) (sK hK9 (cT rfl (rS fun K16 hK16 => sAs rfl (sK hK16 (wp_ret (xR (ret1 (.slice none 0 0) Try.results32 (resT rfl) ?_)))))))
    have hR17 := hE5.trans hE13
    exact ⟨none, 0, 0, [], rfl, hR17, PolyR.nil, (by rw [show zval gu du = 0 from (by have h := e_11; have h2 := sign_cases (zval gu du); omega), zero_cast]; exact QP.eq fun x => by show (0 : Rat) = 0 * _; grind), (by omega)⟩
  · refine sV (evEql false rfl rfl (dF hc15)) (sK hK9 (cF rfl (wp_skip (xN (hK8 _ _ (wp_seq_k fun K18 hK18 => rS fun K19 hK19 => sMs rfl (sV (evLen Try.underlying59 rfl) (sMi rfl (sK hK19 (wp_block ?_))))))))))
    refine lLoop (fun m e w_ => ∃ (i : Nat), m = nf - i ∧ e 1 = (.slice Af nf cf) ∧ e 2 = (.pointer (some ⟨g2, 0, none⟩)) ∧ e 13 = (.slice Af nf cf) ∧ e 14 = (.int .i64 ((nf : Int))) ∧ e 15 = (.int .i64 ((i : Int))) ∧ Frm (fun b => w12.heap.size ≤ b) w12 w_ ∧ (i ≤ nf)) (nf - (0)) ?_ ?_
    · refine ⟨(0), rfl, rfl, rfl, rfl, rfl, cI, (Frm.refl _ _), ?_⟩
      · omega
    · rintro m20 e29 w21 ⟨i, hm28, hs22, hs23, hs24, hs25, hs26, hF27, hi⟩
      obtain ⟨r30, rfl⟩ := sq (e := e29) (t := 1) hs22
      obtain ⟨r31, rfl⟩ := sq (e := r30) (t := 2) hs23
      obtain ⟨r32, rfl⟩ := sq (e := r31) (t := 13) hs24
      obtain ⟨r33, rfl⟩ := sq (e := r32) (t := 14) hs25
      obtain ⟨r34, rfl⟩ := sq (e := r33) (t := 15) hs26
      have hz35 := hF27.size
      refine rS fun K36 hK36 => ?_
      by_cases hc37 : ((i : Int)) < ((nf : Int))
      · refine sV (evLss true rfl rfl (dT hc37)) (sK hK36 (wp_seq_k fun K38 hK38 => cT rfl (wp_skip (xN (hK38 _ _ (wp_seq_k fun K39 hK39 => wp_block (rS fun K40 hK40 => ?_)))))))
        have hR41 := (hE5.trans hE13).rx hF27
        have h42 := (hf.frmB hR41 q3)
        obtain ⟨b43, o44, rfl⟩ := h42.base (by omega)
        refine sV (evIx i Try.underlying59 sz64 rfl rfl (o44 + (i * 2))) ?_
        obtain ⟨⟨A_45, n_45, c_45, l_45, k_45⟩, he_45, hp_45, hq_45, hP_45, hS_45, hb_45⟩ := h42.at_ (i := i) (by omega)
        dsimp only at hp_45 hq_45 hP_45; have ⟨q1_45, q2_45, q3_45⟩ := hP_45.lkm
        have ⟨z_45, a_45, b_45, d_45⟩ := hok _ (List.mem_of_getElem? he_45); dsimp only at z_45 a_45 b_45 d_45; have ht_45 : 1 ≤ (trimZ (zs l_45)).length := (by rw [← dg_P]; exact dg_pos.1 z_45)
        refine sV (evLoadA [(.slice A_45 n_45 c_45), (.int .i64 (k_45))] agg64 sz64 rfl (cell2 hp_45 hq_45)) (sO (oAlloc [(.slice none 0 0), (.int .i64 (0))] zero64 rfl (fun g47 w48 hg49 hE50 hz51 hB52 => sO (oStore [(.slice A_45 n_45 c_45), (.int .i64 (k_45))] rfl rfl rfl sz64 rfl hB52 (Nat.le_of_ble_eq_true rfl) (fun w53 hU54 hz55 hB56 => ?_)))))
        replace hB56 : Blk w53 g47 64 [(.slice A_45 n_45 c_45), (.int .i64 (k_45))] := hB56
        refine sK hK40 (rS fun K57 hK57 => sV (evFA 1 fa64_1 rfl rfl) (sV (evLoadB one3 rfl hB56 rfl) (sV (evGtr true rfl rfl (dT (by omega))) (sMb rfl (sEv (v := (.pointer (some ⟨g47, 0, none⟩))) (evFA 0 fa64_0 rfl rfl) rfl rfl (sEv (v := (.slice A_45 n_45 c_45)) (evLoadB one29 rfl hB56 rfl) rfl rfl ?_))))))
        have hR58 := hE50.rx hU54
        have h59 := (hP_45.frmB hR58 q3)
        refine sOp rfl (oCall rfl call18 (unipoly_Degree h59 (by omega) (by omega)) rfl ?_)
        rintro _ w61 ⟨xr_60, rfl, hE62, e_60⟩
        have hz63 := hE62.size
        refine sEv (v := (.bool false)) (evLss false rfl rfl (dF (by omega))) rfl rfl (sV (v := (.bool false)) (rfl) (sK hK57 (cF rfl (wp_skip (bN (xN (hK39 _ _ (wp_region_lit (sV (evAdd (((i : Int)) + 1) rfl rfl wI) (sMi rfl (sDone ?_)))))))))))
        have hR64 := hR58.xr hE62
        refine again (nf - (i + 1)) (by omega) ⟨(i + 1), rfl, rfl, rfl, rfl, rfl, cI, (Frm.mono (hF27.tr hR64) q4), ?_⟩
        · omega
      · refine sV (evLss false rfl rfl (dF hc37)) (sK hK36 (wp_seq_k fun K65 hK65 => cF rfl (wp_exit (xE (xE (bE (xN (hK18 _ _ (rS fun K66 hK66 => ?_)))))))))
        have hR67 := hE13.rx hF27
        have hB68 := (hB7.frm hR67 q1)
        refine sV (evLoadAB [(.bool gu), (.slice Au nu cu)] agg51 sz51 rfl hB68 rfl) (sO (oBuildSlice [(.agg #[(.bool gu), (.slice Au nu cu)])] [[(.bool gu), (.slice Au nu cu)]] Try.underlying29 inf51 rfl rfl rfl rfl rfl (fun g69 w70 hg71 hE72 hz73 hB74 => ?_)))
        replace hB74 : Blk w70 g69 51 [(.bool gu), (.slice Au nu cu)] := hB74
        have hR75 := hR67.xr hE72
        have h76 := (h10.frmB hR75 q3)
        have h77 : PolyR w70 (fun _ => True) (some ⟨g69, 0, none⟩) 1 1 [⟨gu, Au, nu, cu, du⟩] 8 := PolyR.of_blk (l := [⟨gu, Au, nu, cu, du⟩]) (M := 8) hB74 (fun r hr => by simp at hr; subst hr; exact ⟨h76.sub fun _ _ _ => trivial, by (try dsimp only); omega⟩) trivial rfl (Nat.le_refl _) (by decide)
        refine sO (oCall rfl call44 (unipoly_Normal h77 (by omega) (by omega)) rfl ?_)
        rintro _ w80 ⟨qr_79, nr_79, lr_79, rfl, hE81, hgr_79, Br_79, hAr_79, kr_79, mr_79, e_79, ln_79, cn_79⟩
        have hz82 := hE81.size
        have hhr_79 : w70.heap.size ≤ qr_79 := hgr_79; have ltr_79 := Br_79.lt
        refine sAs rfl (sK hK66 (wp_seq_k fun K84 hK84 => rS fun K85 hK85 => sMs rfl (sV (evLen Try.underlying59 rfl) (sMi rfl (sK hK85 (wp_block ?_))))))
        have h87 : PolyR w80 (fun b => qr_79 ≤ b) (some ⟨qr_79, 0, none⟩) nr_79 nr_79 (lr_79) ((8)) := PolyR.of_blk Br_79 (AllN.sub hAr_79 q5) (by (try dsimp only); omega) (by exact lq) (by omega) (by unfold CapMax; omega)
        refine lLoop (fun m e w_ => ∃ (i : Nat) (Ap : Option Addr) (np : Nat) (cp : Nat) (lp : List RI), m = nf - i ∧ e 7 = (.slice Ap np cp) ∧ e 32 = (.slice Af nf cf) ∧ e 33 = (.int .i64 ((nf : Int))) ∧ e 34 = (.int .i64 ((i : Int))) ∧ Frm (fun b => w80.heap.size ≤ b) w80 w_ ∧ (i ≤ nf) ∧ (np ≤ 1 + 111 * i) ∧ (PolyR w_ (fun b => b < w_.heap.size) Ap np cp lp (8 + 1500 * i)) ∧ (P (zs lp) = K ((zval gu du : Int) : Rat) * prodQ (ff.take i))) (nf - (0)) ?_ ?_
        · refine ⟨(0), ((some ⟨qr_79, 0, none⟩)), (nr_79), (nr_79), (lr_79), rfl, rfl, rfl, rfl, cI, (Frm.refl _ _), ?_, ?_, ?_, ?_⟩
          · omega
          · omega
          · exact (PolyR.low h87).le (by omega)
          · rw [e_79, P_trim, List.take_zero]; exact QP.eq fun x => by show evQ [zval gu du] x = ((zval gu du : Int) : Rat) * 1; simp only [evQ]; grind
        · rintro m86 e95 w88 ⟨i, Ap, np, cp, lp, hm94, hs89, hs90, hs91, hs92, hF93, hi, hnp, hPR, hv⟩
          obtain ⟨r96, rfl⟩ := sq (e := e95) (t := 7) hs89
          obtain ⟨r97, rfl⟩ := sq (e := r96) (t := 32) hs90
          obtain ⟨r98, rfl⟩ := sq (e := r97) (t := 33) hs91
          obtain ⟨r99, rfl⟩ := sq (e := r98) (t := 34) hs92
          have hz100 := hF93.size
          have ⟨k7, j7, m7⟩ := hPR.lkm
          refine rS fun K101 hK101 => ?_
          by_cases hc102 : ((i : Int)) < ((nf : Int))
          · refine sV (evLss true rfl rfl (dT hc102)) (sK hK101 (wp_seq_k fun K103 hK103 => cT rfl (wp_skip (xN (hK103 _ _ (wp_seq_k fun K104 hK104 => wp_block (rS fun K105 hK105 => ?_)))))))
            have hR106 := ((((hE5.trans hE13).rx hF27).xr hE72).xr hE81).tr hF93
            have h107 := (hf.frmB hR106 q3)
            obtain ⟨b108, o109, rfl⟩ := h107.base (by omega)
            refine sV (evIx i Try.underlying59 sz64 rfl rfl (o109 + (i * 2))) ?_
            obtain ⟨⟨A_110, n_110, c_110, l_110, k_110⟩, he_110, hp_110, hq_110, hP_110, hS_110, hb_110⟩ := h107.at_ (i := i) (by omega)
            dsimp only at hp_110 hq_110 hP_110; have ⟨q1_110, q2_110, q3_110⟩ := hP_110.lkm
            have ⟨z_110, a_110, b_110, d_110⟩ := hok _ (List.mem_of_getElem? he_110); dsimp only at z_110 a_110 b_110 d_110; have ht_110 : 1 ≤ (trimZ (zs l_110)).length := (by rw [← dg_P]; exact dg_pos.1 z_110)
            refine sV (evLoadA [(.slice A_110 n_110 c_110), (.int .i64 (k_110))] agg64 sz64 rfl (cell2 hp_110 hq_110)) (sO (oAlloc [(.slice none 0 0), (.int .i64 (0))] zero64 rfl (fun g112 w113 hg114 hE115 hz116 hB117 => sO (oStore [(.slice A_110 n_110 c_110), (.int .i64 (k_110))] rfl rfl rfl sz64 rfl hB117 (Nat.le_of_ble_eq_true rfl) (fun w118 hU119 hz120 hB121 => ?_)))))
            replace hB121 : Blk w118 g112 64 [(.slice A_110 n_110 c_110), (.int .i64 (k_110))] := hB121
            refine sK hK105 (wp_region_lit (sMs rfl (sV (evFA 0 fa64_0 rfl rfl) (sV (evLoadB one29 rfl hB121 rfl) (sV (evFA 1 fa64_1 rfl rfl) (sV (evLoadB one3 rfl hB121 rfl) ?_))))))
            have hR122 := hE115.rx hU119
            have h123 := (hP_110.frmB hR122 q3)
            refine sO (oCall rfl call20 (unipoly_Pow h123 (by omega) (by omega) (by omega)) rfl ?_)
            rintro _ w125 ⟨Ar_124, nr_124, cr_124, lr_124, rfl, hE126, hr_124, e_124, ln_124, cn_124⟩
            have hz127 := hE126.size
            have ⟨kr_124, jr_124, mr_124⟩ := hr_124.lkm
            have hl_124 : nr_124 ≤ 111 := by have h := tlen_pow (N := 10) (L := 11) e_124 (by have h := trimZ_len (zs l_110); rw [zlen] at h; omega) (by omega); rw [zlen] at h; omega
            have hT129 := PolyR.tight (K := 181) hr_124 cn_124 (Nat.lt_of_le_of_lt (pow_norm (N := 10) e_124 (hP_110.nrm18 (by omega)) (by decide) (by omega)) (by decide))
            have hR130 := hR122.xr hE126
            have h131 := (hPR.frmB hR130 q3)
            refine sO (oCall rfl call23 (unipoly_Mul h131 hT129 (by omega) (by omega) (by omega) (by omega)) rfl ?_)
            rintro _ w133 ⟨Ar_132, nr_132, cr_132, lr_132, rfl, hE134, hr_132, e_132, ln_132, cn_132⟩
            have hz135 := hE134.size
            have ⟨kr_132, jr_132, mr_132⟩ := hr_132.lkm
            refine sAs rfl (sDone (bN (xN (hK104 _ _ (wp_region_lit (sV (evAdd (((i : Int)) + 1) rfl rfl wI) (sMi rfl (sDone ?_))))))))
            have hR137 := hR130.xr hE134
            refine again (nf - (i + 1)) (by omega) ⟨(i + 1), (Ar_132), (nr_132), (cr_132), (lr_132), rfl, rfl, rfl, rfl, cI, (Frm.mono (hF93.tr hR137) q4), ?_, ?_, ?_, ?_⟩
            · omega
            · omega
            · exact (PolyR.low hr_132).le (by omega)
            · exact mulF hv e_132 e_124 he_110
          · refine sV (evLss false rfl rfl (dF hc102)) (sK hK101 (wp_seq_k fun K138 hK138 => cF rfl (wp_exit (xE (xE (bE (xN (hK84 _ _ (rS fun K139 hK139 => sMs rfl (sAs rfl (sK hK139 (wp_ret (ret1 (.slice Ap np cp) Try.results32 (resT rfl) ?_)))))))))))))
            have hR140 := ((((hE5.trans hE13).rx hF27).xr hE72).xr hE81).tr hF93
            exact ⟨Ap, np, cp, lp, rfl, (Frm.mono hR140 q4), (PolyR.le (PolyR.sub hPR fun _ _ _ => trivial) (by omega)), (by rw [hv, List.take_of_length_le (by omega)]), (by omega)⟩

theorem law11_normal {w : World} {Sf : Nat → Prop} {Af : Option Addr} {nf cf Mf : Nat} {lf : List RI} (hf : PolyR w Sf Af nf cf lf Mf) (hnf : nf ≤ 11) (hMf : Mf ≤ 64) (hn : Nrm (zs lf)) (hd : 2 ≤ (trimZ (zs lf)).length) : Calls Try.prog 31 #[(.slice Af nf cf)] w (Ret fun v w' => ∃ (gr : Bool), v = (.bool gr) ∧ Ext w w' ∧ (gr = true)) := by
  have ⟨kf, jf, mf⟩ := hf.lkm
  replace hf := hf.low
  refine enter Try.func31 rfl Try.ntmps31 rfl (rS fun K1 hK1 => sAb rfl (sK hK1 (rS fun K2 hK2 => sMs rfl (sO (oCall rfl call18 (unipoly_Degree hf (by omega) (by omega)) rfl ?_)))))
  rintro _ w4 ⟨xr_3, rfl, hE5, e_3⟩
  have hz6 := hE5.size
  refine sV (evGtr true rfl rfl (dT (by omega))) (sMb rfl (sEv (v := (.slice Af nf cf)) (rfl) rfl rfl ?_))
  have h7 := (hf.ext hE5)
  refine sOp rfl (oCall rfl call21 (unidiv_Primitive h7 (by omega) (by omega)) rfl ?_)
  rintro _ w9 ⟨Ar_8, nr_8, cr_8, lr_8, rfl, hE10, hr_8, e_8, ln_8, cn_8⟩
  have hz11 := hE10.size
  have ⟨kr_8, jr_8, mr_8⟩ := hr_8.lkm
  refine sEv (v := (.slice Af nf cf)) (rfl) rfl rfl ?_
  have h13 := (h7.ext hE10)
  refine sOp rfl (oCall rfl call15 (unipoly_Same hr_8 h13) rfl ?_)
  rintro _ w15 ⟨gr_14, rfl, hE16, e_14⟩
  have hz17 := hE16.size
  obtain rfl : gr_14 = true := by rw [e_14, e_8, hn.self]; simp
  refine sV (v := (.bool true)) (rfl) (sAb rfl (sK hK2 (wp_ret (ret1 (.bool true) Try.results31 (resT rfl) ?_))))
  have hR18 := (hE5.trans hE10).trans hE16
  exact ⟨(true), rfl, hR18, rfl⟩

end Go.Proofs.Ytikplganiodciaa
