/-
  Walks: Few of the reference; the law UnipolyInverse.
-/
import Derived.Test.YtppegjbdencefaaLaw1
import Derived.Test.YtppegjbdencefaaUni7
import Derived.Test.YtppegjbdencefaaUni5
import Derived.Test.YtppegjbdencefaaInvMath
namespace Go.Proofs.Ytppegjbdencefaa
open Go.RowKit Go.Gx
theorem ref01_Few {w : World} {xn : Int} {pl : Nat} {Al0 Al1 : Option Addr} {nl0 cl0 nl1 cl1 : Nat} (Bl : Blk w pl 43 [.slice Al0 nl0 cl0, .slice Al1 nl1 cl1])  : Calls Try.prog 49 #[(.int .i64 (xn)), (.slice (some ⟨pl, 0, none⟩) 2 2)] w (Ret fun v w' => ∃ (gr : Bool), v = (.bool gr) ∧ Ext w w' ∧ (gr = true → (nl0 : Int) ≤ xn ∧ (nl1 : Int) ≤ xn)) := by
  refine enter Try.func49 rfl Try.ntmps49 rfl (rS fun K1 hK1 => sAb rfl (sK hK1 (wp_seq_k fun K2 hK2 => rS fun K3 hK3 => sAi rfl (sK hK3 (wp_block ?_)))))
  refine lLoop (fun m e w_ => ∃ (k : Nat), m = 2 - k ∧ e 0 = (.int .i64 (xn)) ∧ e 1 = (.slice (some ⟨pl, 0, none⟩) 2 2) ∧ e 5 = (.int .i64 ((k : Int))) ∧ Frm (fun b => False) w w_ ∧ (k ≤ 2) ∧ (0 < k → (nl0 : Int) ≤ xn) ∧ (1 < k → (nl1 : Int) ≤ xn)) (2 - (0)) ?_ ?_
  · refine ⟨(0), rfl, rfl, rfl, cI, (Frm.refl _ _), ?_, ?_, ?_⟩
    · omega
    · omega
    · omega
  · rintro m4 e11 w5 ⟨k, hm10, hs6, hs7, hs8, hF9, hk, i0, i1⟩
    obtain ⟨r12, rfl⟩ := sq (e := e11) (t := 0) hs6
    obtain ⟨r13, rfl⟩ := sq (e := r12) (t := 1) hs7
    obtain ⟨r14, rfl⟩ := sq (e := r13) (t := 5) hs8
    have hz15 := hF9.size
    refine wp_seq_k fun K16 hK16 => rS fun K17 hK17 => sMi rfl (sMs rfl (sV (evLen Try.underlying102 rfl) ?_))
    by_cases hc18 : ((k : Int)) < 2
    · refine sV (evLss true rfl rfl (dT hc18)) (sK hK17 (cT rfl (wp_skip (xN (hK16 _ _ (wp_seq_k fun K19 hK19 => wp_block (rS fun K20 hK20 => sMs rfl (sMi rfl (sV (evIx k Try.underlying102 sz43 rfl rfl k) ?_)))))))))
      have hB21 := (Bl.ext hF9)
      obtain ⟨A_22, n_22, c_22, hc_22, h0_22, h1_22⟩ := two_slices (k := k) hB21 (by omega)
      refine sV (evLoad one43 rfl hc_22) (sV (evLen Try.underlying43 rfl) (sMi rfl ?_))
      by_cases hc23 : ((n_22 : Int)) > xn
      · refine sV (evGtr true rfl rfl (dT hc23)) (sK hK20 (cT rfl (rS fun K24 hK24 => sAb rfl (sK hK24 (wp_ret (bR (xR (xR (bR (xR (ret1 (.bool false) Try.results49 (resT rfl) ?_)))))))))))
        exact ⟨(false), rfl, hF9, (fun h => by cases h)⟩
      · refine sV (evGtr false rfl rfl (dF hc23)) (sK hK20 (cF rfl (wp_skip (bN (xN (hK19 _ _ (wp_region_lit (sMi rfl (sV (evAdd (((k : Int)) + 1) rfl rfl wI) (sAi rfl (sDone (again (2 - (k + 1)) (by omega) ⟨(k + 1), rfl, rfl, rfl, cI, hF9, ?_, ?_, ?_⟩))))))))))))
        · omega
        · omega
        · omega
    · refine sV (evLss false rfl rfl (dF hc18)) (sK hK17 (cF rfl (wp_exit (xE (xE (bE (xN (hK2 _ _ (rS fun K25 hK25 => sAb rfl (sK hK25 (wp_ret (ret1 (.bool true) Try.results49 (resT rfl) ?_))))))))))))
      exact ⟨(true), rfl, hF9, (fun _ => ⟨i0 (by omega), i1 (by omega)⟩)⟩

set_option maxHeartbeats 2000000 in
theorem law08_inverse {w : World} {Sf : Nat → Prop} {Af : Option Addr} {nf cf Mf : Nat} {lf : List RI} {gc : Bool} {Sc : Nat → Prop} {Ac : Option Addr} {nc cc : Nat} {dc : List Nat} {ga : Bool} {Sa : Nat → Prop} {Aa : Option Addr} {na ca : Nat} {da : List Nat} {Sav : Nat → Prop} {Aav : Option Addr} {nav cav : Nat} {dav : List Nat} (hf : PolyR w Sf Af nf cf lf Mf) (hc : NatR w Sc Ac nc cc dc) (ha : NatR w Sa Aa na ca da) (hav : NatR w Sav Aav nav cav dav)  : Calls Try.prog 10 #[(.slice Af nf cf), (.agg #[(.bool gc), (.slice Ac nc cc)]), (.agg #[(.bool ga), (.slice Aa na ca), (.slice Aav nav cav)])] w (Ret fun v w' => ∃ (gr : Bool), v = (.bool gr) ∧ Ext w w' ∧ (gr = true)) := by
  have ⟨kf, jf, mf⟩ := hf.lkm
  replace hf := hf.low
  have ⟨lc, kc, mc⟩ := hc.lkm
  replace hc := hc.low
  have ⟨la, ka, ma⟩ := ha.lkm
  replace ha := ha.low
  have ⟨lav, kav, mav⟩ := hav.lkm
  replace hav := hav.low
  refine enter Try.func10 rfl Try.ntmps10 rfl (rS fun K1 hK1 => sO (oBox [(.bool gc), (.slice Ac nc cc)] rfl rfl (fun g2 w3 hg4 hE5 hz6 hB7 => sO (oBox [(.bool ga), (.slice Aa na ca), (.slice Aav nav cav)] rfl rfl (fun g8 w9 hg10 hE11 hz12 hB13 => sAb rfl (sK hK1 (wp_seq_k fun K14 hK14 => rS fun K15 hK15 => sO (oCall rfl call12 (law08_awake) rfl ?_))))))))
  rintro _ w17 ⟨gr_16, rfl, hE18, e_16⟩
  have hz19 := hE18.size
  obtain rfl : gr_16 = true := e_16
  refine sV (evNot _ rfl rfl) (sMb rfl (sEv (v := (.slice Af nf cf)) (rfl) rfl rfl ?_))
  have hR20 := (hE5.trans hE11).trans hE18
  have h21 := (hf.ext hR20)
  refine sOp rfl (oCall rfl call13 (cylinderlaw08_Few h21) rfl ?_)
  rintro _ w23 ⟨gr_22, rfl, hE24, e_22⟩
  have hz25 := hE24.size
  refine sEv (v := (.bool (!gr_22))) (evNot _ rfl rfl) rfl rfl (sV (v := (.bool (!gr_22))) (rfl) (sMb rfl ?_))
  cases gr_22
  · refine sSkip rfl rfl (sSkip rfl rfl (sSkip rfl rfl (sSkip rfl rfl (sV (v := (.bool true)) (rfl) (sMb rfl (sSkip rfl rfl (sSkip rfl rfl (sSkip rfl rfl (sSkip rfl rfl (sSkip rfl rfl (sSkip rfl rfl (sSkip rfl rfl (sSkip rfl rfl (sV (v := (.bool true)) (rfl) (sK hK15 (cT rfl (rS fun K26 hK26 => sO (oCall rfl call12 (law08_awake) rfl ?_))))))))))))))))))
    rintro _ w28 ⟨gr_27, rfl, hE29, e_27⟩
    have hz30 := hE29.size
    obtain rfl : gr_27 = true := e_27
    refine sAb rfl (sK hK26 (wp_ret (xR (ret1 (.bool true) Try.results10 (resT rfl) ?_))))
    have hR31 := (hR20.trans hE24).trans hE29
    exact ⟨(true), rfl, hR31, rfl⟩
  · refine sEv (v := (.pointer (some ⟨g2, 1, none⟩))) (evFA 1 fa46_1 rfl rfl) rfl rfl ?_
    have hR32 := (hE11.trans hE18).trans hE24
    have hB33 := (hB7.ext hR32)
    refine sEv (v := (.slice Ac nc cc)) (evLoadB one44 rfl hB33 rfl) rfl rfl (sEv (v := (.int .i64 ((nc : Int)))) (evLen Try.underlying44 rfl) rfl rfl ?_)
    by_cases hc34 : ((nc : Int)) > 2
    · refine sEv (v := (.bool true)) (evGtr true rfl rfl (dT hc34)) rfl rfl (sV (v := (.bool true)) (rfl) (sMb rfl (sSkip rfl rfl (sSkip rfl rfl (sSkip rfl rfl (sSkip rfl rfl (sSkip rfl rfl (sSkip rfl rfl (sSkip rfl rfl (sSkip rfl rfl (sV (v := (.bool true)) (rfl) (sK hK15 (cT rfl (rS fun K35 hK35 => sO (oCall rfl call12 (law08_awake) rfl ?_)))))))))))))))
      rintro _ w37 ⟨gr_36, rfl, hE38, e_36⟩
      have hz39 := hE38.size
      obtain rfl : gr_36 = true := e_36
      refine sAb rfl (sK hK35 (wp_ret (xR (ret1 (.bool true) Try.results10 (resT rfl) ?_))))
      have hR40 := (hR20.trans hE24).trans hE38
      exact ⟨(true), rfl, hR40, rfl⟩
    · refine sEv (v := (.bool false)) (evGtr false rfl rfl (dF hc34)) rfl rfl (sV (v := (.bool false)) (rfl) (sMb rfl (sEv (v := (.pointer (some ⟨g8, 0, none⟩))) (evFA 0 fa64_0 rfl rfl) rfl rfl (sEv (v := (.pointer (some ⟨g8, 1, none⟩))) (evFA 1 fa46_1 rfl rfl) rfl rfl ?_))))
      have hR41 := hE18.trans hE24
      have hB42 := (hB13.ext hR41)
      refine sEv (v := (.slice Aa na ca)) (evLoadB one44 rfl hB42 rfl) rfl rfl (sEv (v := (.pointer (some ⟨g8, 2, none⟩))) (evFA 2 fa64_1 rfl rfl) rfl rfl (sEv (v := (.slice Aav nav cav)) (evLoadB one44 rfl hB42 rfl) rfl rfl (sOp rfl (oBuildSlice [(.slice Aa na ca), (.slice Aav nav cav)] [[(.slice Aa na ca)], [(.slice Aav nav cav)]] Try.underlying102 inf43 rfl rfl rfl rfl rfl (fun g43 w44 hg45 hE46 hz47 hB48 => ?_)))))
      replace hB48 : Blk w44 g43 43 [(.slice Aa na ca), (.slice Aav nav cav)] := hB48
      refine sOp rfl (oCall rfl call49 (ref01_Few hB48) rfl ?_)
      rintro _ w50 ⟨gr_49, rfl, hE51, e_49⟩
      have hz52 := hE51.size
      refine sEv (v := (.bool (!gr_49))) (evNot _ rfl rfl) rfl rfl (sV (v := (.bool (!gr_49))) (rfl) (sK hK15 ?_))
      cases gr_49
      · refine cT rfl (rS fun K53 hK53 => sO (oCall rfl call12 (law08_awake) rfl ?_))
        rintro _ w55 ⟨gr_54, rfl, hE56, e_54⟩
        have hz57 := hE56.size
        obtain rfl : gr_54 = true := e_54
        refine sAb rfl (sK hK53 (wp_ret (xR (ret1 (.bool true) Try.results10 (resT rfl) ?_))))
        have hR58 := (((hR20.trans hE24).trans hE46).trans hE51).trans hE56
        exact ⟨(true), rfl, hR58, rfl⟩
      · refine cF rfl (wp_skip (xN (hK14 _ _ (rS fun K59 hK59 => sMs rfl ?_))))
        have qf := e_22 rfl
        have qnf := qf.1
        have hf2 := hf.reM (M' := 2) (by intro r hr; have := qf.2 r hr; omega)
        have hfw := e_49 rfl
        have hR60 := hE46.trans hE51
        have hB61 := (hB33.ext hR60)
        refine sV (evLoadAB [(.bool gc), (.slice Ac nc cc)] agg46 sz46 rfl hB61 rfl) ?_
        have hR62 := ((hR20.trans hE24).trans hE46).trans hE51
        have h63 := (hf2.ext hR62)
        have h64 := (hc.ext hR62)
        refine sO (oCall rfl call27 (unipoly_Shift h63 h64 (by omega) (by omega) (by omega)) rfl ?_)
        rintro _ w66 ⟨Ar_65, nr_65, cr_65, lr_65, rfl, hE67, hr_65, e_65, ln_65, cn_65⟩
        have hz68 := hE67.size
        have ⟨kr_65, jr_65, mr_65⟩ := hr_65.lkm
        refine sAs rfl (sK hK59 (wp_seq_k fun K70 hK70 => wp_seq_k fun K71 hK71 => dBegin (fun _ => False) mixed (fun w72 hE73 hz74 => dMs 0 rfl rfl ?_)))
        have hR75 := hE67.trans hE73
        have hB76 := (hB61.ext hR75)
        refine dV 1 rfl (fun _ hf => evLoadAB [(.bool gc), (.slice Ac nc cc)] agg46 sz46 rfl (hB76.ext hf) rfl) (dMs 4 rfl rfl ?_)
        have h77 := (h64.ext hR75)
        refine dOp 2 rfl rfl (by kernel_rfl) (oCall rfl call57 (integer_Neg h77 (by omega)) rfl ?_)
        rintro _ w79 ⟨gr_78, Ar_78, nr_78, cr_78, dr_78, rfl, hE80, hr_78, v_78, cn_78, le_78⟩
        refine ⟨(Frm.of_ext hE80), ?_⟩
        have hz81 := hE80.size
        have ⟨lr_78, kr_78, mr_78⟩ := hr_78.lkm
        have hR83 := hE73.trans hE80
        have h84 := (hr_65.ext hR83)
        refine dOp 3 rfl rfl (by kernel_rfl) (oCall rfl call27 (unipoly_Shift h84 hr_78 (by omega) (by omega) (by omega)) rfl ?_)
        rintro _ w86 ⟨Ar_85, nr_85, cr_85, lr_85, rfl, hE87, hr_85, e_85, ln_85, cn_85⟩
        refine ⟨(Frm.of_ext hE87), ?_⟩
        have hz88 := hE87.size
        have ⟨kr_85, jr_85, mr_85⟩ := hr_85.lkm
        have hR90 := (hR75.trans hE80).trans hE87
        have h91 := (h63.ext hR90)
        refine dOp 5 rfl rfl (by kernel_rfl) (oCall rfl call23 (unipoly_Same hr_85 h91) rfl ?_)
        rintro _ w93 ⟨gr_92, rfl, hE94, e_92⟩
        refine ⟨(Frm.of_ext hE94), ?_⟩
        have hz95 := hE94.size
        obtain rfl : gr_92 = true := by rw [e_92, e_85, e_65]; exact decide_eq_true (shift_back v_78)
        refine dV 6 rfl (fun _ _ => evNot _ rfl rfl) (dMb 7 rfl rfl (dEv 8 rfl (v := (.slice Ar_65 nr_65 cr_65)) (fun _ _ => rfl) rfl rfl (by kernel_rfl) ?_))
        have hR96 := ((((hR60.trans hE67).trans hE73).trans hE80).trans hE87).trans hE94
        have hB97 := (hB42.ext hR96)
        refine dEv 9 rfl (v := (.agg #[(.bool ga), (.slice Aa na ca), (.slice Aav nav cav)])) (fun _ hf => evLoadAB [(.bool ga), (.slice Aa na ca), (.slice Aav nav cav)] agg64 sz64 rfl (hB97.ext hf) rfl) rfl rfl (by kernel_rfl) (dEv 11 rfl (v := (.slice Af nf cf)) (fun _ _ => rfl) rfl rfl (by kernel_rfl) (dEv 12 rfl (v := (.agg #[(.bool ga), (.slice Aa na ca), (.slice Aav nav cav)])) (fun _ hf => evLoadAB [(.bool ga), (.slice Aa na ca), (.slice Aav nav cav)] agg64 sz64 rfl (hB97.ext hf) rfl) rfl rfl (by kernel_rfl) ?_))
        have hR98 := (hE80.trans hE87).trans hE94
        have hB99 := (hB76.ext hR98)
        refine dEv 13 rfl (v := (.agg #[(.bool gc), (.slice Ac nc cc)])) (fun _ hf => evLoadAB [(.bool gc), (.slice Ac nc cc)] agg46 sz46 rfl (hB99.ext hf) rfl) rfl rfl (by kernel_rfl) ?_
        have hR100 := hE87.trans hE94
        have h101 := (h84.ext hR100)
        have hR102 := ((((hR62.trans hE67).trans hE73).trans hE80).trans hE87).trans hE94
        have h103 := (ha.ext hR102)
        have h104 := (hav.ext hR102)
        refine dOp 10 rfl rfl (by kernel_rfl) (oCall rfl call52 (unipoly_EvalRat h101 h103 h104 (by omega) (by omega) (by omega) (by omega)) rfl ?_)
        rintro _ w106 ⟨gr_105, Ar_105, nr_105, cr_105, dr_105, Arv_105, nrv_105, crv_105, drv_105, rfl, hE107, hr_105, hrv_105, e_105, p_105, bn_105, bd_105, cn_105, cv_105, co_105⟩
        refine ⟨(Frm.of_ext hE107), ?_⟩
        have hz108 := hE107.size
        have ⟨lr_105, kr_105, mr_105⟩ := hr_105.lkm
        have ⟨lrv_105, krv_105, mrv_105⟩ := hrv_105.lkm
        have hR111 := hR98.trans hE107
        have h112 := (h77.ext hR111)
        refine dOp 14 rfl rfl (by kernel_rfl) (oCall rfl call59 (rational_From h112 (by omega)) rfl ?_)
        rintro _ w114 ⟨gr_113, Ar_113, nr_113, cr_113, dr_113, Arv_113, nrv_113, crv_113, drv_113, rfl, hE115, hr_113, hrv_113, v_113, q_113, cn_113, bn_113, bd_113⟩
        refine ⟨(Frm.of_ext hE115), ?_⟩
        have hz116 := hE115.size
        have ⟨lr_113, kr_113, mr_113⟩ := hr_113.lkm
        have ⟨lrv_113, krv_113, mrv_113⟩ := hrv_113.lkm
        have hR119 := hE107.trans hE115
        have h120 := (h103.ext hR119)
        have h121 := (h104.ext hR119)
        refine dOp 15 rfl rfl (by kernel_rfl) (oCall rfl call61 (rational_Add h120 h121 hr_113 hrv_113 (by omega) (by omega) (by omega) (by omega)) rfl ?_)
        rintro _ w123 ⟨gr_122, Ar_122, nr_122, cr_122, dr_122, Arv_122, nrv_122, crv_122, drv_122, rfl, hE124, hr_122, hrv_122, x_122, p_122, cn_122, cv_122, co_122, bn_122, bd_122⟩
        refine ⟨(Frm.of_ext hE124), ?_⟩
        have hz125 := hE124.size
        have ⟨lr_122, kr_122, mr_122⟩ := hr_122.lkm
        have ⟨lrv_122, krv_122, mrv_122⟩ := hrv_122.lkm
        have hR128 := ((hE94.trans hE107).trans hE115).trans hE124
        have h129 := (h91.ext hR128)
        refine dOp 16 rfl rfl (by kernel_rfl) (oCall rfl call52 (unipoly_EvalRat h129 hr_122 hrv_122 (by omega) (by omega) (by omega) (by omega)) rfl ?_)
        rintro _ w131 ⟨gr_130, Ar_130, nr_130, cr_130, dr_130, Arv_130, nrv_130, crv_130, drv_130, rfl, hE132, hr_130, hrv_130, e_130, p_130, bn_130, bd_130, cn_130, cv_130, co_130⟩
        refine ⟨(Frm.of_ext hE132), ?_⟩
        have hz133 := hE132.size
        have ⟨lr_130, kr_130, mr_130⟩ := hr_130.lkm
        have ⟨lrv_130, krv_130, mrv_130⟩ := hrv_130.lkm
        have hR136 := (hE115.trans hE124).trans hE132
        have h137 := (hr_105.ext hR136)
        have h138 := (hrv_105.ext hR136)
        refine dOp 17 rfl rfl (by kernel_rfl) (oCall rfl call60 (rational_Cmp h137 h138 hr_130 hrv_130 (by omega) (by omega) (by omega) (by omega)) rfl ?_)
        rintro _ w140 ⟨xr_139, rfl, hE141, e_139⟩
        refine ⟨(Frm.of_ext hE141), ?_⟩
        have hz142 := hE141.size
        refine dEv 18 rfl (v := (.bool false)) (fun _ _ => evNeq false rfl rfl (dF (by rw [e_139]; intro hh; exact hh (cmpZ_eq_zero.2 (rv_cross (by rw [e_105, e_130, e_65, evQ_trim, evQ_phorn, evQ_lin, rv_add x_122 p_122, rv_one q_113, v_113]; congr 1; grind)))))) rfl rfl (by kernel_rfl) (dV 19 rfl (v := (.bool false)) (fun _ _ => rfl) (dDone (by kernel_rfl) (xN (hK71 _ _ (cF rfl (wp_skip (xN (hK70 _ _ (rS fun K143 hK143 => sMs rfl (sV (evLen Try.underlying23 rfl) ?_))))))))))
        by_cases hc144 : ((nf : Int)) = 0
        · refine sV (evEql true rfl rfl (dT hc144)) (sMb rfl (sSkip rfl rfl (sSkip rfl rfl (sSkip rfl rfl (sSkip rfl rfl (sSkip rfl rfl (sV (v := (.bool true)) (rfl) (sMb rfl (sSkip rfl rfl (sSkip rfl rfl (sSkip rfl rfl (sSkip rfl rfl (sSkip rfl rfl (sV (v := (.bool true)) (rfl) (sAb rfl (sK hK143 (wp_ret (ret1 (.bool true) Try.results10 (resT rfl) ?_))))))))))))))))))
          have hR145 := ((((hR102.trans hE107).trans hE115).trans hE124).trans hE132).trans hE141
          exact ⟨(true), rfl, hR145, rfl⟩
        · refine sV (evEql false rfl rfl (dF hc144)) (sMb rfl (sEv (v := (.slice Af nf cf)) (rfl) rfl rfl ?_))
          have hR146 := hE132.trans hE141
          have h147 := (h129.ext hR146)
          obtain ⟨b148, o149, rfl⟩ := h147.base (by omega)
          refine sEv (v := (.pointer (some ⟨b148, o149 + (0 * 2), none⟩))) (evIx 0 Try.underlying23 sz46 rfl rfl (o149 + (0 * 2))) rfl rfl ?_
          obtain ⟨g_150, A_150, n_150, c_150, d_150, he_150, hp_150, hq_150, h_150, hM_150, hS_150, hb_150, z_150⟩ := h147.at_ (i := 0) (by omega)
          have ⟨l_150, k_150, m_150⟩ := h_150.lkm
          refine sEv (v := (.agg #[(.bool g_150), (.slice A_150 n_150 c_150)])) (evLoadA [(.bool g_150), (.slice A_150 n_150 c_150)] agg46 sz46 rfl (cell2 hp_150 hq_150)) rfl rfl (sOp rfl (oCall rfl call62 (integer_Sign h_150) rfl ?_))
          rintro _ w153 ⟨xr_152, rfl, hE154, e_152⟩
          have hz155 := hE154.size
          by_cases hc156 : xr_152 = 0
          · refine sEv (v := (.bool true)) (evEql true rfl rfl (dT hc156)) rfl rfl (sV (v := (.bool true)) (rfl) (sMb rfl (sSkip rfl rfl (sSkip rfl rfl (sSkip rfl rfl (sSkip rfl rfl (sSkip rfl rfl (sV (v := (.bool true)) (rfl) (sAb rfl (sK hK143 (wp_ret (ret1 (.bool true) Try.results10 (resT rfl) ?_))))))))))))
            have hR157 := (((((hR102.trans hE107).trans hE115).trans hE124).trans hE132).trans hE141).trans hE154
            exact ⟨(true), rfl, hR157, rfl⟩
          · refine sEv (v := (.bool false)) (evEql false rfl rfl (dF hc156)) rfl rfl (sV (v := (.bool false)) (rfl) (sMb rfl (sEv (v := (.slice (some ⟨b148, o149, none⟩) nf cf)) (rfl) rfl rfl ?_)))
            have h158 := (h147.ext hE154)
            refine sOp rfl (oCall rfl call31 (unipoly_Reverse h158 (by omega) (by omega)) rfl ?_)
            rintro _ w160 ⟨Ar_159, nr_159, cr_159, lr_159, rfl, hE161, hr_159, e_159, ln_159, cn_159⟩
            have hz162 := hE161.size
            have ⟨kr_159, jr_159, mr_159⟩ := hr_159.lkm
            refine sOp rfl (oCall rfl call31 (unipoly_Reverse hr_159 (by omega) (by omega)) rfl ?_)
            rintro _ w165 ⟨Ar_164, nr_164, cr_164, lr_164, rfl, hE166, hr_164, e_164, ln_164, cn_164⟩
            have hz167 := hE166.size
            have ⟨kr_164, jr_164, mr_164⟩ := hr_164.lkm
            refine sEv (v := (.slice (some ⟨b148, o149, none⟩) nf cf)) (rfl) rfl rfl ?_
            have hR169 := hE161.trans hE166
            have h170 := (h158.ext hR169)
            refine sOp rfl (oCall rfl call23 (unipoly_Same hr_164 h170) rfl ?_)
            rintro _ w172 ⟨gr_171, rfl, hE173, e_171⟩
            have hz174 := hE173.size
            obtain rfl : gr_171 = true := by rw [e_171, e_164, e_159]; exact decide_eq_true (rev_back (by intro hh; exact hc156 ((sign_zero_iff e_152 z_150).2 hh)))
            refine sV (v := (.bool true)) (rfl) (sAb rfl (sK hK143 (wp_ret (ret1 (.bool true) Try.results10 (resT rfl) ?_))))
            have hR175 := ((((((((hR102.trans hE107).trans hE115).trans hE124).trans hE132).trans hE141).trans hE154).trans hE161).trans hE166).trans hE173
            exact ⟨(true), rfl, hR175, rfl⟩

end Go.Proofs.Ytppegjbdencefaa
