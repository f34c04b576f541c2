/-
  Walks: Few of the reference; the law UnipolyInverse.
-/
import Derived.Test.YtppegjbdencefaaLaw1
import Derived.Test.YtppegjbdencefaaUni7
import Derived.Test.YtppegjbdencefaaUni5
import Derived.Test.YtppegjbdencefaaInvMath
namespace Go.Proofs.Ytppegjbdencefaa
open Go.RowKit Go.Gx
theorem ref01_Few {w : World} {xn : Int} {pl : Nat} {Al0 Al1 : Option Addr} {nl0 cl0 nl1 cl1 : Nat} (Bl : Blk w pl 43 [.slice Al0 nl0 cl0, .slice Al1 nl1 cl1])  : Calls Try.prog 49 #[(.int .i64 (xn)), (.slice (some ⟨pl, 0, none⟩) 2 2)] w (Ret fun v w' => ∃ (gr : Bool), v = (.bool gr) ∧ Ext w w' ∧ (gr = true → (nl0 : Int) ≤ xn ∧ (nl1 : Int) ≤ xn)) := by
  refine enter Try.func49 rfl Try.ntmps49 rfl ?_
  refine wp_seq_k fun K1 hK1 => ?_
  refine wp_region_lit ?_
  refine sEv (v := (.bool false)) (rfl) rfl rfl ?_
  refine sDone ?_
  refine xN (hK1 _ _ ?_)
  refine wp_seq_k fun K2 hK2 => ?_
  refine wp_seq_k fun K3 hK3 => ?_
  refine wp_region_lit ?_
  refine sEv (v := (.int .i64 (0))) (rfl) rfl rfl ?_
  refine sDone ?_
  refine xN (hK3 _ _ ?_)
  refine wp_block ?_
  refine lLoop (fun m e w_ => ∃ (k : Nat), m = 2 - k ∧ e 0 = (.int .i64 (xn)) ∧ e 1 = (.slice (some ⟨pl, 0, none⟩) 2 2) ∧ e 5 = (.int .i64 ((k : Int))) ∧ Frm (fun b => False) w w_ ∧ (k ≤ 2) ∧ (0 < k → (nl0 : Int) ≤ xn) ∧ (1 < k → (nl1 : Int) ≤ xn)) (2 - (0)) ?_ ?_
  · refine ⟨(0), rfl, rfl, rfl, (congrArg (Value.int .i64) (by omega)), (Frm.refl _ _), ?_, ?_, ?_⟩
    · omega
    · omega
    · omega
  · rintro m4 e11 w5 ⟨k, hm10, hs6, hs7, hs8, hF9, hk, i0, i1⟩
    obtain ⟨r12, rfl⟩ := sq (e := e11) (t := 0) hs6
    obtain ⟨r13, rfl⟩ := sq (e := r12) (t := 1) hs7
    obtain ⟨r14, rfl⟩ := sq (e := r13) (t := 5) hs8
    have hz15 := hF9.size
    refine wp_seq_k fun K16 hK16 => ?_
    refine wp_seq_k fun K17 hK17 => ?_
    refine wp_region_lit ?_
    refine sEv (v := (.int .i64 ((k : Int)))) (rfl) rfl rfl ?_
    refine sEv (v := (.slice (some ⟨pl, 0, none⟩) 2 2)) (rfl) rfl rfl ?_
    refine sEv (v := (.int .i64 (2))) (evLen Try.underlying102 rfl) rfl rfl ?_
    by_cases hc18 : ((k : Int)) < 2
    · refine sEv (v := (.bool true)) (evLss true rfl rfl (dT hc18)) rfl rfl ?_
      refine sDone ?_
      refine xN (hK17 _ _ ?_)
      refine cT rfl ?_
      refine wp_skip ?_
      refine xN (hK16 _ _ ?_)
      refine wp_seq_k fun K19 hK19 => ?_
      refine wp_block ?_
      refine wp_seq_k fun K20 hK20 => ?_
      refine wp_region_lit ?_
      refine sEv (v := (.slice (some ⟨pl, 0, none⟩) 2 2)) (rfl) rfl rfl ?_
      refine sEv (v := (.int .i64 ((k : Int)))) (rfl) rfl rfl ?_
      refine sEv (v := (.pointer (some ⟨pl, k, none⟩))) (evIndex k Try.underlying102 sz43 rfl rfl (by omega) (by omega) k (by omega)) rfl rfl ?_
      have hB21 := (Bl.ext hF9)
      obtain ⟨A_22, n_22, c_22, hc_22, h0_22, h1_22⟩ := two_slices (k := k) hB21 (by omega)
      refine sEv (v := (.slice A_22 n_22 c_22)) (evLoad one43 rfl hc_22) rfl rfl ?_
      refine sEv (v := (.int .i64 ((n_22 : Int)))) (evLen Try.underlying43 rfl) rfl rfl ?_
      refine sEv (v := (.int .i64 (xn))) (rfl) rfl rfl ?_
      by_cases hc23 : ((n_22 : Int)) > xn
      · refine sEv (v := (.bool true)) (evGtr true rfl rfl (dT hc23)) rfl rfl ?_
        refine sDone ?_
        refine xN (hK20 _ _ ?_)
        refine cT rfl ?_
        refine wp_seq_k fun K24 hK24 => ?_
        refine wp_region_lit ?_
        refine sEv (v := (.bool false)) (rfl) rfl rfl ?_
        refine sDone ?_
        refine xN (hK24 _ _ ?_)
        refine wp_ret (bR (xR (xR (bR (xR ?_)))))
        refine ret1 (.bool false) Try.results49 (resT rfl) ?_
        exact ⟨(false), rfl, hF9, (fun h => by cases h)⟩
      · refine sEv (v := (.bool false)) (evGtr false rfl rfl (dF hc23)) rfl rfl ?_
        refine sDone ?_
        refine xN (hK20 _ _ ?_)
        refine cF rfl ?_
        refine wp_skip ?_
        refine bN ?_
        refine xN (hK19 _ _ ?_)
        refine wp_region_lit ?_
        refine sEv (v := (.int .i64 ((k : Int)))) (rfl) rfl rfl ?_
        refine sEv (v := (.int .i64 (((k : Int)) + 1))) (evAdd (((k : Int)) + 1) rfl rfl (wI64 (by omega))) rfl rfl ?_
        refine sEv (v := (.int .i64 (((k : Int)) + 1))) (rfl) rfl rfl ?_
        refine sDone ?_
        refine again (2 - (k + 1)) (by omega) ⟨(k + 1), rfl, rfl, rfl, (congrArg (Value.int .i64) (by omega)), hF9, ?_, ?_, ?_⟩
        · omega
        · omega
        · omega
    · refine sEv (v := (.bool false)) (evLss false rfl rfl (dF hc18)) rfl rfl ?_
      refine sDone ?_
      refine xN (hK17 _ _ ?_)
      refine cF rfl ?_
      refine wp_exit (xE (xE (bE ?_)))
      refine xN (hK2 _ _ ?_)
      refine wp_seq_k fun K25 hK25 => ?_
      refine wp_region_lit ?_
      refine sEv (v := (.bool true)) (rfl) rfl rfl ?_
      refine sDone ?_
      refine xN (hK25 _ _ ?_)
      refine wp_ret ?_
      refine ret1 (.bool true) Try.results49 (resT rfl) ?_
      exact ⟨(true), rfl, hF9, (fun _ => ⟨i0 (by omega), i1 (by omega)⟩)⟩

set_option maxHeartbeats 2000000 in
theorem law08_inverse {w : World} {Sf : Nat → Prop} {Af : Option Addr} {nf cf Mf : Nat} {lf : List RI} {gc : Bool} {Sc : Nat → Prop} {Ac : Option Addr} {nc cc : Nat} {dc : List Nat} {ga : Bool} {Sa : Nat → Prop} {Aa : Option Addr} {na ca : Nat} {da : List Nat} {Sav : Nat → Prop} {Aav : Option Addr} {nav cav : Nat} {dav : List Nat} (hf : PolyR w Sf Af nf cf lf Mf) (hc : NatR w Sc Ac nc cc dc) (ha : NatR w Sa Aa na ca da) (hav : NatR w Sav Aav nav cav dav)  : Calls Try.prog 10 #[(.slice Af nf cf), (.agg #[(.bool gc), (.slice Ac nc cc)]), (.agg #[(.bool ga), (.slice Aa na ca), (.slice Aav nav cav)])] w (Ret fun v w' => ∃ (gr : Bool), v = (.bool gr) ∧ Ext w w' ∧ (gr = true)) := by
  have kf := hf.len; have jf := hf.cap; have mf := hf.max
  replace hf := hf.low
  have lc := hc.len; have kc := hc.cap; have mc := hc.max
  replace hc := hc.low
  have la := ha.len; have ka := ha.cap; have ma := ha.max
  replace ha := ha.low
  have lav := hav.len; have kav := hav.cap; have mav := hav.max
  replace hav := hav.low
  refine enter Try.func10 rfl Try.ntmps10 rfl ?_
  refine wp_seq_k fun K1 hK1 => ?_
  refine wp_region_lit ?_
  refine sOp rfl (oBox [(.bool gc), (.slice Ac nc cc)] rfl rfl ?_)
  intro g2 w3 hg4 hE5 hz6 hB7
  refine sOp rfl (oBox [(.bool ga), (.slice Aa na ca), (.slice Aav nav cav)] rfl rfl ?_)
  intro g8 w9 hg10 hE11 hz12 hB13
  refine sEv (v := (.bool false)) (rfl) rfl rfl ?_
  refine sDone ?_
  refine xN (hK1 _ _ ?_)
  refine wp_seq_k fun K14 hK14 => ?_
  refine wp_seq_k fun K15 hK15 => ?_
  refine wp_region_lit ?_
  refine sOp rfl (oCall rfl call12 (law08_awake) rfl ?_)
  rintro _ w17 ⟨gr_16, rfl, hE18, e_16⟩
  have hz19 := hE18.size
  obtain rfl : gr_16 = true := e_16
  refine sEv (v := (.bool false)) (evNot _ rfl rfl) rfl rfl ?_
  refine sEv (v := (.bool false)) (rfl) rfl rfl ?_
  refine sEv (v := (.slice Af nf cf)) (rfl) rfl rfl ?_
  have h20 := (hf.ext ((hE5.trans hE11).trans hE18))
  refine sOp rfl (oCall rfl call13 (cylinderlaw08_Few h20) rfl ?_)
  rintro _ w22 ⟨gr_21, rfl, hE23, e_21⟩
  have hz24 := hE23.size
  refine sEv (v := (.bool (!gr_21))) (evNot _ rfl rfl) rfl rfl ?_
  refine sEv (v := (.bool (!gr_21))) (rfl) rfl rfl ?_
  refine sEv (v := (.bool (!gr_21))) (rfl) rfl rfl ?_
  cases gr_21
  · refine sSkip rfl rfl ?_
    refine sSkip rfl rfl ?_
    refine sSkip rfl rfl ?_
    refine sSkip rfl rfl ?_
    refine sEv (v := (.bool true)) (rfl) rfl rfl ?_
    refine sEv (v := (.bool true)) (rfl) rfl rfl ?_
    refine sSkip rfl rfl ?_
    refine sSkip rfl rfl ?_
    refine sSkip rfl rfl ?_
    refine sSkip rfl rfl ?_
    refine sSkip rfl rfl ?_
    refine sSkip rfl rfl ?_
    refine sSkip rfl rfl ?_
    refine sSkip rfl rfl ?_
    refine sEv (v := (.bool true)) (rfl) rfl rfl ?_
    refine sDone ?_
    refine xN (hK15 _ _ ?_)
    refine cT rfl ?_
    refine wp_seq_k fun K25 hK25 => ?_
    refine wp_region_lit ?_
    refine sOp rfl (oCall rfl call12 (law08_awake) rfl ?_)
    rintro _ w27 ⟨gr_26, rfl, hE28, e_26⟩
    have hz29 := hE28.size
    obtain rfl : gr_26 = true := e_26
    refine sEv (v := (.bool true)) (rfl) rfl rfl ?_
    refine sDone ?_
    refine xN (hK25 _ _ ?_)
    refine wp_ret (xR ?_)
    refine ret1 (.bool true) Try.results10 (resT rfl) ?_
    exact ⟨(true), rfl, ((((hE5.trans hE11).trans hE18).trans hE23).trans hE28), rfl⟩
  · refine sEv (v := (.pointer (some ⟨g2, 1, none⟩))) (evFA 1 fa46_1 rfl rfl) rfl rfl ?_
    have hB30 := (hB7.ext ((hE11.trans hE18).trans hE23))
    refine sEv (v := (.slice Ac nc cc)) (evLoadB one44 rfl hB30 rfl) rfl rfl ?_
    refine sEv (v := (.int .i64 ((nc : Int)))) (evLen Try.underlying44 rfl) rfl rfl ?_
    by_cases hc31 : ((nc : Int)) > 2
    · refine sEv (v := (.bool true)) (evGtr true rfl rfl (dT hc31)) rfl rfl ?_
      refine sEv (v := (.bool true)) (rfl) rfl rfl ?_
      refine sEv (v := (.bool true)) (rfl) rfl rfl ?_
      refine sSkip rfl rfl ?_
      refine sSkip rfl rfl ?_
      refine sSkip rfl rfl ?_
      refine sSkip rfl rfl ?_
      refine sSkip rfl rfl ?_
      refine sSkip rfl rfl ?_
      refine sSkip rfl rfl ?_
      refine sSkip rfl rfl ?_
      refine sEv (v := (.bool true)) (rfl) rfl rfl ?_
      refine sDone ?_
      refine xN (hK15 _ _ ?_)
      refine cT rfl ?_
      refine wp_seq_k fun K32 hK32 => ?_
      refine wp_region_lit ?_
      refine sOp rfl (oCall rfl call12 (law08_awake) rfl ?_)
      rintro _ w34 ⟨gr_33, rfl, hE35, e_33⟩
      have hz36 := hE35.size
      obtain rfl : gr_33 = true := e_33
      refine sEv (v := (.bool true)) (rfl) rfl rfl ?_
      refine sDone ?_
      refine xN (hK32 _ _ ?_)
      refine wp_ret (xR ?_)
      refine ret1 (.bool true) Try.results10 (resT rfl) ?_
      exact ⟨(true), rfl, ((((hE5.trans hE11).trans hE18).trans hE23).trans hE35), rfl⟩
    · refine sEv (v := (.bool false)) (evGtr false rfl rfl (dF hc31)) rfl rfl ?_
      refine sEv (v := (.bool false)) (rfl) rfl rfl ?_
      refine sEv (v := (.bool false)) (rfl) rfl rfl ?_
      refine sEv (v := (.pointer (some ⟨g8, 0, none⟩))) (evFA 0 fa64_0 rfl rfl) rfl rfl ?_
      refine sEv (v := (.pointer (some ⟨g8, 1, none⟩))) (evFA 1 fa46_1 rfl rfl) rfl rfl ?_
      have hB37 := (hB13.ext (hE18.trans hE23))
      refine sEv (v := (.slice Aa na ca)) (evLoadB one44 rfl hB37 rfl) rfl rfl ?_
      refine sEv (v := (.pointer (some ⟨g8, 2, none⟩))) (evFA 2 fa64_1 rfl rfl) rfl rfl ?_
      refine sEv (v := (.slice Aav nav cav)) (evLoadB one44 rfl hB37 rfl) rfl rfl ?_
      refine sOp rfl (oBuildSlice [(.slice Aa na ca), (.slice Aav nav cav)] [[(.slice Aa na ca)], [(.slice Aav nav cav)]] Try.underlying102 inf43 rfl rfl rfl rfl rfl ?_)
      intro g38 w39 hg40 hE41 hz42 hB43
      replace hB43 : Blk w39 g38 43 [(.slice Aa na ca), (.slice Aav nav cav)] := hB43
      refine sOp rfl (oCall rfl call49 (ref01_Few hB43) rfl ?_)
      rintro _ w45 ⟨gr_44, rfl, hE46, e_44⟩
      have hz47 := hE46.size
      refine sEv (v := (.bool (!gr_44))) (evNot _ rfl rfl) rfl rfl ?_
      refine sEv (v := (.bool (!gr_44))) (rfl) rfl rfl ?_
      refine sDone ?_
      refine xN (hK15 _ _ ?_)
      cases gr_44
      · refine cT rfl ?_
        refine wp_seq_k fun K48 hK48 => ?_
        refine wp_region_lit ?_
        refine sOp rfl (oCall rfl call12 (law08_awake) rfl ?_)
        rintro _ w50 ⟨gr_49, rfl, hE51, e_49⟩
        have hz52 := hE51.size
        obtain rfl : gr_49 = true := e_49
        refine sEv (v := (.bool true)) (rfl) rfl rfl ?_
        refine sDone ?_
        refine xN (hK48 _ _ ?_)
        refine wp_ret (xR ?_)
        refine ret1 (.bool true) Try.results10 (resT rfl) ?_
        exact ⟨(true), rfl, ((((((hE5.trans hE11).trans hE18).trans hE23).trans hE41).trans hE46).trans hE51), rfl⟩
      · refine cF rfl ?_
        refine wp_skip ?_
        refine xN (hK14 _ _ ?_)
        refine wp_seq_k fun K53 hK53 => ?_
        refine wp_region_lit ?_
        refine sEv (v := (.slice Af nf cf)) (rfl) rfl rfl ?_
        have qf := e_21 rfl
        have qnf := qf.1
        have hf2 := hf.reM (M' := 2) (by intro r hr; have := qf.2 r hr; omega)
        have hfw := e_44 rfl
        have hB54 := (hB30.ext (hE41.trans hE46))
        refine sEv (v := (.agg #[(.bool gc), (.slice Ac nc cc)])) (evLoadAB [(.bool gc), (.slice Ac nc cc)] agg46 sz46 rfl hB54 rfl) rfl rfl ?_
        have h55 := (hf2.ext (((((hE5.trans hE11).trans hE18).trans hE23).trans hE41).trans hE46))
        have h56 := (hc.ext (((((hE5.trans hE11).trans hE18).trans hE23).trans hE41).trans hE46))
        refine sOp rfl (oCall rfl call27 (unipoly_Shift h55 h56 (by omega) (by omega) (by omega)) rfl ?_)
        rintro _ w58 ⟨Ar_57, nr_57, cr_57, lr_57, rfl, hE59, hr_57, e_57, ln_57, cn_57⟩
        have hz60 := hE59.size
        have kr_57 := hr_57.len; have jr_57 := hr_57.cap; have mr_57 := hr_57.max
        refine sEv (v := (.slice Ar_57 nr_57 cr_57)) (rfl) rfl rfl ?_
        refine sDone ?_
        refine xN (hK53 _ _ ?_)
        refine wp_seq_k fun K62 hK62 => ?_
        refine wp_seq_k fun K63 hK63 => ?_
        refine dBegin (fun _ => False) mixed ?_
        intro w64 hE65 hz66
        refine dEv 0 rfl (v := (.slice Ar_57 nr_57 cr_57)) (fun _ _ => rfl) rfl rfl (by kernel_rfl) ?_
        have hB67 := (hB54.ext (hE59.trans hE65))
        refine dEv 1 rfl (v := (.agg #[(.bool gc), (.slice Ac nc cc)])) (fun _ hf => evLoadAB [(.bool gc), (.slice Ac nc cc)] agg46 sz46 rfl (hB67.ext hf) rfl) rfl rfl (by kernel_rfl) ?_
        refine dEv 4 rfl (v := (.slice Af nf cf)) (fun _ _ => rfl) rfl rfl (by kernel_rfl) ?_
        have h68 := (h56.ext (hE59.trans hE65))
        refine dOp 2 rfl rfl (by kernel_rfl) (oCall rfl call57 (integer_Neg h68 (by omega)) rfl ?_)
        rintro _ w70 ⟨gr_69, Ar_69, nr_69, cr_69, dr_69, rfl, hE71, hr_69, v_69, cn_69, le_69⟩
        refine ⟨(Frm.of_ext hE71), ?_⟩
        have hz72 := hE71.size
        have lr_69 := hr_69.len; have kr_69 := hr_69.cap; have mr_69 := hr_69.max
        have h74 := (hr_57.ext (hE65.trans hE71))
        refine dOp 3 rfl rfl (by kernel_rfl) (oCall rfl call27 (unipoly_Shift h74 hr_69 (by omega) (by omega) (by omega)) rfl ?_)
        rintro _ w76 ⟨Ar_75, nr_75, cr_75, lr_75, rfl, hE77, hr_75, e_75, ln_75, cn_75⟩
        refine ⟨(Frm.of_ext hE77), ?_⟩
        have hz78 := hE77.size
        have kr_75 := hr_75.len; have jr_75 := hr_75.cap; have mr_75 := hr_75.max
        have h80 := (h55.ext (((hE59.trans hE65).trans hE71).trans hE77))
        refine dOp 5 rfl rfl (by kernel_rfl) (oCall rfl call23 (unipoly_Same hr_75 h80) rfl ?_)
        rintro _ w82 ⟨gr_81, rfl, hE83, e_81⟩
        refine ⟨(Frm.of_ext hE83), ?_⟩
        have hz84 := hE83.size
        obtain rfl : gr_81 = true := by rw [e_81, e_75, e_57]; exact decide_eq_true (shift_back v_69)
        refine dEv 6 rfl (v := (.bool false)) (fun _ _ => evNot _ rfl rfl) rfl rfl (by kernel_rfl) ?_
        refine dEv 7 rfl (v := (.bool false)) (fun _ _ => rfl) rfl rfl (by kernel_rfl) ?_
        refine dEv 8 rfl (v := (.slice Ar_57 nr_57 cr_57)) (fun _ _ => rfl) rfl rfl (by kernel_rfl) ?_
        have hB85 := (hB37.ext ((((((hE41.trans hE46).trans hE59).trans hE65).trans hE71).trans hE77).trans hE83))
        refine dEv 9 rfl (v := (.agg #[(.bool ga), (.slice Aa na ca), (.slice Aav nav cav)])) (fun _ hf => evLoadAB [(.bool ga), (.slice Aa na ca), (.slice Aav nav cav)] agg64 sz64 rfl (hB85.ext hf) rfl) rfl rfl (by kernel_rfl) ?_
        refine dEv 11 rfl (v := (.slice Af nf cf)) (fun _ _ => rfl) rfl rfl (by kernel_rfl) ?_
        refine dEv 12 rfl (v := (.agg #[(.bool ga), (.slice Aa na ca), (.slice Aav nav cav)])) (fun _ hf => evLoadAB [(.bool ga), (.slice Aa na ca), (.slice Aav nav cav)] agg64 sz64 rfl (hB85.ext hf) rfl) rfl rfl (by kernel_rfl) ?_
        have hB86 := (hB67.ext ((hE71.trans hE77).trans hE83))
        refine dEv 13 rfl (v := (.agg #[(.bool gc), (.slice Ac nc cc)])) (fun _ hf => evLoadAB [(.bool gc), (.slice Ac nc cc)] agg46 sz46 rfl (hB86.ext hf) rfl) rfl rfl (by kernel_rfl) ?_
        have h87 := (h74.ext (hE77.trans hE83))
        have h88 := (ha.ext ((((((((((hE5.trans hE11).trans hE18).trans hE23).trans hE41).trans hE46).trans hE59).trans hE65).trans hE71).trans hE77).trans hE83))
        have h89 := (hav.ext ((((((((((hE5.trans hE11).trans hE18).trans hE23).trans hE41).trans hE46).trans hE59).trans hE65).trans hE71).trans hE77).trans hE83))
        refine dOp 10 rfl rfl (by kernel_rfl) (oCall rfl call52 (unipoly_EvalRat h87 h88 h89 (by omega) (by omega) (by omega) (by omega)) rfl ?_)
        rintro _ w91 ⟨gr_90, Ar_90, nr_90, cr_90, dr_90, Arv_90, nrv_90, crv_90, drv_90, rfl, hE92, hr_90, hrv_90, e_90, p_90, bn_90, bd_90⟩
        refine ⟨(Frm.of_ext hE92), ?_⟩
        have hz93 := hE92.size
        have lr_90 := hr_90.len; have kr_90 := hr_90.cap; have mr_90 := hr_90.max
        have lrv_90 := hrv_90.len; have krv_90 := hrv_90.cap; have mrv_90 := hrv_90.max
        have h96 := (h68.ext (((hE71.trans hE77).trans hE83).trans hE92))
        refine dOp 14 rfl rfl (by kernel_rfl) (oCall rfl call59 (rational_From h96 (by omega)) rfl ?_)
        rintro _ w98 ⟨gr_97, Ar_97, nr_97, cr_97, dr_97, Arv_97, nrv_97, crv_97, drv_97, rfl, hE99, hr_97, hrv_97, v_97, q_97, cn_97, bn_97, bd_97⟩
        refine ⟨(Frm.of_ext hE99), ?_⟩
        have hz100 := hE99.size
        have lr_97 := hr_97.len; have kr_97 := hr_97.cap; have mr_97 := hr_97.max
        have lrv_97 := hrv_97.len; have krv_97 := hrv_97.cap; have mrv_97 := hrv_97.max
        have h103 := (h88.ext (hE92.trans hE99))
        have h104 := (h89.ext (hE92.trans hE99))
        refine dOp 15 rfl rfl (by kernel_rfl) (oCall rfl call61 (rational_Add h103 h104 hr_97 hrv_97 (by omega) (by omega) (by omega) (by omega)) rfl ?_)
        rintro _ w106 ⟨gr_105, Ar_105, nr_105, cr_105, dr_105, Arv_105, nrv_105, crv_105, drv_105, rfl, hE107, hr_105, hrv_105, x_105, p_105, cn_105, cv_105, co_105, bn_105, bd_105⟩
        refine ⟨(Frm.of_ext hE107), ?_⟩
        have hz108 := hE107.size
        have lr_105 := hr_105.len; have kr_105 := hr_105.cap; have mr_105 := hr_105.max
        have lrv_105 := hrv_105.len; have krv_105 := hrv_105.cap; have mrv_105 := hrv_105.max
        have h111 := (h80.ext (((hE83.trans hE92).trans hE99).trans hE107))
        refine dOp 16 rfl rfl (by kernel_rfl) (oCall rfl call52 (unipoly_EvalRat h111 hr_105 hrv_105 (by omega) (by omega) (by omega) (by omega)) rfl ?_)
        rintro _ w113 ⟨gr_112, Ar_112, nr_112, cr_112, dr_112, Arv_112, nrv_112, crv_112, drv_112, rfl, hE114, hr_112, hrv_112, e_112, p_112, bn_112, bd_112⟩
        refine ⟨(Frm.of_ext hE114), ?_⟩
        have hz115 := hE114.size
        have lr_112 := hr_112.len; have kr_112 := hr_112.cap; have mr_112 := hr_112.max
        have lrv_112 := hrv_112.len; have krv_112 := hrv_112.cap; have mrv_112 := hrv_112.max
        have h118 := (hr_90.ext ((hE99.trans hE107).trans hE114))
        have h119 := (hrv_90.ext ((hE99.trans hE107).trans hE114))
        refine dOp 17 rfl rfl (by kernel_rfl) (oCall rfl call60 (rational_Cmp h118 h119 hr_112 hrv_112 (by omega) (by omega) (by omega) (by omega)) rfl ?_)
        rintro _ w121 ⟨xr_120, rfl, hE122, e_120⟩
        refine ⟨(Frm.of_ext hE122), ?_⟩
        have hz123 := hE122.size
        refine dEv 18 rfl (v := (.bool false)) (fun _ _ => evNeq false rfl rfl (dF (by rw [e_120]; intro hh; exact hh (cmpZ_eq_zero.2 (rv_cross (by rw [e_90, e_112, e_57, evQ_trim, evQ_phorn, evQ_lin, rv_add x_105 p_105, rv_one q_97, v_97]; congr 1; grind)))))) rfl rfl (by kernel_rfl) ?_
        refine dEv 19 rfl (v := (.bool false)) (fun _ _ => rfl) rfl rfl (by kernel_rfl) ?_
        refine dDone (by kernel_rfl) ?_
        refine xN (hK63 _ _ ?_)
        refine cF rfl ?_
        refine wp_skip ?_
        refine xN (hK62 _ _ ?_)
        refine wp_seq_k fun K124 hK124 => ?_
        refine wp_region_lit ?_
        refine sEv (v := (.slice Af nf cf)) (rfl) rfl rfl ?_
        refine sEv (v := (.int .i64 ((nf : Int)))) (evLen Try.underlying23 rfl) rfl rfl ?_
        by_cases hc125 : ((nf : Int)) = 0
        · refine sEv (v := (.bool true)) (evEql true rfl rfl (dT hc125)) rfl rfl ?_
          refine sEv (v := (.bool true)) (rfl) rfl rfl ?_
          refine sSkip rfl rfl ?_
          refine sSkip rfl rfl ?_
          refine sSkip rfl rfl ?_
          refine sSkip rfl rfl ?_
          refine sSkip rfl rfl ?_
          refine sEv (v := (.bool true)) (rfl) rfl rfl ?_
          refine sEv (v := (.bool true)) (rfl) rfl rfl ?_
          refine sSkip rfl rfl ?_
          refine sSkip rfl rfl ?_
          refine sSkip rfl rfl ?_
          refine sSkip rfl rfl ?_
          refine sSkip rfl rfl ?_
          refine sEv (v := (.bool true)) (rfl) rfl rfl ?_
          refine sEv (v := (.bool true)) (rfl) rfl rfl ?_
          refine sDone ?_
          refine xN (hK124 _ _ ?_)
          refine wp_ret ?_
          refine ret1 (.bool true) Try.results10 (resT rfl) ?_
          exact ⟨(true), rfl, (((((((((((((((hE5.trans hE11).trans hE18).trans hE23).trans hE41).trans hE46).trans hE59).trans hE65).trans hE71).trans hE77).trans hE83).trans hE92).trans hE99).trans hE107).trans hE114).trans hE122), rfl⟩
        · refine sEv (v := (.bool false)) (evEql false rfl rfl (dF hc125)) rfl rfl ?_
          refine sEv (v := (.bool false)) (rfl) rfl rfl ?_
          refine sEv (v := (.slice Af nf cf)) (rfl) rfl rfl ?_
          have h126 := (h111.ext (hE114.trans hE122))
          obtain ⟨b127, o128, rfl⟩ := h126.base (by omega)
          refine sEv (v := (.pointer (some ⟨b127, o128 + (0 * 2), none⟩))) (evIndex 0 Try.underlying23 sz46 rfl rfl (by omega) (by omega) (o128 + (0 * 2)) (by omega)) rfl rfl ?_
          obtain ⟨g_129, A_129, n_129, c_129, d_129, he_129, hp_129, hq_129, h_129, hM_129, hS_129, hb_129, z_129⟩ := h126.at_ (i := 0) (by omega)
          have l_129 := h_129.len; have k_129 := h_129.cap; have m_129 := h_129.max
          refine sEv (v := (.agg #[(.bool g_129), (.slice A_129 n_129 c_129)])) (evLoadA [(.bool g_129), (.slice A_129 n_129 c_129)] agg46 sz46 rfl (cell2 hp_129 hq_129)) rfl rfl ?_
          refine sOp rfl (oCall rfl call62 (integer_Sign h_129) rfl ?_)
          rintro _ w132 ⟨xr_131, rfl, hE133, e_131⟩
          have hz134 := hE133.size
          by_cases hc135 : xr_131 = 0
          · refine sEv (v := (.bool true)) (evEql true rfl rfl (dT hc135)) rfl rfl ?_
            refine sEv (v := (.bool true)) (rfl) rfl rfl ?_
            refine sEv (v := (.bool true)) (rfl) rfl rfl ?_
            refine sSkip rfl rfl ?_
            refine sSkip rfl rfl ?_
            refine sSkip rfl rfl ?_
            refine sSkip rfl rfl ?_
            refine sSkip rfl rfl ?_
            refine sEv (v := (.bool true)) (rfl) rfl rfl ?_
            refine sEv (v := (.bool true)) (rfl) rfl rfl ?_
            refine sDone ?_
            refine xN (hK124 _ _ ?_)
            refine wp_ret ?_
            refine ret1 (.bool true) Try.results10 (resT rfl) ?_
            exact ⟨(true), rfl, ((((((((((((((((hE5.trans hE11).trans hE18).trans hE23).trans hE41).trans hE46).trans hE59).trans hE65).trans hE71).trans hE77).trans hE83).trans hE92).trans hE99).trans hE107).trans hE114).trans hE122).trans hE133), rfl⟩
          · refine sEv (v := (.bool false)) (evEql false rfl rfl (dF hc135)) rfl rfl ?_
            refine sEv (v := (.bool false)) (rfl) rfl rfl ?_
            refine sEv (v := (.bool false)) (rfl) rfl rfl ?_
            refine sEv (v := (.slice (some ⟨b127, o128, none⟩) nf cf)) (rfl) rfl rfl ?_
            have h136 := (h126.ext hE133)
            refine sOp rfl (oCall rfl call31 (unipoly_Reverse h136 (by omega) (by omega)) rfl ?_)
            rintro _ w138 ⟨Ar_137, nr_137, cr_137, lr_137, rfl, hE139, hr_137, e_137, ln_137, cn_137⟩
            have hz140 := hE139.size
            have kr_137 := hr_137.len; have jr_137 := hr_137.cap; have mr_137 := hr_137.max
            refine sOp rfl (oCall rfl call31 (unipoly_Reverse hr_137 (by omega) (by omega)) rfl ?_)
            rintro _ w143 ⟨Ar_142, nr_142, cr_142, lr_142, rfl, hE144, hr_142, e_142, ln_142, cn_142⟩
            have hz145 := hE144.size
            have kr_142 := hr_142.len; have jr_142 := hr_142.cap; have mr_142 := hr_142.max
            refine sEv (v := (.slice (some ⟨b127, o128, none⟩) nf cf)) (rfl) rfl rfl ?_
            have h147 := (h136.ext (hE139.trans hE144))
            refine sOp rfl (oCall rfl call23 (unipoly_Same hr_142 h147) rfl ?_)
            rintro _ w149 ⟨gr_148, rfl, hE150, e_148⟩
            have hz151 := hE150.size
            obtain rfl : gr_148 = true := by rw [e_148, e_142, e_137]; exact decide_eq_true (rev_back (by intro hh; exact hc135 ((sign_zero_iff e_131 z_129).2 hh)))
            refine sEv (v := (.bool true)) (rfl) rfl rfl ?_
            refine sEv (v := (.bool true)) (rfl) rfl rfl ?_
            refine sDone ?_
            refine xN (hK124 _ _ ?_)
            refine wp_ret ?_
            refine ret1 (.bool true) Try.results10 (resT rfl) ?_
            exact ⟨(true), rfl, (((((((((((((((((((hE5.trans hE11).trans hE18).trans hE23).trans hE41).trans hE46).trans hE59).trans hE65).trans hE71).trans hE77).trans hE83).trans hE92).trans hE99).trans hE107).trans hE114).trans hE122).trans hE133).trans hE139).trans hE144).trans hE150), rfl⟩

end Go.Proofs.Ytppegjbdencefaa
