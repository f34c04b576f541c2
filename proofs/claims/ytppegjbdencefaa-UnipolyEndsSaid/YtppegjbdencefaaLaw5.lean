/-
  Walks: SignEnd; the law UnipolyEnds.
-/
import Derived.Test.YtppegjbdencefaaLaw1
import Derived.Test.YtppegjbdencefaaUni7
import Derived.Test.YtppegjbdencefaaUni6
import Derived.Test.YtppegjbdencefaaEndMath
namespace Go.Proofs.Ytppegjbdencefaa
open Go.RowKit Go.Gx
theorem unipoly_SignEnd {w : World} {Sf : Nat → Prop} {Af : Option Addr} {nf cf Mf : Nat} {lf : List RI} {gm : Bool} (hf : PolyR w Sf Af nf cf lf Mf) (hnf : nf ≤ 1048576) (hMf : Mf ≤ 1073741824) : Calls Try.prog 58 #[(.slice Af nf cf), (.bool gm)] w (Ret fun v w' => ∃ (xr : Int), v = (.int .i64 (xr)) ∧ Ext w w' ∧ (xr = sendP (trimZ (zs lf)) gm)) := by
  have kf := hf.len; have jf := hf.cap; have mf := hf.max
  replace hf := hf.low
  refine enter Try.func58 rfl Try.ntmps58 rfl ?_
  refine wp_seq_k fun K1 hK1 => ?_
  refine wp_region_lit ?_
  refine sEv (v := (.int .i64 (0))) (rfl) rfl rfl ?_
  refine sDone ?_
  refine xN (hK1 _ _ ?_)
  refine wp_seq_k fun K2 hK2 => ?_
  refine wp_region_lit ?_
  refine sEv (v := (.slice Af nf cf)) (rfl) rfl rfl ?_
  refine sOp rfl (oCall rfl call36 (unipoly_Lead hf (by omega) (by omega)) rfl ?_)
  rintro _ w4 ⟨gr_3, Ar_3, nr_3, cr_3, dr_3, rfl, hE5, hr_3, v_3, cn_3, le_3⟩
  have hz6 := hE5.size
  have lr_3 := hr_3.len; have kr_3 := hr_3.cap; have mr_3 := hr_3.max
  refine sOp rfl (oCall rfl call62 (integer_Sign hr_3) rfl ?_)
  rintro _ w9 ⟨xr_8, rfl, hE10, e_8⟩
  have hz11 := hE10.size
  have hsg := sign_cases (zval gr_3 dr_3)
  refine sEv (v := (.int .i64 (xr_8))) (rfl) rfl rfl ?_
  refine sDone ?_
  refine xN (hK2 _ _ ?_)
  refine wp_seq_k fun K12 hK12 => ?_
  refine wp_seq_k fun K13 hK13 => ?_
  refine wp_region_lit ?_
  refine sEv (v := (.bool gm)) (rfl) rfl rfl ?_
  refine sEv (v := (.bool gm)) (rfl) rfl rfl ?_
  cases gm
  · refine sSkip rfl rfl ?_
    refine sSkip rfl rfl ?_
    refine sSkip rfl rfl ?_
    refine sSkip rfl rfl ?_
    refine sEv (v := (.bool false)) (rfl) rfl rfl ?_
    refine sDone ?_
    refine xN (hK13 _ _ ?_)
    refine cF rfl ?_
    refine wp_skip ?_
    refine xN (hK12 _ _ ?_)
    refine wp_seq_k fun K14 hK14 => ?_
    refine wp_region_lit ?_
    refine sEv (v := (.int .i64 (xr_8))) (rfl) rfl rfl ?_
    refine sEv (v := (.int .i64 (xr_8))) (rfl) rfl rfl ?_
    refine sDone ?_
    refine xN (hK14 _ _ ?_)
    refine wp_ret ?_
    refine ret1 (.int .i64 (xr_8)) Try.results58 (resT rfl) ?_
    exact ⟨(xr_8), rfl, (hE5.trans hE10), (by rw [e_8, v_3]; unfold sendP; rw [if_neg (by simp)])⟩
  · refine sEv (v := (.slice Af nf cf)) (rfl) rfl rfl ?_
    have h15 := (hf.ext (hE5.trans hE10))
    refine sOp rfl (oCall rfl call42 (unipoly_Degree h15 (by omega) (by omega)) rfl ?_)
    rintro _ w17 ⟨xr_16, rfl, hE18, e_16⟩
    have hz19 := hE18.size
    refine sEv (v := (.int .i64 ((((trimZ (zs lf)).length : Int) - 1).tmod 2))) (evRem ((((trimZ (zs lf)).length : Int) - 1).tmod 2) rfl rfl (by omega) (by rw [e_16])) rfl rfl ?_
    by_cases hc20 : ((((trimZ (zs lf)).length : Int) - 1).tmod 2) ≠ 0
    · refine sEv (v := (.bool true)) (evNeq true rfl rfl (dT hc20)) rfl rfl ?_
      refine sEv (v := (.bool true)) (rfl) rfl rfl ?_
      refine sDone ?_
      refine xN (hK13 _ _ ?_)
      refine cT rfl ?_
      refine wp_seq_k fun K21 hK21 => ?_
      refine wp_region_lit ?_
      refine sEv (v := (.int .i64 (xr_8))) (rfl) rfl rfl ?_
      refine sEv (v := (.int .i64 (-(xr_8)))) (evNeg _ rfl (wI64 (by omega))) rfl rfl ?_
      refine sEv (v := (.int .i64 (-(xr_8)))) (rfl) rfl rfl ?_
      refine sDone ?_
      refine xN (hK21 _ _ ?_)
      refine wp_ret (xR ?_)
      refine ret1 (.int .i64 (-(xr_8))) Try.results58 (resT rfl) ?_
      exact ⟨(-(xr_8)), rfl, ((hE5.trans hE10).trans hE18), (by rw [e_8, v_3]; unfold sendP; rw [if_pos ⟨rfl, hc20⟩])⟩
    · refine sEv (v := (.bool false)) (evNeq false rfl rfl (dF hc20)) rfl rfl ?_
      refine sEv (v := (.bool false)) (rfl) rfl rfl ?_
      refine sDone ?_
      refine xN (hK13 _ _ ?_)
      refine cF rfl ?_
      refine wp_skip ?_
      refine xN (hK12 _ _ ?_)
      refine wp_seq_k fun K22 hK22 => ?_
      refine wp_region_lit ?_
      refine sEv (v := (.int .i64 (xr_8))) (rfl) rfl rfl ?_
      refine sEv (v := (.int .i64 (xr_8))) (rfl) rfl rfl ?_
      refine sDone ?_
      refine xN (hK22 _ _ ?_)
      refine wp_ret ?_
      refine ret1 (.int .i64 (xr_8)) Try.results58 (resT rfl) ?_
      exact ⟨(xr_8), rfl, ((hE5.trans hE10).trans hE18), (by rw [e_8, v_3]; unfold sendP; rw [if_neg (fun h => hc20 h.2)])⟩

theorem law08_ends {w : World} {Sf : Nat → Prop} {Af : Option Addr} {nf cf Mf : Nat} {lf : List RI} {gm : Bool} {xu : Nat} (hf : PolyR w Sf Af nf cf lf Mf) (bu : xu < 65536)  : Calls Try.prog 9 #[(.slice Af nf cf), (.bool gm), (.int .u16 ((xu : Int)))] w (Ret fun v w' => ∃ (gr : Bool), v = (.bool gr) ∧ Ext w w' ∧ (gr = true)) := by
  have kf := hf.len; have jf := hf.cap; have mf := hf.max
  replace hf := hf.low
  refine enter Try.func9 rfl Try.ntmps9 rfl ?_
  refine wp_seq_k fun K1 hK1 => ?_
  refine wp_region_lit ?_
  refine sEv (v := (.bool false)) (rfl) rfl rfl ?_
  refine sDone ?_
  refine xN (hK1 _ _ ?_)
  refine wp_seq_k fun K2 hK2 => ?_
  refine wp_seq_k fun K3 hK3 => ?_
  refine wp_region_lit ?_
  refine sOp rfl (oCall rfl call12 (law08_awake) rfl ?_)
  rintro _ w5 ⟨gr_4, rfl, hE6, e_4⟩
  have hz7 := hE6.size
  obtain rfl : gr_4 = true := e_4
  refine sEv (v := (.bool false)) (evNot _ rfl rfl) rfl rfl ?_
  refine sEv (v := (.bool false)) (rfl) rfl rfl ?_
  refine sEv (v := (.slice Af nf cf)) (rfl) rfl rfl ?_
  have h8 := (hf.ext hE6)
  refine sOp rfl (oCall rfl call13 (cylinderlaw08_Few h8) rfl ?_)
  rintro _ w10 ⟨gr_9, rfl, hE11, e_9⟩
  have hz12 := hE11.size
  refine sEv (v := (.bool (!gr_9))) (evNot _ rfl rfl) rfl rfl ?_
  refine sEv (v := (.bool (!gr_9))) (rfl) rfl rfl ?_
  refine sDone ?_
  refine xN (hK3 _ _ ?_)
  cases gr_9
  · refine cT rfl ?_
    refine wp_seq_k fun K13 hK13 => ?_
    refine wp_region_lit ?_
    refine sOp rfl (oCall rfl call12 (law08_awake) rfl ?_)
    rintro _ w15 ⟨gr_14, rfl, hE16, e_14⟩
    have hz17 := hE16.size
    obtain rfl : gr_14 = true := e_14
    refine sEv (v := (.bool true)) (rfl) rfl rfl ?_
    refine sDone ?_
    refine xN (hK13 _ _ ?_)
    refine wp_ret (xR ?_)
    refine ret1 (.bool true) Try.results9 (resT rfl) ?_
    exact ⟨(true), rfl, ((hE6.trans hE11).trans hE16), rfl⟩
  · refine cF rfl ?_
    refine wp_skip ?_
    refine xN (hK2 _ _ ?_)
    refine wp_seq_k fun K18 hK18 => ?_
    refine wp_region_lit ?_
    refine sEv (v := (.slice Af nf cf)) (rfl) rfl rfl ?_
    have qf := e_9 rfl
    have qnf := qf.1
    have hf2 := hf.reM (M' := 3) (by intro r hr; have := qf.2 r hr; omega)
    have h19 := (hf2.ext (hE6.trans hE11))
    refine sOp rfl (oCall rfl call35 (unipoly_Height h19 (by omega) (by omega)) rfl ?_)
    rintro _ w21 ⟨gr_20, Ar_20, nr_20, cr_20, dr_20, rfl, hE22, hr_20, v_20, cn_20, le_20⟩
    have hz23 := hE22.size
    have lr_20 := hr_20.len; have kr_20 := hr_20.cap; have mr_20 := hr_20.max
    refine sEv (v := (.int .u16 ((xu : Int)))) (rfl) rfl rfl ?_
    refine sEv (v := (.int .i64 ((xu : Int)))) (evConv _ Try.underlying75 Try.underlying2 rfl (wI64 (by omega))) rfl rfl ?_
    refine sEv (v := (.int .i64 (2 + ((xu : Int))))) (evAdd (2 + ((xu : Int))) rfl rfl (wI64 (by omega))) rfl rfl ?_
    refine sOp rfl (oCall rfl call48 (integer_Of (by omega)) rfl ?_)
    rintro _ w26 ⟨gr_25, Ar_25, nr_25, cr_25, dr_25, rfl, hE27, hr_25, v_25, cn_25, le_25⟩
    have hz28 := hE27.size
    have lr_25 := hr_25.len; have kr_25 := hr_25.cap; have mr_25 := hr_25.max
    have h30 := (hr_20.ext hE27)
    refine sOp rfl (oCall rfl call56 (integer_Add h30 hr_25 (by omega) (by omega)) rfl ?_)
    rintro _ w32 ⟨gr_31, Ar_31, nr_31, cr_31, dr_31, rfl, hE33, hr_31, v_31, cn_31, le_31⟩
    have hz34 := hE33.size
    have lr_31 := hr_31.len; have kr_31 := hr_31.cap; have mr_31 := hr_31.max
    refine sOp rfl (oAlloc [(.bool false), (.slice none 0 0)] zero46 rfl ?_)
    intro g36 w37 hg38 hE39 hz40 hB41
    refine sOp rfl (oStore [(.bool gr_31), (.slice Ar_31 nr_31 cr_31)] rfl rfl rfl sz46 rfl hB41 (Nat.le_of_ble_eq_true rfl) ?_)
    intro w42 hU43 hz44 hB45
    replace hB45 : Blk w42 g36 46 [(.bool gr_31), (.slice Ar_31 nr_31 cr_31)] := hB45
    refine sDone ?_
    refine xN (hK18 _ _ ?_)
    refine wp_seq_k fun K46 hK46 => ?_
    refine wp_seq_k fun K47 hK47 => ?_
    refine wp_region_lit ?_
    refine sEv (v := (.bool gm)) (rfl) rfl rfl ?_
    refine sDone ?_
    refine xN (hK47 _ _ ?_)
    refine cB gm rfl ?_ ?_
    · intro hc48
      subst hc48
      refine wp_region_lit ?_
      refine sEv (v := (.agg #[(.bool gr_31), (.slice Ar_31 nr_31 cr_31)])) (evLoadAB [(.bool gr_31), (.slice Ar_31 nr_31 cr_31)] agg46 sz46 rfl hB45 rfl) rfl rfl ?_
      have h49 := (hr_31.frmB ((Frm.of_ext (G := fun b => (b = g36)) hE39).trans hU43) q3)
      refine sOp rfl (oCall rfl call57 (integer_Neg h49 (by omega)) rfl ?_)
      rintro _ w51 ⟨gr_50, Ar_50, nr_50, cr_50, dr_50, rfl, hE52, hr_50, v_50, cn_50, le_50⟩
      have hz53 := hE52.size
      have lr_50 := hr_50.len; have kr_50 := hr_50.cap; have mr_50 := hr_50.max
      have hB55 := (hB45.ext hE52)
      refine sOp rfl (oStore [(.bool gr_50), (.slice Ar_50 nr_50 cr_50)] rfl rfl rfl sz46 rfl hB55 (Nat.le_of_ble_eq_true rfl) ?_)
      intro w56 hU57 hz58 hB59
      replace hB59 : Blk w56 g36 46 [(.bool gr_50), (.slice Ar_50 nr_50 cr_50)] := hB59
      refine sDone ?_
      refine xN (hK46 _ _ ?_)
      refine wp_seq_k fun K60 hK60 => ?_
      refine dBegin (fun _ => False) mixed ?_
      intro w61 hE62 hz63
      refine dEv 0 rfl (v := (.slice Af nf cf)) (fun _ _ => rfl) rfl rfl (by kernel_rfl) ?_
      refine dEv 1 rfl (v := (.bool true)) (fun _ _ => rfl) rfl rfl (by kernel_rfl) ?_
      refine dEv 3 rfl (v := (.slice Af nf cf)) (fun _ _ => rfl) rfl rfl (by kernel_rfl) ?_
      have hB64 := (hB59.ext hE62)
      refine dEv 4 rfl (v := (.agg #[(.bool gr_50), (.slice Ar_50 nr_50 cr_50)])) (fun _ hf => evLoadAB [(.bool gr_50), (.slice Ar_50 nr_50 cr_50)] agg46 sz46 rfl (hB64.ext hf) rfl) rfl rfl (by kernel_rfl) ?_
      have h65 := (h19.frmB ((((((((Frm.of_ext (G := fun b => (b = g36)) hE22).trans (Frm.of_ext (G := fun b => (b = g36)) hE27)).trans (Frm.of_ext (G := fun b => (b = g36)) hE33)).trans (Frm.of_ext (G := fun b => (b = g36)) hE39)).trans hU43).trans (Frm.of_ext (G := fun b => (b = g36)) hE52)).trans hU57).trans (Frm.of_ext (G := fun b => (b = g36)) hE62)) q3)
      refine dOp 2 rfl rfl (by kernel_rfl) (oCall rfl call58 (unipoly_SignEnd h65 (by omega) (by omega)) rfl ?_)
      rintro _ w67 ⟨xr_66, rfl, hE68, e_66⟩
      refine ⟨(Frm.of_ext hE68), ?_⟩
      have hz69 := hE68.size
      have h70 := (hr_50.frmB ((hU57.trans (Frm.of_ext (G := fun b => (b = g36)) hE62)).trans (Frm.of_ext (G := fun b => (b = g36)) hE68)) q3)
      refine dOp 5 rfl rfl (by kernel_rfl) (oCall rfl call59 (rational_From h70 (by omega)) rfl ?_)
      rintro _ w72 ⟨gr_71, Ar_71, nr_71, cr_71, dr_71, Arv_71, nrv_71, crv_71, drv_71, rfl, hE73, hr_71, hrv_71, v_71, q_71, cn_71, bn_71, bd_71⟩
      refine ⟨(Frm.of_ext hE73), ?_⟩
      have hz74 := hE73.size
      have lr_71 := hr_71.len; have kr_71 := hr_71.cap; have mr_71 := hr_71.max
      have lrv_71 := hrv_71.len; have krv_71 := hrv_71.cap; have mrv_71 := hrv_71.max
      have h77 := (h65.ext (hE68.trans hE73))
      refine dOp 6 rfl rfl (by kernel_rfl) (oCall rfl call55 (unipoly_SignAt h77 hr_71 hrv_71 (by omega) (by omega) (by omega) (by omega)) rfl ?_)
      rintro _ w79 ⟨xr_78, zv_78, zp_78, rfl, hE80, e_78, v_78, po_78⟩
      refine ⟨(Frm.of_ext hE80), ?_⟩
      have hz81 := hE80.size
      refine dEv 7 rfl (v := (.bool true)) (fun _ _ => evEql true rfl rfl (dT (by rw [e_78]; exact ends_law (H := hgt (zs lf)) (x := zval gr_71 dr_71) rfl (.inr ⟨rfl, by rw [v_71, v_50, v_31, v_20, v_25]; omega⟩) (rv_one q_71) v_78 po_78 e_66))) rfl rfl (by kernel_rfl) ?_
      refine dEv 8 rfl (v := (.bool true)) (fun _ _ => rfl) rfl rfl (by kernel_rfl) ?_
      refine dDone (by kernel_rfl) ?_
      refine xN (hK60 _ _ ?_)
      refine wp_ret ?_
      refine ret1 (.bool true) Try.results9 (resT rfl) ?_
      exact ⟨(true), rfl, (Frm.mono (((((((((((((Frm.of_ext (G := fun b => (b = g36)) hE6).trans (Frm.of_ext (G := fun b => (b = g36)) hE11)).trans (Frm.of_ext (G := fun b => (b = g36)) hE22)).trans (Frm.of_ext (G := fun b => (b = g36)) hE27)).trans (Frm.of_ext (G := fun b => (b = g36)) hE33)).trans (Frm.of_ext (G := fun b => (b = g36)) hE39)).trans hU43).trans (Frm.of_ext (G := fun b => (b = g36)) hE52)).trans hU57).trans (Frm.of_ext (G := fun b => (b = g36)) hE62)).trans (Frm.of_ext (G := fun b => (b = g36)) hE68)).trans (Frm.of_ext (G := fun b => (b = g36)) hE73)).trans (Frm.of_ext (G := fun b => (b = g36)) hE80)) q4), rfl⟩
    · intro hc48
      subst hc48
      refine wp_skip ?_
      refine xN (hK46 _ _ ?_)
      refine wp_seq_k fun K82 hK82 => ?_
      refine dBegin (fun _ => False) mixed ?_
      intro w83 hE84 hz85
      refine dEv 0 rfl (v := (.slice Af nf cf)) (fun _ _ => rfl) rfl rfl (by kernel_rfl) ?_
      refine dEv 1 rfl (v := (.bool false)) (fun _ _ => rfl) rfl rfl (by kernel_rfl) ?_
      refine dEv 3 rfl (v := (.slice Af nf cf)) (fun _ _ => rfl) rfl rfl (by kernel_rfl) ?_
      have hB86 := (hB45.ext hE84)
      refine dEv 4 rfl (v := (.agg #[(.bool gr_31), (.slice Ar_31 nr_31 cr_31)])) (fun _ hf => evLoadAB [(.bool gr_31), (.slice Ar_31 nr_31 cr_31)] agg46 sz46 rfl (hB86.ext hf) rfl) rfl rfl (by kernel_rfl) ?_
      have h87 := (h19.frmB ((((((Frm.of_ext (G := fun b => (b = g36)) hE22).trans (Frm.of_ext (G := fun b => (b = g36)) hE27)).trans (Frm.of_ext (G := fun b => (b = g36)) hE33)).trans (Frm.of_ext (G := fun b => (b = g36)) hE39)).trans hU43).trans (Frm.of_ext (G := fun b => (b = g36)) hE84)) q3)
      refine dOp 2 rfl rfl (by kernel_rfl) (oCall rfl call58 (unipoly_SignEnd h87 (by omega) (by omega)) rfl ?_)
      rintro _ w89 ⟨xr_88, rfl, hE90, e_88⟩
      refine ⟨(Frm.of_ext hE90), ?_⟩
      have hz91 := hE90.size
      have h92 := (hr_31.frmB ((((Frm.of_ext (G := fun b => (b = g36)) hE39).trans hU43).trans (Frm.of_ext (G := fun b => (b = g36)) hE84)).trans (Frm.of_ext (G := fun b => (b = g36)) hE90)) q3)
      refine dOp 5 rfl rfl (by kernel_rfl) (oCall rfl call59 (rational_From h92 (by omega)) rfl ?_)
      rintro _ w94 ⟨gr_93, Ar_93, nr_93, cr_93, dr_93, Arv_93, nrv_93, crv_93, drv_93, rfl, hE95, hr_93, hrv_93, v_93, q_93, cn_93, bn_93, bd_93⟩
      refine ⟨(Frm.of_ext hE95), ?_⟩
      have hz96 := hE95.size
      have lr_93 := hr_93.len; have kr_93 := hr_93.cap; have mr_93 := hr_93.max
      have lrv_93 := hrv_93.len; have krv_93 := hrv_93.cap; have mrv_93 := hrv_93.max
      have h99 := (h87.ext (hE90.trans hE95))
      refine dOp 6 rfl rfl (by kernel_rfl) (oCall rfl call55 (unipoly_SignAt h99 hr_93 hrv_93 (by omega) (by omega) (by omega) (by omega)) rfl ?_)
      rintro _ w101 ⟨xr_100, zv_100, zp_100, rfl, hE102, e_100, v_100, po_100⟩
      refine ⟨(Frm.of_ext hE102), ?_⟩
      have hz103 := hE102.size
      refine dEv 7 rfl (v := (.bool true)) (fun _ _ => evEql true rfl rfl (dT (by rw [e_100]; exact ends_law (H := hgt (zs lf)) (x := zval gr_93 dr_93) rfl (.inl ⟨rfl, by rw [v_93, v_31, v_20, v_25]; omega⟩) (rv_one q_93) v_100 po_100 e_88))) rfl rfl (by kernel_rfl) ?_
      refine dEv 8 rfl (v := (.bool true)) (fun _ _ => rfl) rfl rfl (by kernel_rfl) ?_
      refine dDone (by kernel_rfl) ?_
      refine xN (hK82 _ _ ?_)
      refine wp_ret ?_
      refine ret1 (.bool true) Try.results9 (resT rfl) ?_
      exact ⟨(true), rfl, (Frm.mono (((((((((((Frm.of_ext (G := fun b => (b = g36)) hE6).trans (Frm.of_ext (G := fun b => (b = g36)) hE11)).trans (Frm.of_ext (G := fun b => (b = g36)) hE22)).trans (Frm.of_ext (G := fun b => (b = g36)) hE27)).trans (Frm.of_ext (G := fun b => (b = g36)) hE33)).trans (Frm.of_ext (G := fun b => (b = g36)) hE39)).trans hU43).trans (Frm.of_ext (G := fun b => (b = g36)) hE84)).trans (Frm.of_ext (G := fun b => (b = g36)) hE90)).trans (Frm.of_ext (G := fun b => (b = g36)) hE95)).trans (Frm.of_ext (G := fun b => (b = g36)) hE102)) q4), rfl⟩

end Go.Proofs.Ytppegjbdencefaa
