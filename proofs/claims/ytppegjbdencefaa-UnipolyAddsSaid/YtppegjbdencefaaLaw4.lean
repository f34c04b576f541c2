/-
  Walk of the law UnipolyAdds.
-/
import Derived.Test.YtppegjbdencefaaLaw2
import Derived.Test.YtppegjbdencefaaUni6
import Derived.Test.YtppegjbdencefaaRef5
namespace Go.Proofs.Ytppegjbdencefaa
open Go.RowKit Go.Gx
set_option maxHeartbeats 2000000 in
theorem law08_adds {w : World} {Sf : Nat → Prop} {Af : Option Addr} {nf cf Mf : Nat} {lf : List RI} {Sg : Nat → Prop} {Ag : Option Addr} {ng cg Mg : Nat} {lg : List RI} {gc : Bool} {Sc : Nat → Prop} {Ac : Option Addr} {nc cc : Nat} {dc : List Nat} (hf : PolyR w Sf Af nf cf lf Mf) (hg : PolyR w Sg Ag ng cg lg Mg) (hc : NatR w Sc Ac nc cc dc)  : Calls Try.prog 6 #[(.slice Af nf cf), (.slice Ag ng cg), (.agg #[(.bool gc), (.slice Ac nc cc)])] w (Ret fun v w' => ∃ (gr : Bool), v = (.bool gr) ∧ Ext w w' ∧ (gr = true)) := by
  have kf := hf.len; have jf := hf.cap; have mf := hf.max
  replace hf := hf.low
  have kg := hg.len; have jg := hg.cap; have mg := hg.max
  replace hg := hg.low
  have lc := hc.len; have kc := hc.cap; have mc := hc.max
  replace hc := hc.low
  refine enter Try.func6 rfl Try.ntmps6 rfl ?_
  refine wp_seq_k fun K1 hK1 => ?_
  refine wp_region_lit ?_
  refine sOp rfl (oBox [(.bool gc), (.slice Ac nc cc)] rfl rfl ?_)
  intro g2 w3 hg4 hE5 hz6 hB7
  refine sEv (v := (.bool false)) (rfl) rfl rfl ?_
  refine sDone ?_
  refine xN (hK1 _ _ ?_)
  refine wp_seq_k fun K8 hK8 => ?_
  refine wp_seq_k fun K9 hK9 => ?_
  refine wp_region_lit ?_
  refine sOp rfl (oCall rfl call12 (law08_awake) rfl ?_)
  rintro _ w11 ⟨gr_10, rfl, hE12, e_10⟩
  have hz13 := hE12.size
  obtain rfl : gr_10 = true := e_10
  refine sEv (v := (.bool false)) (evNot _ rfl rfl) rfl rfl ?_
  refine sEv (v := (.bool false)) (rfl) rfl rfl ?_
  refine sEv (v := (.slice Af nf cf)) (rfl) rfl rfl ?_
  have h14 := (hf.ext (hE5.trans hE12))
  refine sOp rfl (oCall rfl call13 (cylinderlaw08_Few h14) rfl ?_)
  rintro _ w16 ⟨gr_15, rfl, hE17, e_15⟩
  have hz18 := hE17.size
  refine sEv (v := (.bool (!gr_15))) (evNot _ rfl rfl) rfl rfl ?_
  refine sEv (v := (.bool (!gr_15))) (rfl) rfl rfl ?_
  refine sEv (v := (.bool (!gr_15))) (rfl) rfl rfl ?_
  cases gr_15
  · refine sSkip rfl rfl ?_
    refine sSkip rfl rfl ?_
    refine sSkip rfl rfl ?_
    refine sEv (v := (.bool true)) (rfl) rfl rfl ?_
    refine sEv (v := (.bool true)) (rfl) rfl rfl ?_
    refine sSkip rfl rfl ?_
    refine sSkip rfl rfl ?_
    refine sSkip rfl rfl ?_
    refine sSkip rfl rfl ?_
    refine sEv (v := (.bool true)) (rfl) rfl rfl ?_
    refine sDone ?_
    refine xN (hK9 _ _ ?_)
    refine cT rfl ?_
    refine wp_seq_k fun K19 hK19 => ?_
    refine wp_region_lit ?_
    refine sOp rfl (oCall rfl call12 (law08_awake) rfl ?_)
    rintro _ w21 ⟨gr_20, rfl, hE22, e_20⟩
    have hz23 := hE22.size
    obtain rfl : gr_20 = true := e_20
    refine sEv (v := (.bool true)) (rfl) rfl rfl ?_
    refine sDone ?_
    refine xN (hK19 _ _ ?_)
    refine wp_ret (xR ?_)
    refine ret1 (.bool true) Try.results6 (resT rfl) ?_
    exact ⟨(true), rfl, (((hE5.trans hE12).trans hE17).trans hE22), rfl⟩
  · refine sEv (v := (.slice Ag ng cg)) (rfl) rfl rfl ?_
    have h24 := (hg.ext ((hE5.trans hE12).trans hE17))
    refine sOp rfl (oCall rfl call13 (cylinderlaw08_Few h24) rfl ?_)
    rintro _ w26 ⟨gr_25, rfl, hE27, e_25⟩
    have hz28 := hE27.size
    refine sEv (v := (.bool (!gr_25))) (evNot _ rfl rfl) rfl rfl ?_
    refine sEv (v := (.bool (!gr_25))) (rfl) rfl rfl ?_
    refine sEv (v := (.bool (!gr_25))) (rfl) rfl rfl ?_
    cases gr_25
    · refine sSkip rfl rfl ?_
      refine sSkip rfl rfl ?_
      refine sSkip rfl rfl ?_
      refine sSkip rfl rfl ?_
      refine sEv (v := (.bool true)) (rfl) rfl rfl ?_
      refine sDone ?_
      refine xN (hK9 _ _ ?_)
      refine cT rfl ?_
      refine wp_seq_k fun K29 hK29 => ?_
      refine wp_region_lit ?_
      refine sOp rfl (oCall rfl call12 (law08_awake) rfl ?_)
      rintro _ w31 ⟨gr_30, rfl, hE32, e_30⟩
      have hz33 := hE32.size
      obtain rfl : gr_30 = true := e_30
      refine sEv (v := (.bool true)) (rfl) rfl rfl ?_
      refine sDone ?_
      refine xN (hK29 _ _ ?_)
      refine wp_ret (xR ?_)
      refine ret1 (.bool true) Try.results6 (resT rfl) ?_
      exact ⟨(true), rfl, ((((hE5.trans hE12).trans hE17).trans hE27).trans hE32), rfl⟩
    · refine sEv (v := (.pointer (some ⟨g2, 1, none⟩))) (evFA 1 fa46_1 rfl rfl) rfl rfl ?_
      have hB34 := (hB7.ext ((hE12.trans hE17).trans hE27))
      refine sEv (v := (.slice Ac nc cc)) (evLoadB one44 rfl hB34 rfl) rfl rfl ?_
      refine sEv (v := (.int .i64 ((nc : Int)))) (evLen Try.underlying44 rfl) rfl rfl ?_
      by_cases hc35 : ((nc : Int)) > 4
      · refine sEv (v := (.bool true)) (evGtr true rfl rfl (dT hc35)) rfl rfl ?_
        refine sEv (v := (.bool true)) (rfl) rfl rfl ?_
        refine sDone ?_
        refine xN (hK9 _ _ ?_)
        refine cT rfl ?_
        refine wp_seq_k fun K36 hK36 => ?_
        refine wp_region_lit ?_
        refine sOp rfl (oCall rfl call12 (law08_awake) rfl ?_)
        rintro _ w38 ⟨gr_37, rfl, hE39, e_37⟩
        have hz40 := hE39.size
        obtain rfl : gr_37 = true := e_37
        refine sEv (v := (.bool true)) (rfl) rfl rfl ?_
        refine sDone ?_
        refine xN (hK36 _ _ ?_)
        refine wp_ret (xR ?_)
        refine ret1 (.bool true) Try.results6 (resT rfl) ?_
        exact ⟨(true), rfl, ((((hE5.trans hE12).trans hE17).trans hE27).trans hE39), rfl⟩
      · refine sEv (v := (.bool false)) (evGtr false rfl rfl (dF hc35)) rfl rfl ?_
        refine sEv (v := (.bool false)) (rfl) rfl rfl ?_
        refine sDone ?_
        refine xN (hK9 _ _ ?_)
        refine cF rfl ?_
        refine wp_skip ?_
        refine xN (hK8 _ _ ?_)
        refine wp_seq_k fun K41 hK41 => ?_
        refine wp_region_lit ?_
        refine sEv (v := (.slice Af nf cf)) (rfl) rfl rfl ?_
        have qf := e_15 rfl
        have qnf := qf.1
        have hf2 := hf.reM (M' := 4) (by intro r hr; have := qf.2 r hr; omega)
        have qg := e_25 rfl
        have qng := qg.1
        have hg2 := hg.reM (M' := 4) (by intro r hr; have := qg.2 r hr; omega)
        have h42 := (hf2.ext (((hE5.trans hE12).trans hE17).trans hE27))
        refine sOp rfl (oCall rfl call14 (law08_Of h42 (by omega) (by omega)) rfl ?_)
        rintro _ w44 ⟨Ar_43, nr_43, cr_43, fr_43, rfl, hE45, hr_43, e_43, ln_43⟩
        have hz46 := hE45.size
        have lr_43 := hr_43.len; have kr_43 := hr_43.cap; have mr_43 := hr_43.max
        replace hr_43 := hr_43.sub (S' := fun b => w26.heap.size ≤ b ∧ b < w44.heap.size) fun _ hb hs => ⟨hs, hb⟩
        refine sEv (v := (.slice Ag ng cg)) (rfl) rfl rfl ?_
        have h48 := (hg2.ext ((((hE5.trans hE12).trans hE17).trans hE27).trans hE45))
        refine sOp rfl (oCall rfl call14 (law08_Of h48 (by omega) (by omega)) rfl ?_)
        rintro _ w50 ⟨Ar_49, nr_49, cr_49, fr_49, rfl, hE51, hr_49, e_49, ln_49⟩
        have hz52 := hE51.size
        have lr_49 := hr_49.len; have kr_49 := hr_49.cap; have mr_49 := hr_49.max
        replace hr_49 := hr_49.sub (S' := fun b => w44.heap.size ≤ b ∧ b < w50.heap.size) fun _ hb hs => ⟨hs, hb⟩
        refine sEv (v := (.slice Ar_43 nr_43 cr_43)) (rfl) rfl rfl ?_
        refine sEv (v := (.slice Ar_49 nr_49 cr_49)) (rfl) rfl rfl ?_
        refine sDone ?_
        refine xN (hK41 _ _ ?_)
        refine wp_seq_k fun K54 hK54 => ?_
        refine wp_region_lit ?_
        refine sOp rfl (oCall rfl call15 (ref02_Small (by omega)) rfl ?_)
        rintro _ w56 ⟨sr_55, Ar_55, nr_55, cr_55, zr_55, rfl, hE57, hr_55, v_55, le_55⟩
        have hz58 := hE57.size
        have sgr_55 := hr_55.1; have kr_55 := hr_55.cap; have mr_55 := hr_55.max
        refine sOp rfl (oAlloc [(.int .i64 (0)), (.slice none 0 0)] zero31 rfl ?_)
        intro g60 w61 hg62 hE63 hz64 hB65
        refine sOp rfl (oStore [(.int .i64 (sr_55)), (.slice Ar_55 nr_55 cr_55)] rfl rfl rfl sz31 rfl hB65 (Nat.le_of_ble_eq_true rfl) ?_)
        intro w66 hU67 hz68 hB69
        replace hB69 : Blk w66 g60 31 [(.int .i64 (sr_55)), (.slice Ar_55 nr_55 cr_55)] := hB69
        refine sDone ?_
        refine xN (hK54 _ _ ?_)
        refine wp_seq_k fun K70 hK70 => ?_
        refine wp_region_lit ?_
        refine sEv (v := (.agg #[(.int .i64 (0)), (.slice none 0 0)])) (evK (by kernel_rfl)) rfl rfl ?_
        refine sOp rfl (oAlloc [(.int .i64 (0)), (.slice none 0 0)] zero31 rfl ?_)
        intro g71 w72 hg73 hE74 hz75 hB76
        refine sOp rfl (oStore [(.int .i64 (0)), (.slice none 0 0)] rfl rfl rfl sz31 rfl hB76 (Nat.le_of_ble_eq_true rfl) ?_)
        intro w77 hU78 hz79 hB80
        replace hB80 : Blk w77 g71 31 [(.int .i64 (0)), (.slice none 0 0)] := hB80
        refine sDone ?_
        refine xN (hK70 _ _ ?_)
        refine wp_seq_k fun K81 hK81 => ?_
        refine wp_seq_k fun K82 hK82 => ?_
        refine wp_region_lit ?_
        refine sEv (v := (.int .i64 (0))) (rfl) rfl rfl ?_
        refine sDone ?_
        refine xN (hK82 _ _ ?_)
        refine wp_block ?_
        refine lLoop (fun m e w_ => ∃ (k : Nat) (sh : Int) (Ah : Option Addr) (nh : Nat) (ch : Nat) (zh : Int), m = nr_43 - k ∧ e 0 = (.slice Af nf cf) ∧ e 1 = (.slice Ag ng cg) ∧ e 5 = (.pointer (some ⟨g2, 0, none⟩)) ∧ e 7 = (.slice Ar_43 nr_43 cr_43) ∧ e 8 = (.slice Ar_49 nr_49 cr_49) ∧ e 9 = (.pointer (some ⟨g60, 0, none⟩)) ∧ e 10 = (.pointer (some ⟨g71, 0, none⟩)) ∧ e 11 = (.int .i64 ((k : Int))) ∧ Frm (fun b => b = g71) w77 w_ ∧ Blk w_ g71 31 ([.int .i64 sh, .slice Ah nh ch]) ∧ (k ≤ nr_43) ∧ (nh ≤ 128) ∧ (ZR w_ (fun b => b < w50.heap.size) sh Ah nh ch zh) ∧ (zh = (hgt (fr_43.take k) : Int))) (nr_43 - (0)) ?_ ?_
        · refine ⟨(0), (0), (none), (0), (0), (0), rfl, rfl, rfl, rfl, rfl, rfl, rfl, rfl, (congrArg (Value.int .i64) (by omega)), (Frm.refl _ _), ?_, ?_, ?_, ?_, ?_⟩
          · exact hB80
          · omega
          · omega
          · exact ZR.zero
          · rfl
        · rintro m83 e96 w84 ⟨k, sh, Ah, nh, ch, zh, hm95, hs85, hs86, hs87, hs88, hs89, hs90, hs91, hs92, hF93, hB94, hk, hnh, hN, hvh⟩
          obtain ⟨r97, rfl⟩ := sq (e := e96) (t := 0) hs85
          obtain ⟨r98, rfl⟩ := sq (e := r97) (t := 1) hs86
          obtain ⟨r99, rfl⟩ := sq (e := r98) (t := 5) hs87
          obtain ⟨r100, rfl⟩ := sq (e := r99) (t := 7) hs88
          obtain ⟨r101, rfl⟩ := sq (e := r100) (t := 8) hs89
          obtain ⟨r102, rfl⟩ := sq (e := r101) (t := 9) hs90
          obtain ⟨r103, rfl⟩ := sq (e := r102) (t := 10) hs91
          obtain ⟨r104, rfl⟩ := sq (e := r103) (t := 11) hs92
          have hz105 := hF93.size
          have sgh := hN.1; have lsC := hN.cap; have lsM := hN.max
          refine wp_seq_k fun K106 hK106 => ?_
          refine wp_seq_k fun K107 hK107 => ?_
          refine wp_region_lit ?_
          refine sEv (v := (.int .i64 ((k : Int)))) (rfl) rfl rfl ?_
          refine sEv (v := (.slice Ar_43 nr_43 cr_43)) (rfl) rfl rfl ?_
          refine sEv (v := (.int .i64 ((nr_43 : Int)))) (evLen Try.underlying27 rfl) rfl rfl ?_
          by_cases hc108 : ((k : Int)) < ((nr_43 : Int))
          · refine sEv (v := (.bool true)) (evLss true rfl rfl (dT hc108)) rfl rfl ?_
            refine sDone ?_
            refine xN (hK107 _ _ ?_)
            refine cT rfl ?_
            refine wp_skip ?_
            refine xN (hK106 _ _ ?_)
            refine wp_seq_k fun K109 hK109 => ?_
            refine wp_block ?_
            refine wp_seq_k fun K110 hK110 => ?_
            refine wp_region_lit ?_
            refine sEv (v := (.slice Ar_43 nr_43 cr_43)) (rfl) rfl rfl ?_
            refine sEv (v := (.int .i64 ((k : Int)))) (rfl) rfl rfl ?_
            have h111 := (hr_43.frmB (((((((Frm.of_ext (G := fun b => (b = g60) ∨ (b = g71)) hE51).trans (Frm.of_ext (G := fun b => (b = g60) ∨ (b = g71)) hE57)).trans (Frm.of_ext (G := fun b => (b = g60) ∨ (b = g71)) hE63)).trans (hU67.mono (G' := fun b => (b = g60) ∨ (b = g71)) fun _ _ h => .inl h)).trans (Frm.of_ext (G := fun b => (b = g60) ∨ (b = g71)) hE74)).trans (hU78.mono (G' := fun b => (b = g60) ∨ (b = g71)) fun _ _ h => .inr h)).trans (hF93.mono (G' := fun b => (b = g60) ∨ (b = g71)) fun _ _ h => .inr h)) q3)
            obtain ⟨b112, o113, rfl⟩ := h111.base (by omega)
            refine sEv (v := (.pointer (some ⟨b112, o113 + (k * 2), none⟩))) (evIndex k Try.underlying27 sz31 rfl rfl (by omega) (by omega) (o113 + (k * 2)) (by omega)) rfl rfl ?_
            refine sEv (v := (.pointer (some ⟨b112, o113 + (k * 2) + 1, none⟩))) (evFA (o113 + (k * 2) + 1) fa31_1 rfl rfl) rfl rfl ?_
            obtain ⟨s_114, A_114, n_114, c_114, z_114, hp_114, hq_114, h_114, hM_114, hS_114, hb_114, hz_114⟩ := h111.at_ (i := k) (by omega)
            have sg_114 := h_114.1; have k_114 := h_114.cap; have m_114 := h_114.max
            refine sEv (v := (.slice A_114 n_114 c_114)) (evLoad one29 rfl hq_114) rfl rfl ?_
            obtain ⟨bs_116, hb_116, cb_116, vb_116⟩ := h_114.2
            have lb_116 := hb_116.len
            refine sOp rfl (oCall rfl call33 (ref02_Make hb_116) rfl ?_)
            rintro _ w119 ⟨sr_118, Ar_118, nr_118, cr_118, zr_118, rfl, hE120, hr_118, v_118, le_118⟩
            have hz121 := hE120.size
            have sgr_118 := hr_118.1; have kr_118 := hr_118.cap; have mr_118 := hr_118.max
            refine sOp rfl (oAlloc [(.int .i64 (0)), (.slice none 0 0)] zero31 rfl ?_)
            intro g123 w124 hg125 hE126 hz127 hB128
            refine sOp rfl (oStore [(.int .i64 (sr_118)), (.slice Ar_118 nr_118 cr_118)] rfl rfl rfl sz31 rfl hB128 (Nat.le_of_ble_eq_true rfl) ?_)
            intro w129 hU130 hz131 hB132
            replace hB132 : Blk w129 g123 31 [(.int .i64 (sr_118)), (.slice Ar_118 nr_118 cr_118)] := hB132
            refine sDone ?_
            refine xN (hK110 _ _ ?_)
            refine wp_seq_k fun K133 hK133 => ?_
            refine wp_region_lit ?_
            refine sEv (v := (.agg #[(.int .i64 (sr_118)), (.slice Ar_118 nr_118 cr_118)])) (evLoadAB [(.int .i64 (sr_118)), (.slice Ar_118 nr_118 cr_118)] agg31 sz31 rfl hB132 rfl) rfl rfl ?_
            have hB134 := (hB94.frm (((Frm.of_ext (G := fun b => (b = g123)) hE120).trans (Frm.of_ext (G := fun b => (b = g123)) hE126)).trans hU130) q1)
            refine sEv (v := (.agg #[(.int .i64 (sh)), (.slice Ah nh ch)])) (evLoadAB [(.int .i64 (sh)), (.slice Ah nh ch)] agg31 sz31 rfl hB134 rfl) rfl rfl ?_
            have h135 := (hr_118.frmB ((Frm.of_ext (G := fun b => (b = g123)) hE126).trans hU130) q3)
            have h136 := (hN.frmB (((Frm.of_ext (G := fun b => (b = g123)) hE120).trans (Frm.of_ext (G := fun b => (b = g123)) hE126)).trans hU130) q3)
            refine sOp rfl (oCall rfl call34 (ref02_Cmp h135 h136 (by omega) (by omega)) rfl ?_)
            rintro _ w138 ⟨xr_137, rfl, hE139, e_137⟩
            have hz140 := hE139.size
            by_cases hc141 : xr_137 > 0
            · refine sEv (v := (.bool true)) (evGtr true rfl rfl (dT hc141)) rfl rfl ?_
              refine sDone ?_
              refine xN (hK133 _ _ ?_)
              refine cT rfl ?_
              refine wp_region_lit ?_
              have hB142 := (hB132.ext hE139)
              refine sEv (v := (.agg #[(.int .i64 (sr_118)), (.slice Ar_118 nr_118 cr_118)])) (evLoadAB [(.int .i64 (sr_118)), (.slice Ar_118 nr_118 cr_118)] agg31 sz31 rfl hB142 rfl) rfl rfl ?_
              have hB143 := (hB134.ext hE139)
              refine sOp rfl (oStore [(.int .i64 (sr_118)), (.slice Ar_118 nr_118 cr_118)] rfl rfl rfl sz31 rfl hB143 (Nat.le_of_ble_eq_true rfl) ?_)
              intro w144 hU145 hz146 hB147
              replace hB147 : Blk w144 g71 31 [(.int .i64 (sr_118)), (.slice Ar_118 nr_118 cr_118)] := hB147
              refine sDone ?_
              refine bN ?_
              refine xN (hK109 _ _ ?_)
              refine wp_region_lit ?_
              refine sEv (v := (.int .i64 ((k : Int)))) (rfl) rfl rfl ?_
              refine sEv (v := (.int .i64 (((k : Int)) + 1))) (evAdd (((k : Int)) + 1) rfl rfl (wI64 (by omega))) rfl rfl ?_
              refine sEv (v := (.int .i64 (((k : Int)) + 1))) (rfl) rfl rfl ?_
              refine sDone ?_
              have h148 := (h135.frmB ((Frm.of_ext (G := fun b => (b = g71)) hE139).trans hU145) q3)
              refine again (nr_43 - (k + 1)) (by omega) ⟨(k + 1), (sr_118), (Ar_118), (nr_118), (cr_118), (zr_118), rfl, rfl, rfl, rfl, rfl, rfl, rfl, rfl, (congrArg (Value.int .i64) (by omega)), (Frm.mono ((((((hF93.mono (G' := fun b => (b = g71) ∨ (b = g123)) fun _ _ h => .inl h).trans (Frm.of_ext (G := fun b => (b = g71) ∨ (b = g123)) hE120)).trans (Frm.of_ext (G := fun b => (b = g71) ∨ (b = g123)) hE126)).trans (hU130.mono (G' := fun b => (b = g71) ∨ (b = g123)) fun _ _ h => .inr h)).trans (Frm.of_ext (G := fun b => (b = g71) ∨ (b = g123)) hE139)).trans (hU145.mono (G' := fun b => (b = g71) ∨ (b = g123)) fun _ _ h => .inl h)) q4), ?_, ?_, ?_, ?_, ?_⟩
              · exact hB147
              · omega
              · omega
              · exact ZR.sub h148 q5
              · exact (hgt_stepZ hvh (by omega) hz_114 (by rw [v_118, sgnv_false, vb_116]) e_137).1 hc141
            · refine sEv (v := (.bool false)) (evGtr false rfl rfl (dF hc141)) rfl rfl ?_
              refine sDone ?_
              refine xN (hK133 _ _ ?_)
              refine cF rfl ?_
              refine wp_skip ?_
              refine bN ?_
              refine xN (hK109 _ _ ?_)
              refine wp_region_lit ?_
              refine sEv (v := (.int .i64 ((k : Int)))) (rfl) rfl rfl ?_
              refine sEv (v := (.int .i64 (((k : Int)) + 1))) (evAdd (((k : Int)) + 1) rfl rfl (wI64 (by omega))) rfl rfl ?_
              refine sEv (v := (.int .i64 (((k : Int)) + 1))) (rfl) rfl rfl ?_
              refine sDone ?_
              have hB149 := (hB134.ext hE139)
              have h150 := (h136.ext hE139)
              refine again (nr_43 - (k + 1)) (by omega) ⟨(k + 1), (sh), (Ah), (nh), (ch), (zh), rfl, rfl, rfl, rfl, rfl, rfl, rfl, rfl, (congrArg (Value.int .i64) (by omega)), (Frm.mono (((((hF93.mono (G' := fun b => (b = g71) ∨ (b = g123)) fun _ _ h => .inl h).trans (Frm.of_ext (G := fun b => (b = g71) ∨ (b = g123)) hE120)).trans (Frm.of_ext (G := fun b => (b = g71) ∨ (b = g123)) hE126)).trans (hU130.mono (G' := fun b => (b = g71) ∨ (b = g123)) fun _ _ h => .inr h)).trans (Frm.of_ext (G := fun b => (b = g71) ∨ (b = g123)) hE139)) q4), ?_, ?_, ?_, ?_, ?_⟩
              · exact hB149
              · omega
              · omega
              · exact ZR.sub h150 q5
              · exact (hgt_stepZ hvh (by omega) hz_114 (by rw [v_118, sgnv_false, vb_116]) e_137).2 hc141
          · refine sEv (v := (.bool false)) (evLss false rfl rfl (dF hc108)) rfl rfl ?_
            refine sDone ?_
            refine xN (hK107 _ _ ?_)
            refine cF rfl ?_
            refine wp_exit (xE (xE (bE ?_)))
            refine xN (hK81 _ _ ?_)
            refine wp_seq_k fun K151 hK151 => ?_
            refine wp_region_lit ?_
            refine sEv (v := (.slice Af nf cf)) (rfl) rfl rfl ?_
            have h152 := (h42.frmB ((((((((Frm.of_ext (G := fun b => (b = g60) ∨ (b = g71)) hE45).trans (Frm.of_ext (G := fun b => (b = g60) ∨ (b = g71)) hE51)).trans (Frm.of_ext (G := fun b => (b = g60) ∨ (b = g71)) hE57)).trans (Frm.of_ext (G := fun b => (b = g60) ∨ (b = g71)) hE63)).trans (hU67.mono (G' := fun b => (b = g60) ∨ (b = g71)) fun _ _ h => .inl h)).trans (Frm.of_ext (G := fun b => (b = g60) ∨ (b = g71)) hE74)).trans (hU78.mono (G' := fun b => (b = g60) ∨ (b = g71)) fun _ _ h => .inr h)).trans (hF93.mono (G' := fun b => (b = g60) ∨ (b = g71)) fun _ _ h => .inr h)) q3)
            refine sOp rfl (oCall rfl call35 (unipoly_Height h152 (by omega) (by omega)) rfl ?_)
            rintro _ w154 ⟨gr_153, Ar_153, nr_153, cr_153, dr_153, rfl, hE155, hr_153, v_153, cn_153, le_153⟩
            have hz156 := hE155.size
            have lr_153 := hr_153.len; have kr_153 := hr_153.cap; have mr_153 := hr_153.max
            refine sEv (v := (.slice Af nf cf)) (rfl) rfl rfl ?_
            have h158 := (h152.ext hE155)
            refine sOp rfl (oCall rfl call36 (unipoly_Lead h158 (by omega) (by omega)) rfl ?_)
            rintro _ w160 ⟨gr_159, Ar_159, nr_159, cr_159, dr_159, rfl, hE161, hr_159, v_159, cn_159, le_159⟩
            have hz162 := hE161.size
            have lr_159 := hr_159.len; have kr_159 := hr_159.cap; have mr_159 := hr_159.max
            refine sOp rfl (oAlloc [(.bool false), (.slice none 0 0)] zero46 rfl ?_)
            intro g164 w165 hg166 hE167 hz168 hB169
            refine sOp rfl (oAlloc [(.bool false), (.slice none 0 0)] zero46 rfl ?_)
            intro g170 w171 hg172 hE173 hz174 hB175
            have hB176 := (hB169.ext hE173)
            refine sOp rfl (oStore [(.bool gr_153), (.slice Ar_153 nr_153 cr_153)] rfl rfl rfl sz46 rfl hB176 (Nat.le_of_ble_eq_true rfl) ?_)
            intro w177 hU178 hz179 hB180
            replace hB180 : Blk w177 g164 46 [(.bool gr_153), (.slice Ar_153 nr_153 cr_153)] := hB180
            have hB181 := (hB175.frm hU178 q1)
            refine sOp rfl (oStore [(.bool gr_159), (.slice Ar_159 nr_159 cr_159)] rfl rfl rfl sz46 rfl hB181 (Nat.le_of_ble_eq_true rfl) ?_)
            intro w182 hU183 hz184 hB185
            replace hB185 : Blk w182 g170 46 [(.bool gr_159), (.slice Ar_159 nr_159 cr_159)] := hB185
            refine sDone ?_
            refine xN (hK151 _ _ ?_)
            refine wp_seq_k fun K186 hK186 => ?_
            refine wp_seq_k fun K187 hK187 => ?_
            refine dBegin (fun _ => False) mixed ?_
            intro w188 hE189 hz190
            refine dEv 0 rfl (v := (.slice Af nf cf)) (fun _ _ => rfl) rfl rfl (by kernel_rfl) ?_
            refine dEv 2 rfl (v := (.slice Ar_43 nr_43 cr_43)) (fun _ _ => rfl) rfl rfl (by kernel_rfl) ?_
            have h191 := (h158.frmB ((((((Frm.of_ext (G := fun b => (b = g164) ∨ (b = g170)) hE161).trans (Frm.of_ext (G := fun b => (b = g164) ∨ (b = g170)) hE167)).trans (Frm.of_ext (G := fun b => (b = g164) ∨ (b = g170)) hE173)).trans (hU178.mono (G' := fun b => (b = g164) ∨ (b = g170)) fun _ _ h => .inl h)).trans (hU183.mono (G' := fun b => (b = g164) ∨ (b = g170)) fun _ _ h => .inr h)).trans (Frm.of_ext (G := fun b => (b = g164) ∨ (b = g170)) hE189)) q3)
            refine dOp 1 rfl rfl (by kernel_rfl) (oCall rfl call37 (unipoly_Normal h191 (by omega) (by omega)) rfl ?_)
            rintro _ w193 ⟨qr_192, nr_192, lr_192, rfl, hE194, hgr_192, Br_192, hAr_192, kr_192, mr_192, e_192, ln_192, cn_192⟩
            refine ⟨(Frm.of_ext hE194), ?_⟩
            have hz195 := hE194.size
            have hhr_192 : w188.heap.size ≤ qr_192 := hgr_192; have ltr_192 := Br_192.lt
            have hQq1 : zs lr_192 = fr_43 := by rw [e_192, e_43]
            have h197 : PolyR w193 (fun b => qr_192 ≤ b) (some ⟨qr_192, 0, none⟩) nr_192 nr_192 (lr_192) ((4)) := PolyR.of_blk Br_192 (AllN.sub hAr_192 q5) (by (try dsimp only); omega) (by exact lq) (by omega) (by unfold CapMax; omega)
            have h198 := (hr_43.frmB (((((((((((((((Frm.of_ext (G := fun b => (b = g60) ∨ (b = g71) ∨ (b = g164) ∨ (b = g170)) hE51).trans (Frm.of_ext (G := fun b => (b = g60) ∨ (b = g71) ∨ (b = g164) ∨ (b = g170)) hE57)).trans (Frm.of_ext (G := fun b => (b = g60) ∨ (b = g71) ∨ (b = g164) ∨ (b = g170)) hE63)).trans (hU67.mono (G' := fun b => (b = g60) ∨ (b = g71) ∨ (b = g164) ∨ (b = g170)) fun _ _ h => .inl h)).trans (Frm.of_ext (G := fun b => (b = g60) ∨ (b = g71) ∨ (b = g164) ∨ (b = g170)) hE74)).trans (hU78.mono (G' := fun b => (b = g60) ∨ (b = g71) ∨ (b = g164) ∨ (b = g170)) fun _ _ h => .inr (.inl h))).trans (hF93.mono (G' := fun b => (b = g60) ∨ (b = g71) ∨ (b = g164) ∨ (b = g170)) fun _ _ h => .inr (.inl h))).trans (Frm.of_ext (G := fun b => (b = g60) ∨ (b = g71) ∨ (b = g164) ∨ (b = g170)) hE155)).trans (Frm.of_ext (G := fun b => (b = g60) ∨ (b = g71) ∨ (b = g164) ∨ (b = g170)) hE161)).trans (Frm.of_ext (G := fun b => (b = g60) ∨ (b = g71) ∨ (b = g164) ∨ (b = g170)) hE167)).trans (Frm.of_ext (G := fun b => (b = g60) ∨ (b = g71) ∨ (b = g164) ∨ (b = g170)) hE173)).trans (hU178.mono (G' := fun b => (b = g60) ∨ (b = g71) ∨ (b = g164) ∨ (b = g170)) fun _ _ h => .inr (.inr (.inl h)))).trans (hU183.mono (G' := fun b => (b = g60) ∨ (b = g71) ∨ (b = g164) ∨ (b = g170)) fun _ _ h => .inr (.inr (.inr h)))).trans (Frm.of_ext (G := fun b => (b = g60) ∨ (b = g71) ∨ (b = g164) ∨ (b = g170)) hE189)).trans (Frm.of_ext (G := fun b => (b = g60) ∨ (b = g71) ∨ (b = g164) ∨ (b = g170)) hE194)) q3)
            refine dOp 3 rfl rfl (by kernel_rfl) (oCall rfl call17 (law08_Is h197 h198 (by omega) (by assumption) (by assumption)) rfl ?_)
            rintro _ w200 ⟨gr_199, rfl, hE201, e_199⟩
            refine ⟨(Frm.of_ext hE201), ?_⟩
            have hz202 := hE201.size
            obtain rfl : gr_199 = true := e_199
            refine dEv 4 rfl (v := (.bool false)) (fun _ _ => evNot _ rfl rfl) rfl rfl (by kernel_rfl) ?_
            refine dEv 5 rfl (v := (.bool false)) (fun _ _ => rfl) rfl rfl (by kernel_rfl) ?_
            refine dEv 6 rfl (v := (.slice Af nf cf)) (fun _ _ => rfl) rfl rfl (by kernel_rfl) ?_
            refine dEv 7 rfl (v := (.slice Ag ng cg)) (fun _ _ => rfl) rfl rfl (by kernel_rfl) ?_
            refine dEv 9 rfl (v := (.slice Ar_43 nr_43 cr_43)) (fun _ _ => rfl) rfl rfl (by kernel_rfl) ?_
            refine dEv 10 rfl (v := (.slice Ar_49 nr_49 cr_49)) (fun _ _ => rfl) rfl rfl (by kernel_rfl) ?_
            have h203 := (h191.ext (hE194.trans hE201))
            have h204 := (h48.frmB ((((((((((((((((Frm.of_ext (G := fun b => (b = g60) ∨ (b = g71) ∨ (b = g164) ∨ (b = g170)) hE51).trans (Frm.of_ext (G := fun b => (b = g60) ∨ (b = g71) ∨ (b = g164) ∨ (b = g170)) hE57)).trans (Frm.of_ext (G := fun b => (b = g60) ∨ (b = g71) ∨ (b = g164) ∨ (b = g170)) hE63)).trans (hU67.mono (G' := fun b => (b = g60) ∨ (b = g71) ∨ (b = g164) ∨ (b = g170)) fun _ _ h => .inl h)).trans (Frm.of_ext (G := fun b => (b = g60) ∨ (b = g71) ∨ (b = g164) ∨ (b = g170)) hE74)).trans (hU78.mono (G' := fun b => (b = g60) ∨ (b = g71) ∨ (b = g164) ∨ (b = g170)) fun _ _ h => .inr (.inl h))).trans (hF93.mono (G' := fun b => (b = g60) ∨ (b = g71) ∨ (b = g164) ∨ (b = g170)) fun _ _ h => .inr (.inl h))).trans (Frm.of_ext (G := fun b => (b = g60) ∨ (b = g71) ∨ (b = g164) ∨ (b = g170)) hE155)).trans (Frm.of_ext (G := fun b => (b = g60) ∨ (b = g71) ∨ (b = g164) ∨ (b = g170)) hE161)).trans (Frm.of_ext (G := fun b => (b = g60) ∨ (b = g71) ∨ (b = g164) ∨ (b = g170)) hE167)).trans (Frm.of_ext (G := fun b => (b = g60) ∨ (b = g71) ∨ (b = g164) ∨ (b = g170)) hE173)).trans (hU178.mono (G' := fun b => (b = g60) ∨ (b = g71) ∨ (b = g164) ∨ (b = g170)) fun _ _ h => .inr (.inr (.inl h)))).trans (hU183.mono (G' := fun b => (b = g60) ∨ (b = g71) ∨ (b = g164) ∨ (b = g170)) fun _ _ h => .inr (.inr (.inr h)))).trans (Frm.of_ext (G := fun b => (b = g60) ∨ (b = g71) ∨ (b = g164) ∨ (b = g170)) hE189)).trans (Frm.of_ext (G := fun b => (b = g60) ∨ (b = g71) ∨ (b = g164) ∨ (b = g170)) hE194)).trans (Frm.of_ext (G := fun b => (b = g60) ∨ (b = g71) ∨ (b = g164) ∨ (b = g170)) hE201)) q3)
            refine dOp 8 rfl rfl (by kernel_rfl) (oCall rfl call22 (unipoly_Add h203 h204 (by omega) (by omega) (by omega) (by omega)) rfl ?_)
            rintro _ w206 ⟨Ar_205, nr_205, cr_205, lr_205, rfl, hE207, hr_205, e_205, ln_205, cn_205⟩
            refine ⟨(Frm.of_ext hE207), ?_⟩
            have hz208 := hE207.size
            have kr_205 := hr_205.len; have jr_205 := hr_205.cap; have mr_205 := hr_205.max
            have h210 := (h198.ext (hE201.trans hE207))
            have h211 := (hr_49.frmB ((((((((((((((((Frm.of_ext (G := fun b => (b = g60) ∨ (b = g71) ∨ (b = g164) ∨ (b = g170)) hE57).trans (Frm.of_ext (G := fun b => (b = g60) ∨ (b = g71) ∨ (b = g164) ∨ (b = g170)) hE63)).trans (hU67.mono (G' := fun b => (b = g60) ∨ (b = g71) ∨ (b = g164) ∨ (b = g170)) fun _ _ h => .inl h)).trans (Frm.of_ext (G := fun b => (b = g60) ∨ (b = g71) ∨ (b = g164) ∨ (b = g170)) hE74)).trans (hU78.mono (G' := fun b => (b = g60) ∨ (b = g71) ∨ (b = g164) ∨ (b = g170)) fun _ _ h => .inr (.inl h))).trans (hF93.mono (G' := fun b => (b = g60) ∨ (b = g71) ∨ (b = g164) ∨ (b = g170)) fun _ _ h => .inr (.inl h))).trans (Frm.of_ext (G := fun b => (b = g60) ∨ (b = g71) ∨ (b = g164) ∨ (b = g170)) hE155)).trans (Frm.of_ext (G := fun b => (b = g60) ∨ (b = g71) ∨ (b = g164) ∨ (b = g170)) hE161)).trans (Frm.of_ext (G := fun b => (b = g60) ∨ (b = g71) ∨ (b = g164) ∨ (b = g170)) hE167)).trans (Frm.of_ext (G := fun b => (b = g60) ∨ (b = g71) ∨ (b = g164) ∨ (b = g170)) hE173)).trans (hU178.mono (G' := fun b => (b = g60) ∨ (b = g71) ∨ (b = g164) ∨ (b = g170)) fun _ _ h => .inr (.inr (.inl h)))).trans (hU183.mono (G' := fun b => (b = g60) ∨ (b = g71) ∨ (b = g164) ∨ (b = g170)) fun _ _ h => .inr (.inr (.inr h)))).trans (Frm.of_ext (G := fun b => (b = g60) ∨ (b = g71) ∨ (b = g164) ∨ (b = g170)) hE189)).trans (Frm.of_ext (G := fun b => (b = g60) ∨ (b = g71) ∨ (b = g164) ∨ (b = g170)) hE194)).trans (Frm.of_ext (G := fun b => (b = g60) ∨ (b = g71) ∨ (b = g164) ∨ (b = g170)) hE201)).trans (Frm.of_ext (G := fun b => (b = g60) ∨ (b = g71) ∨ (b = g164) ∨ (b = g170)) hE207)) q3)
            refine dOp 11 rfl rfl (by kernel_rfl) (oCall rfl call38 (ref08_Add h210 h211 (by omega) (by omega) (by omega) (by omega)) rfl ?_)
            rintro _ w213 ⟨Ar_212, nr_212, cr_212, fr_212, rfl, hE214, hr_212, e_212, ln_212⟩
            refine ⟨(Frm.of_ext hE214), ?_⟩
            have hz215 := hE214.size
            have lr_212 := hr_212.len; have kr_212 := hr_212.cap; have mr_212 := hr_212.max
            replace hr_212 := hr_212.low
            have hQq2 : zs lr_205 = fr_212 := by rw [e_205, e_212, e_43, e_49]; exact law_add _ _
            have h217 := (hr_205.ext hE214)
            refine dOp 12 rfl rfl (by kernel_rfl) (oCall rfl call17 (law08_Is h217 hr_212 (by omega) (by assumption) (by assumption)) rfl ?_)
            rintro _ w219 ⟨gr_218, rfl, hE220, e_218⟩
            refine ⟨(Frm.of_ext hE220), ?_⟩
            have hz221 := hE220.size
            obtain rfl : gr_218 = true := e_218
            refine dEv 13 rfl (v := (.bool false)) (fun _ _ => evNot _ rfl rfl) rfl rfl (by kernel_rfl) ?_
            refine dEv 14 rfl (v := (.bool false)) (fun _ _ => rfl) rfl rfl (by kernel_rfl) ?_
            refine dEv 15 rfl (v := (.bool false)) (fun _ _ => rfl) rfl rfl (by kernel_rfl) ?_
            refine dEv 16 rfl (v := (.slice Af nf cf)) (fun _ _ => rfl) rfl rfl (by kernel_rfl) ?_
            refine dEv 17 rfl (v := (.slice Ag ng cg)) (fun _ _ => rfl) rfl rfl (by kernel_rfl) ?_
            refine dEv 19 rfl (v := (.slice Ar_43 nr_43 cr_43)) (fun _ _ => rfl) rfl rfl (by kernel_rfl) ?_
            refine dEv 20 rfl (v := (.slice Ar_49 nr_49 cr_49)) (fun _ _ => rfl) rfl rfl (by kernel_rfl) ?_
            have hB222 := (hB69.frm (((((((((((((((Frm.of_ext (G := fun b => (b = g71) ∨ (b = g164) ∨ (b = g170)) hE74).trans (hU78.mono (G' := fun b => (b = g71) ∨ (b = g164) ∨ (b = g170)) fun _ _ h => .inl h)).trans (hF93.mono (G' := fun b => (b = g71) ∨ (b = g164) ∨ (b = g170)) fun _ _ h => .inl h)).trans (Frm.of_ext (G := fun b => (b = g71) ∨ (b = g164) ∨ (b = g170)) hE155)).trans (Frm.of_ext (G := fun b => (b = g71) ∨ (b = g164) ∨ (b = g170)) hE161)).trans (Frm.of_ext (G := fun b => (b = g71) ∨ (b = g164) ∨ (b = g170)) hE167)).trans (Frm.of_ext (G := fun b => (b = g71) ∨ (b = g164) ∨ (b = g170)) hE173)).trans (hU178.mono (G' := fun b => (b = g71) ∨ (b = g164) ∨ (b = g170)) fun _ _ h => .inr (.inl h))).trans (hU183.mono (G' := fun b => (b = g71) ∨ (b = g164) ∨ (b = g170)) fun _ _ h => .inr (.inr h))).trans (Frm.of_ext (G := fun b => (b = g71) ∨ (b = g164) ∨ (b = g170)) hE189)).trans (Frm.of_ext (G := fun b => (b = g71) ∨ (b = g164) ∨ (b = g170)) hE194)).trans (Frm.of_ext (G := fun b => (b = g71) ∨ (b = g164) ∨ (b = g170)) hE201)).trans (Frm.of_ext (G := fun b => (b = g71) ∨ (b = g164) ∨ (b = g170)) hE207)).trans (Frm.of_ext (G := fun b => (b = g71) ∨ (b = g164) ∨ (b = g170)) hE214)).trans (Frm.of_ext (G := fun b => (b = g71) ∨ (b = g164) ∨ (b = g170)) hE220)) q1)
            refine dEv 21 rfl (v := (.agg #[(.int .i64 (sr_55)), (.slice Ar_55 nr_55 cr_55)])) (fun _ hf => evLoadAB [(.int .i64 (sr_55)), (.slice Ar_55 nr_55 cr_55)] agg31 sz31 rfl (hB222.ext hf) rfl) rfl rfl (by kernel_rfl) ?_
            have h223 := (h203.ext ((hE207.trans hE214).trans hE220))
            have h224 := (h204.ext ((hE207.trans hE214).trans hE220))
            refine dOp 18 rfl rfl (by kernel_rfl) (oCall rfl call24 (unipoly_Sub h223 h224 (by omega) (by omega) (by omega) (by omega)) rfl ?_)
            rintro _ w226 ⟨Ar_225, nr_225, cr_225, lr_225, rfl, hE227, hr_225, e_225, ln_225, cn_225⟩
            refine ⟨(Frm.of_ext hE227), ?_⟩
            have hz228 := hE227.size
            have kr_225 := hr_225.len; have jr_225 := hr_225.cap; have mr_225 := hr_225.max
            have h230 := (h211.ext ((hE214.trans hE220).trans hE227))
            have h231 := (hr_55.frmB ((((((((((((((((((Frm.of_ext (G := fun b => (b = g60) ∨ (b = g71) ∨ (b = g164) ∨ (b = g170)) hE63).trans (hU67.mono (G' := fun b => (b = g60) ∨ (b = g71) ∨ (b = g164) ∨ (b = g170)) fun _ _ h => .inl h)).trans (Frm.of_ext (G := fun b => (b = g60) ∨ (b = g71) ∨ (b = g164) ∨ (b = g170)) hE74)).trans (hU78.mono (G' := fun b => (b = g60) ∨ (b = g71) ∨ (b = g164) ∨ (b = g170)) fun _ _ h => .inr (.inl h))).trans (hF93.mono (G' := fun b => (b = g60) ∨ (b = g71) ∨ (b = g164) ∨ (b = g170)) fun _ _ h => .inr (.inl h))).trans (Frm.of_ext (G := fun b => (b = g60) ∨ (b = g71) ∨ (b = g164) ∨ (b = g170)) hE155)).trans (Frm.of_ext (G := fun b => (b = g60) ∨ (b = g71) ∨ (b = g164) ∨ (b = g170)) hE161)).trans (Frm.of_ext (G := fun b => (b = g60) ∨ (b = g71) ∨ (b = g164) ∨ (b = g170)) hE167)).trans (Frm.of_ext (G := fun b => (b = g60) ∨ (b = g71) ∨ (b = g164) ∨ (b = g170)) hE173)).trans (hU178.mono (G' := fun b => (b = g60) ∨ (b = g71) ∨ (b = g164) ∨ (b = g170)) fun _ _ h => .inr (.inr (.inl h)))).trans (hU183.mono (G' := fun b => (b = g60) ∨ (b = g71) ∨ (b = g164) ∨ (b = g170)) fun _ _ h => .inr (.inr (.inr h)))).trans (Frm.of_ext (G := fun b => (b = g60) ∨ (b = g71) ∨ (b = g164) ∨ (b = g170)) hE189)).trans (Frm.of_ext (G := fun b => (b = g60) ∨ (b = g71) ∨ (b = g164) ∨ (b = g170)) hE194)).trans (Frm.of_ext (G := fun b => (b = g60) ∨ (b = g71) ∨ (b = g164) ∨ (b = g170)) hE201)).trans (Frm.of_ext (G := fun b => (b = g60) ∨ (b = g71) ∨ (b = g164) ∨ (b = g170)) hE207)).trans (Frm.of_ext (G := fun b => (b = g60) ∨ (b = g71) ∨ (b = g164) ∨ (b = g170)) hE214)).trans (Frm.of_ext (G := fun b => (b = g60) ∨ (b = g71) ∨ (b = g164) ∨ (b = g170)) hE220)).trans (Frm.of_ext (G := fun b => (b = g60) ∨ (b = g71) ∨ (b = g164) ∨ (b = g170)) hE227)) q3)
            refine dOp 22 rfl rfl (by kernel_rfl) (oCall rfl call39 (ref08_Scale h230 h231 (by omega) (by omega) (by omega)) rfl ?_)
            rintro _ w233 ⟨Ar_232, nr_232, cr_232, fr_232, rfl, hE234, hr_232, e_232, ln_232⟩
            refine ⟨(Frm.of_ext hE234), ?_⟩
            have hz235 := hE234.size
            have lr_232 := hr_232.len; have kr_232 := hr_232.cap; have mr_232 := hr_232.max
            replace hr_232 := hr_232.low
            have h237 := (h210.ext (((hE214.trans hE220).trans hE227).trans hE234))
            refine dOp 23 rfl rfl (by kernel_rfl) (oCall rfl call38 (ref08_Add h237 hr_232 (by omega) (by omega) (by omega) (by omega)) rfl ?_)
            rintro _ w239 ⟨Ar_238, nr_238, cr_238, fr_238, rfl, hE240, hr_238, e_238, ln_238⟩
            refine ⟨(Frm.of_ext hE240), ?_⟩
            have hz241 := hE240.size
            have lr_238 := hr_238.len; have kr_238 := hr_238.cap; have mr_238 := hr_238.max
            replace hr_238 := hr_238.low
            have hQq3 : zs lr_225 = fr_238 := by rw [e_225, e_238, e_232, e_43, e_49, v_55]; exact law_sub _ _
            have h243 := (hr_225.ext (hE234.trans hE240))
            refine dOp 24 rfl rfl (by kernel_rfl) (oCall rfl call17 (law08_Is h243 hr_238 (by omega) (by assumption) (by assumption)) rfl ?_)
            rintro _ w245 ⟨gr_244, rfl, hE246, e_244⟩
            refine ⟨(Frm.of_ext hE246), ?_⟩
            have hz247 := hE246.size
            obtain rfl : gr_244 = true := e_244
            refine dEv 25 rfl (v := (.bool false)) (fun _ _ => evNot _ rfl rfl) rfl rfl (by kernel_rfl) ?_
            refine dEv 26 rfl (v := (.bool false)) (fun _ _ => rfl) rfl rfl (by kernel_rfl) ?_
            refine dEv 27 rfl (v := (.bool false)) (fun _ _ => rfl) rfl rfl (by kernel_rfl) ?_
            refine dEv 28 rfl (v := (.slice Af nf cf)) (fun _ _ => rfl) rfl rfl (by kernel_rfl) ?_
            refine dEv 30 rfl (v := (.slice Ar_43 nr_43 cr_43)) (fun _ _ => rfl) rfl rfl (by kernel_rfl) ?_
            have hB248 := (hB222.ext (((hE227.trans hE234).trans hE240).trans hE246))
            refine dEv 31 rfl (v := (.agg #[(.int .i64 (sr_55)), (.slice Ar_55 nr_55 cr_55)])) (fun _ hf => evLoadAB [(.int .i64 (sr_55)), (.slice Ar_55 nr_55 cr_55)] agg31 sz31 rfl (hB248.ext hf) rfl) rfl rfl (by kernel_rfl) ?_
            have h249 := (h223.ext (((hE227.trans hE234).trans hE240).trans hE246))
            refine dOp 29 rfl rfl (by kernel_rfl) (oCall rfl call40 (unipoly_Neg h249 (by omega) (by omega)) rfl ?_)
            rintro _ w251 ⟨Ar_250, nr_250, cr_250, lr_250, rfl, hE252, hr_250, e_250, ln_250, cn_250⟩
            refine ⟨(Frm.of_ext hE252), ?_⟩
            have hz253 := hE252.size
            have kr_250 := hr_250.len; have jr_250 := hr_250.cap; have mr_250 := hr_250.max
            have h255 := (h237.ext ((hE240.trans hE246).trans hE252))
            have h256 := (h231.ext (((hE234.trans hE240).trans hE246).trans hE252))
            refine dOp 32 rfl rfl (by kernel_rfl) (oCall rfl call39 (ref08_Scale h255 h256 (by omega) (by omega) (by omega)) rfl ?_)
            rintro _ w258 ⟨Ar_257, nr_257, cr_257, fr_257, rfl, hE259, hr_257, e_257, ln_257⟩
            refine ⟨(Frm.of_ext hE259), ?_⟩
            have hz260 := hE259.size
            have lr_257 := hr_257.len; have kr_257 := hr_257.cap; have mr_257 := hr_257.max
            replace hr_257 := hr_257.low
            have hQq4 : zs lr_250 = fr_257 := by rw [e_250, e_257, e_43, v_55]; exact law_scale _ _
            have h262 := (hr_250.ext hE259)
            refine dOp 33 rfl rfl (by kernel_rfl) (oCall rfl call17 (law08_Is h262 hr_257 (by omega) (by assumption) (by assumption)) rfl ?_)
            rintro _ w264 ⟨gr_263, rfl, hE265, e_263⟩
            refine ⟨(Frm.of_ext hE265), ?_⟩
            have hz266 := hE265.size
            obtain rfl : gr_263 = true := e_263
            refine dEv 34 rfl (v := (.bool false)) (fun _ _ => evNot _ rfl rfl) rfl rfl (by kernel_rfl) ?_
            refine dEv 35 rfl (v := (.bool false)) (fun _ _ => rfl) rfl rfl (by kernel_rfl) ?_
            refine dEv 36 rfl (v := (.bool false)) (fun _ _ => rfl) rfl rfl (by kernel_rfl) ?_
            refine dEv 37 rfl (v := (.slice Af nf cf)) (fun _ _ => rfl) rfl rfl (by kernel_rfl) ?_
            have hB267 := (hB34.frm (((((((((((((((((((((((((((Frm.of_ext (G := fun b => (b = g60) ∨ (b = g71) ∨ (b = g164) ∨ (b = g170)) hE45).trans (Frm.of_ext (G := fun b => (b = g60) ∨ (b = g71) ∨ (b = g164) ∨ (b = g170)) hE51)).trans (Frm.of_ext (G := fun b => (b = g60) ∨ (b = g71) ∨ (b = g164) ∨ (b = g170)) hE57)).trans (Frm.of_ext (G := fun b => (b = g60) ∨ (b = g71) ∨ (b = g164) ∨ (b = g170)) hE63)).trans (hU67.mono (G' := fun b => (b = g60) ∨ (b = g71) ∨ (b = g164) ∨ (b = g170)) fun _ _ h => .inl h)).trans (Frm.of_ext (G := fun b => (b = g60) ∨ (b = g71) ∨ (b = g164) ∨ (b = g170)) hE74)).trans (hU78.mono (G' := fun b => (b = g60) ∨ (b = g71) ∨ (b = g164) ∨ (b = g170)) fun _ _ h => .inr (.inl h))).trans (hF93.mono (G' := fun b => (b = g60) ∨ (b = g71) ∨ (b = g164) ∨ (b = g170)) fun _ _ h => .inr (.inl h))).trans (Frm.of_ext (G := fun b => (b = g60) ∨ (b = g71) ∨ (b = g164) ∨ (b = g170)) hE155)).trans (Frm.of_ext (G := fun b => (b = g60) ∨ (b = g71) ∨ (b = g164) ∨ (b = g170)) hE161)).trans (Frm.of_ext (G := fun b => (b = g60) ∨ (b = g71) ∨ (b = g164) ∨ (b = g170)) hE167)).trans (Frm.of_ext (G := fun b => (b = g60) ∨ (b = g71) ∨ (b = g164) ∨ (b = g170)) hE173)).trans (hU178.mono (G' := fun b => (b = g60) ∨ (b = g71) ∨ (b = g164) ∨ (b = g170)) fun _ _ h => .inr (.inr (.inl h)))).trans (hU183.mono (G' := fun b => (b = g60) ∨ (b = g71) ∨ (b = g164) ∨ (b = g170)) fun _ _ h => .inr (.inr (.inr h)))).trans (Frm.of_ext (G := fun b => (b = g60) ∨ (b = g71) ∨ (b = g164) ∨ (b = g170)) hE189)).trans (Frm.of_ext (G := fun b => (b = g60) ∨ (b = g71) ∨ (b = g164) ∨ (b = g170)) hE194)).trans (Frm.of_ext (G := fun b => (b = g60) ∨ (b = g71) ∨ (b = g164) ∨ (b = g170)) hE201)).trans (Frm.of_ext (G := fun b => (b = g60) ∨ (b = g71) ∨ (b = g164) ∨ (b = g170)) hE207)).trans (Frm.of_ext (G := fun b => (b = g60) ∨ (b = g71) ∨ (b = g164) ∨ (b = g170)) hE214)).trans (Frm.of_ext (G := fun b => (b = g60) ∨ (b = g71) ∨ (b = g164) ∨ (b = g170)) hE220)).trans (Frm.of_ext (G := fun b => (b = g60) ∨ (b = g71) ∨ (b = g164) ∨ (b = g170)) hE227)).trans (Frm.of_ext (G := fun b => (b = g60) ∨ (b = g71) ∨ (b = g164) ∨ (b = g170)) hE234)).trans (Frm.of_ext (G := fun b => (b = g60) ∨ (b = g71) ∨ (b = g164) ∨ (b = g170)) hE240)).trans (Frm.of_ext (G := fun b => (b = g60) ∨ (b = g71) ∨ (b = g164) ∨ (b = g170)) hE246)).trans (Frm.of_ext (G := fun b => (b = g60) ∨ (b = g71) ∨ (b = g164) ∨ (b = g170)) hE252)).trans (Frm.of_ext (G := fun b => (b = g60) ∨ (b = g71) ∨ (b = g164) ∨ (b = g170)) hE259)).trans (Frm.of_ext (G := fun b => (b = g60) ∨ (b = g71) ∨ (b = g164) ∨ (b = g170)) hE265)) q1)
            refine dEv 38 rfl (v := (.agg #[(.bool gc), (.slice Ac nc cc)])) (fun _ hf => evLoadAB [(.bool gc), (.slice Ac nc cc)] agg46 sz46 rfl (hB267.ext hf) rfl) rfl rfl (by kernel_rfl) ?_
            refine dEv 40 rfl (v := (.slice Ar_43 nr_43 cr_43)) (fun _ _ => rfl) rfl rfl (by kernel_rfl) ?_
            refine dEv 41 rfl (v := (.agg #[(.bool gc), (.slice Ac nc cc)])) (fun _ hf => evLoadAB [(.bool gc), (.slice Ac nc cc)] agg46 sz46 rfl (hB267.ext hf) rfl) rfl rfl (by kernel_rfl) ?_
            have h268 := (h249.ext ((hE252.trans hE259).trans hE265))
            have h269 := (hc.frmB (((((((((((((((((((((((((((((((Frm.of_ext (G := fun b => (b = g60) ∨ (b = g71) ∨ (b = g164) ∨ (b = g170)) hE5).trans (Frm.of_ext (G := fun b => (b = g60) ∨ (b = g71) ∨ (b = g164) ∨ (b = g170)) hE12)).trans (Frm.of_ext (G := fun b => (b = g60) ∨ (b = g71) ∨ (b = g164) ∨ (b = g170)) hE17)).trans (Frm.of_ext (G := fun b => (b = g60) ∨ (b = g71) ∨ (b = g164) ∨ (b = g170)) hE27)).trans (Frm.of_ext (G := fun b => (b = g60) ∨ (b = g71) ∨ (b = g164) ∨ (b = g170)) hE45)).trans (Frm.of_ext (G := fun b => (b = g60) ∨ (b = g71) ∨ (b = g164) ∨ (b = g170)) hE51)).trans (Frm.of_ext (G := fun b => (b = g60) ∨ (b = g71) ∨ (b = g164) ∨ (b = g170)) hE57)).trans (Frm.of_ext (G := fun b => (b = g60) ∨ (b = g71) ∨ (b = g164) ∨ (b = g170)) hE63)).trans (hU67.mono (G' := fun b => (b = g60) ∨ (b = g71) ∨ (b = g164) ∨ (b = g170)) fun _ _ h => .inl h)).trans (Frm.of_ext (G := fun b => (b = g60) ∨ (b = g71) ∨ (b = g164) ∨ (b = g170)) hE74)).trans (hU78.mono (G' := fun b => (b = g60) ∨ (b = g71) ∨ (b = g164) ∨ (b = g170)) fun _ _ h => .inr (.inl h))).trans (hF93.mono (G' := fun b => (b = g60) ∨ (b = g71) ∨ (b = g164) ∨ (b = g170)) fun _ _ h => .inr (.inl h))).trans (Frm.of_ext (G := fun b => (b = g60) ∨ (b = g71) ∨ (b = g164) ∨ (b = g170)) hE155)).trans (Frm.of_ext (G := fun b => (b = g60) ∨ (b = g71) ∨ (b = g164) ∨ (b = g170)) hE161)).trans (Frm.of_ext (G := fun b => (b = g60) ∨ (b = g71) ∨ (b = g164) ∨ (b = g170)) hE167)).trans (Frm.of_ext (G := fun b => (b = g60) ∨ (b = g71) ∨ (b = g164) ∨ (b = g170)) hE173)).trans (hU178.mono (G' := fun b => (b = g60) ∨ (b = g71) ∨ (b = g164) ∨ (b = g170)) fun _ _ h => .inr (.inr (.inl h)))).trans (hU183.mono (G' := fun b => (b = g60) ∨ (b = g71) ∨ (b = g164) ∨ (b = g170)) fun _ _ h => .inr (.inr (.inr h)))).trans (Frm.of_ext (G := fun b => (b = g60) ∨ (b = g71) ∨ (b = g164) ∨ (b = g170)) hE189)).trans (Frm.of_ext (G := fun b => (b = g60) ∨ (b = g71) ∨ (b = g164) ∨ (b = g170)) hE194)).trans (Frm.of_ext (G := fun b => (b = g60) ∨ (b = g71) ∨ (b = g164) ∨ (b = g170)) hE201)).trans (Frm.of_ext (G := fun b => (b = g60) ∨ (b = g71) ∨ (b = g164) ∨ (b = g170)) hE207)).trans (Frm.of_ext (G := fun b => (b = g60) ∨ (b = g71) ∨ (b = g164) ∨ (b = g170)) hE214)).trans (Frm.of_ext (G := fun b => (b = g60) ∨ (b = g71) ∨ (b = g164) ∨ (b = g170)) hE220)).trans (Frm.of_ext (G := fun b => (b = g60) ∨ (b = g71) ∨ (b = g164) ∨ (b = g170)) hE227)).trans (Frm.of_ext (G := fun b => (b = g60) ∨ (b = g71) ∨ (b = g164) ∨ (b = g170)) hE234)).trans (Frm.of_ext (G := fun b => (b = g60) ∨ (b = g71) ∨ (b = g164) ∨ (b = g170)) hE240)).trans (Frm.of_ext (G := fun b => (b = g60) ∨ (b = g71) ∨ (b = g164) ∨ (b = g170)) hE246)).trans (Frm.of_ext (G := fun b => (b = g60) ∨ (b = g71) ∨ (b = g164) ∨ (b = g170)) hE252)).trans (Frm.of_ext (G := fun b => (b = g60) ∨ (b = g71) ∨ (b = g164) ∨ (b = g170)) hE259)).trans (Frm.of_ext (G := fun b => (b = g60) ∨ (b = g71) ∨ (b = g164) ∨ (b = g170)) hE265)) q3)
            refine dOp 39 rfl rfl (by kernel_rfl) (oCall rfl call41 (unipoly_Scale h268 h269 (by omega) (by omega) (by omega)) rfl ?_)
            rintro _ w271 ⟨Ar_270, nr_270, cr_270, lr_270, rfl, hE272, hr_270, e_270, ln_270, cn_270⟩
            refine ⟨(Frm.of_ext hE272), ?_⟩
            have hz273 := hE272.size
            have kr_270 := hr_270.len; have jr_270 := hr_270.cap; have mr_270 := hr_270.max
            have h275 := (h269.ext hE272)
            refine dOp 42 rfl rfl (by kernel_rfl) (oCall rfl call26 (law08_z h275 (by omega)) rfl ?_)
            rintro _ w277 ⟨sr_276, Ar_276, nr_276, cr_276, zr_276, rfl, hE278, hr_276, v_276, le_276⟩
            refine ⟨(Frm.of_ext hE278), ?_⟩
            have hz279 := hE278.size
            have sgr_276 := hr_276.1; have kr_276 := hr_276.cap; have mr_276 := hr_276.max
            have h281 := (h255.ext (((hE259.trans hE265).trans hE272).trans hE278))
            refine dOp 43 rfl rfl (by kernel_rfl) (oCall rfl call39 (ref08_Scale h281 hr_276 (by omega) (by omega) (by omega)) rfl ?_)
            rintro _ w283 ⟨Ar_282, nr_282, cr_282, fr_282, rfl, hE284, hr_282, e_282, ln_282⟩
            refine ⟨(Frm.of_ext hE284), ?_⟩
            have hz285 := hE284.size
            have lr_282 := hr_282.len; have kr_282 := hr_282.cap; have mr_282 := hr_282.max
            replace hr_282 := hr_282.low
            have hQq5 : zs lr_270 = fr_282 := by rw [e_270, e_282, e_43, v_276]; exact law_scale _ _
            have h287 := (hr_270.ext (hE278.trans hE284))
            refine dOp 44 rfl rfl (by kernel_rfl) (oCall rfl call17 (law08_Is h287 hr_282 (by omega) (by assumption) (by assumption)) rfl ?_)
            rintro _ w289 ⟨gr_288, rfl, hE290, e_288⟩
            refine ⟨(Frm.of_ext hE290), ?_⟩
            have hz291 := hE290.size
            obtain rfl : gr_288 = true := e_288
            refine dEv 45 rfl (v := (.bool false)) (fun _ _ => evNot _ rfl rfl) rfl rfl (by kernel_rfl) ?_
            refine dEv 46 rfl (v := (.bool false)) (fun _ _ => rfl) rfl rfl (by kernel_rfl) ?_
            refine dDone (by kernel_rfl) ?_
            refine xN (hK187 _ _ ?_)
            refine cF rfl ?_
            refine wp_skip ?_
            refine xN (hK186 _ _ ?_)
            refine wp_seq_k fun K292 hK292 => ?_
            refine dBegin (fun _ => False) mixed ?_
            intro w293 hE294 hz295
            refine dEv 0 rfl (v := (.slice Af nf cf)) (fun _ _ => rfl) rfl rfl (by kernel_rfl) ?_
            refine dEv 2 rfl (v := (.slice Ar_43 nr_43 cr_43)) (fun _ _ => rfl) rfl rfl (by kernel_rfl) ?_
            refine dEv 3 rfl (v := (.int .i64 ((nr_43 : Int)))) (fun _ _ => evLen Try.underlying27 rfl) rfl rfl (by kernel_rfl) ?_
            refine dEv 4 rfl (v := (.int .i64 (((nr_43 : Int)) - 1))) (fun _ _ => evSub (((nr_43 : Int)) - 1) rfl rfl (wI64 (by omega))) rfl rfl (by kernel_rfl) ?_
            have h296 := (h268.ext ((((hE272.trans hE278).trans hE284).trans hE290).trans hE294))
            refine dOp 1 rfl rfl (by kernel_rfl) (oCall rfl call42 (unipoly_Degree h296 (by omega) (by omega)) rfl ?_)
            rintro _ w298 ⟨xr_297, rfl, hE299, e_297⟩
            refine ⟨(Frm.of_ext hE299), ?_⟩
            have hz300 := hE299.size
            refine dEv 5 rfl (v := (.bool true)) (fun _ _ => evEql true rfl rfl (dT (by rw [e_297, ← e_43, lr_43]))) rfl rfl (by kernel_rfl) ?_
            refine dEv 6 rfl (v := (.bool true)) (fun _ _ => rfl) rfl rfl (by kernel_rfl) ?_
            refine dEv 7 rfl (v := (.pointer (some ⟨g170, 0, none⟩))) (fun _ _ => evFA 0 fa46_0 rfl rfl) rfl rfl (by kernel_rfl) ?_
            have hB301 := (hB185.ext ((((((((((((((((((hE189.trans hE194).trans hE201).trans hE207).trans hE214).trans hE220).trans hE227).trans hE234).trans hE240).trans hE246).trans hE252).trans hE259).trans hE265).trans hE272).trans hE278).trans hE284).trans hE290).trans hE294).trans hE299))
            refine dEv 8 rfl (v := (.bool gr_159)) (fun _ hf => evLoadB one4 rfl (hB301.ext hf) rfl) rfl rfl (by kernel_rfl) ?_
            refine dEv 9 rfl (v := (.pointer (some ⟨g170, 1, none⟩))) (fun _ _ => evFA 1 fa46_1 rfl rfl) rfl rfl (by kernel_rfl) ?_
            refine dEv 10 rfl (v := (.slice Ar_159 nr_159 cr_159)) (fun _ hf => evLoadB one44 rfl (hB301.ext hf) rfl) rfl rfl (by kernel_rfl) ?_
            refine dEv 11 rfl (v := (.slice Ar_43 nr_43 cr_43)) (fun _ _ => rfl) rfl rfl (by kernel_rfl) ?_
            refine dEv 12 rfl (v := (.slice Ar_43 nr_43 cr_43)) (fun _ _ => rfl) rfl rfl (by kernel_rfl) ?_
            refine dEv 13 rfl (v := (.int .i64 ((nr_43 : Int)))) (fun _ _ => evLen Try.underlying27 rfl) rfl rfl (by kernel_rfl) ?_
            refine dEv 14 rfl (v := (.int .i64 (((nr_43 : Int)) - 1))) (fun _ _ => evSub (((nr_43 : Int)) - 1) rfl rfl (wI64 (by omega))) rfl rfl (by kernel_rfl) ?_
            have h302 := (h281.ext (((hE284.trans hE290).trans hE294).trans hE299))
            refine dOp 15 rfl rfl (by kernel_rfl) (oCall rfl call44 (ref08_At h302) rfl ?_)
            rintro _ w304 ⟨sr_303, Ar_303, nr_303, cr_303, zr_303, rfl, hE305, hr_303, v_303, le_303⟩
            refine ⟨(Frm.of_ext hE305), ?_⟩
            have hz306 := hE305.size
            have sgr_303 := hr_303.1; have kr_303 := hr_303.cap; have mr_303 := hr_303.max
            have hQq6 : zval gr_159 dr_159 = zr_303 := by rw [v_159, v_303, ← e_43, lr_43]
            have h308 := (hr_159.frmB ((((((((((((((((((((((((Frm.of_ext (G := fun b => (b = g164) ∨ (b = g170)) hE167).trans (Frm.of_ext (G := fun b => (b = g164) ∨ (b = g170)) hE173)).trans (hU178.mono (G' := fun b => (b = g164) ∨ (b = g170)) fun _ _ h => .inl h)).trans (hU183.mono (G' := fun b => (b = g164) ∨ (b = g170)) fun _ _ h => .inr h)).trans (Frm.of_ext (G := fun b => (b = g164) ∨ (b = g170)) hE189)).trans (Frm.of_ext (G := fun b => (b = g164) ∨ (b = g170)) hE194)).trans (Frm.of_ext (G := fun b => (b = g164) ∨ (b = g170)) hE201)).trans (Frm.of_ext (G := fun b => (b = g164) ∨ (b = g170)) hE207)).trans (Frm.of_ext (G := fun b => (b = g164) ∨ (b = g170)) hE214)).trans (Frm.of_ext (G := fun b => (b = g164) ∨ (b = g170)) hE220)).trans (Frm.of_ext (G := fun b => (b = g164) ∨ (b = g170)) hE227)).trans (Frm.of_ext (G := fun b => (b = g164) ∨ (b = g170)) hE234)).trans (Frm.of_ext (G := fun b => (b = g164) ∨ (b = g170)) hE240)).trans (Frm.of_ext (G := fun b => (b = g164) ∨ (b = g170)) hE246)).trans (Frm.of_ext (G := fun b => (b = g164) ∨ (b = g170)) hE252)).trans (Frm.of_ext (G := fun b => (b = g164) ∨ (b = g170)) hE259)).trans (Frm.of_ext (G := fun b => (b = g164) ∨ (b = g170)) hE265)).trans (Frm.of_ext (G := fun b => (b = g164) ∨ (b = g170)) hE272)).trans (Frm.of_ext (G := fun b => (b = g164) ∨ (b = g170)) hE278)).trans (Frm.of_ext (G := fun b => (b = g164) ∨ (b = g170)) hE284)).trans (Frm.of_ext (G := fun b => (b = g164) ∨ (b = g170)) hE290)).trans (Frm.of_ext (G := fun b => (b = g164) ∨ (b = g170)) hE294)).trans (Frm.of_ext (G := fun b => (b = g164) ∨ (b = g170)) hE299)).trans (Frm.of_ext (G := fun b => (b = g164) ∨ (b = g170)) hE305)) q3)
            refine dOp 16 rfl rfl (by kernel_rfl) (oCall rfl call43 (ref02_Is h308 hr_303 (by omega) (by assumption) (by assumption)) rfl ?_)
            rintro _ w310 ⟨gr_309, rfl, hE311, e_309⟩
            refine ⟨(Frm.of_ext hE311), ?_⟩
            have hz312 := hE311.size
            obtain rfl : gr_309 = true := e_309
            refine dEv 17 rfl (v := (.bool true)) (fun _ _ => rfl) rfl rfl (by kernel_rfl) ?_
            refine dEv 18 rfl (v := (.bool true)) (fun _ _ => rfl) rfl rfl (by kernel_rfl) ?_
            refine dEv 19 rfl (v := (.slice Af nf cf)) (fun _ _ => rfl) rfl rfl (by kernel_rfl) ?_
            refine dEv 20 rfl (v := (.slice Ag ng cg)) (fun _ _ => rfl) rfl rfl (by kernel_rfl) ?_
            refine dEv 22 rfl (v := (.slice Ar_43 nr_43 cr_43)) (fun _ _ => rfl) rfl rfl (by kernel_rfl) ?_
            refine dEv 23 rfl (v := (.slice Ar_49 nr_49 cr_49)) (fun _ _ => rfl) rfl rfl (by kernel_rfl) ?_
            have h313 := (h296.ext ((hE299.trans hE305).trans hE311))
            have h314 := (h224.ext ((((((((((((((hE227.trans hE234).trans hE240).trans hE246).trans hE252).trans hE259).trans hE265).trans hE272).trans hE278).trans hE284).trans hE290).trans hE294).trans hE299).trans hE305).trans hE311))
            refine dOp 21 rfl rfl (by kernel_rfl) (oCall rfl call23 (unipoly_Same h313 h314) rfl ?_)
            rintro _ w316 ⟨gr_315, rfl, hE317, e_315⟩
            refine ⟨(Frm.of_ext hE317), ?_⟩
            have hz318 := hE317.size
            have h319 := (h302.ext ((hE305.trans hE311).trans hE317))
            have h320 := (h230.ext ((((((((((((((hE234.trans hE240).trans hE246).trans hE252).trans hE259).trans hE265).trans hE272).trans hE278).trans hE284).trans hE290).trans hE294).trans hE299).trans hE305).trans hE311).trans hE317))
            refine dOp 24 rfl rfl (by kernel_rfl) (oCall rfl call45 (ref08_Same h319 h320 (by omega) (by omega)) rfl ?_)
            rintro _ w322 ⟨gr_321, rfl, hE323, e_321⟩
            refine ⟨(Frm.of_ext hE323), ?_⟩
            have hz324 := hE323.size
            refine dEv 25 rfl (v := (.bool (gr_315 == gr_321))) (fun _ _ => evEqlB _ Try.underlying4 rfl rfl rfl) rfl rfl (by kernel_rfl) ?_
            have hst : (gr_315 == gr_321) = true := by rw [e_315, e_321, e_43, e_49]; simp
            rw [hst]
            refine dEv 26 rfl (v := (.bool true)) (fun _ _ => rfl) rfl rfl (by kernel_rfl) ?_
            refine dEv 27 rfl (v := (.bool true)) (fun _ _ => rfl) rfl rfl (by kernel_rfl) ?_
            refine dEv 28 rfl (v := (.slice Af nf cf)) (fun _ _ => rfl) rfl rfl (by kernel_rfl) ?_
            refine dEv 29 rfl (v := (.slice Ag ng cg)) (fun _ _ => rfl) rfl rfl (by kernel_rfl) ?_
            refine dEv 31 rfl (v := (.slice Ar_43 nr_43 cr_43)) (fun _ _ => rfl) rfl rfl (by kernel_rfl) ?_
            refine dEv 32 rfl (v := (.slice Ar_49 nr_49 cr_49)) (fun _ _ => rfl) rfl rfl (by kernel_rfl) ?_
            have h325 := (h313.ext (hE317.trans hE323))
            have h326 := (h314.ext (hE317.trans hE323))
            refine dOp 30 rfl rfl (by kernel_rfl) (oCall rfl call46 (unipoly_Compare h325 h326) rfl ?_)
            rintro _ w328 ⟨xr_327, rfl, hE329, e_327⟩
            refine ⟨(Frm.of_ext hE329), ?_⟩
            have hz330 := hE329.size
            have h331 := (h319.ext (hE323.trans hE329))
            have h332 := (h320.ext (hE323.trans hE329))
            refine dOp 33 rfl rfl (by kernel_rfl) (oCall rfl call47 (ref08_Compare h331 h332 (by omega) (by omega)) rfl ?_)
            rintro _ w334 ⟨xr_333, rfl, hE335, e_333⟩
            refine ⟨(Frm.of_ext hE335), ?_⟩
            have hz336 := hE335.size
            refine dEv 34 rfl (v := (.bool true)) (fun _ _ => evEql true rfl rfl (dT (by rw [e_327, e_333, e_43, e_49]))) rfl rfl (by kernel_rfl) ?_
            refine dEv 35 rfl (v := (.bool true)) (fun _ _ => rfl) rfl rfl (by kernel_rfl) ?_
            refine dEv 36 rfl (v := (.bool true)) (fun _ _ => rfl) rfl rfl (by kernel_rfl) ?_
            refine dEv 37 rfl (v := (.pointer (some ⟨g164, 0, none⟩))) (fun _ _ => evFA 0 fa46_0 rfl rfl) rfl rfl (by kernel_rfl) ?_
            have hB337 := (hB180.frm (((((((((((((((((((((((((hU183.trans (Frm.of_ext (G := fun b => (b = g170)) hE189)).trans (Frm.of_ext (G := fun b => (b = g170)) hE194)).trans (Frm.of_ext (G := fun b => (b = g170)) hE201)).trans (Frm.of_ext (G := fun b => (b = g170)) hE207)).trans (Frm.of_ext (G := fun b => (b = g170)) hE214)).trans (Frm.of_ext (G := fun b => (b = g170)) hE220)).trans (Frm.of_ext (G := fun b => (b = g170)) hE227)).trans (Frm.of_ext (G := fun b => (b = g170)) hE234)).trans (Frm.of_ext (G := fun b => (b = g170)) hE240)).trans (Frm.of_ext (G := fun b => (b = g170)) hE246)).trans (Frm.of_ext (G := fun b => (b = g170)) hE252)).trans (Frm.of_ext (G := fun b => (b = g170)) hE259)).trans (Frm.of_ext (G := fun b => (b = g170)) hE265)).trans (Frm.of_ext (G := fun b => (b = g170)) hE272)).trans (Frm.of_ext (G := fun b => (b = g170)) hE278)).trans (Frm.of_ext (G := fun b => (b = g170)) hE284)).trans (Frm.of_ext (G := fun b => (b = g170)) hE290)).trans (Frm.of_ext (G := fun b => (b = g170)) hE294)).trans (Frm.of_ext (G := fun b => (b = g170)) hE299)).trans (Frm.of_ext (G := fun b => (b = g170)) hE305)).trans (Frm.of_ext (G := fun b => (b = g170)) hE311)).trans (Frm.of_ext (G := fun b => (b = g170)) hE317)).trans (Frm.of_ext (G := fun b => (b = g170)) hE323)).trans (Frm.of_ext (G := fun b => (b = g170)) hE329)).trans (Frm.of_ext (G := fun b => (b = g170)) hE335)) q1)
            refine dEv 38 rfl (v := (.bool gr_153)) (fun _ hf => evLoadB one4 rfl (hB337.ext hf) rfl) rfl rfl (by kernel_rfl) ?_
            refine dEv 39 rfl (v := (.pointer (some ⟨g164, 1, none⟩))) (fun _ _ => evFA 1 fa46_1 rfl rfl) rfl rfl (by kernel_rfl) ?_
            refine dEv 40 rfl (v := (.slice Ar_153 nr_153 cr_153)) (fun _ hf => evLoadB one44 rfl (hB337.ext hf) rfl) rfl rfl (by kernel_rfl) ?_
            have hB338 := (hB94.frm (((((((((((((((((((((((((((((((Frm.of_ext (G := fun b => (b = g164) ∨ (b = g170)) hE155).trans (Frm.of_ext (G := fun b => (b = g164) ∨ (b = g170)) hE161)).trans (Frm.of_ext (G := fun b => (b = g164) ∨ (b = g170)) hE167)).trans (Frm.of_ext (G := fun b => (b = g164) ∨ (b = g170)) hE173)).trans (hU178.mono (G' := fun b => (b = g164) ∨ (b = g170)) fun _ _ h => .inl h)).trans (hU183.mono (G' := fun b => (b = g164) ∨ (b = g170)) fun _ _ h => .inr h)).trans (Frm.of_ext (G := fun b => (b = g164) ∨ (b = g170)) hE189)).trans (Frm.of_ext (G := fun b => (b = g164) ∨ (b = g170)) hE194)).trans (Frm.of_ext (G := fun b => (b = g164) ∨ (b = g170)) hE201)).trans (Frm.of_ext (G := fun b => (b = g164) ∨ (b = g170)) hE207)).trans (Frm.of_ext (G := fun b => (b = g164) ∨ (b = g170)) hE214)).trans (Frm.of_ext (G := fun b => (b = g164) ∨ (b = g170)) hE220)).trans (Frm.of_ext (G := fun b => (b = g164) ∨ (b = g170)) hE227)).trans (Frm.of_ext (G := fun b => (b = g164) ∨ (b = g170)) hE234)).trans (Frm.of_ext (G := fun b => (b = g164) ∨ (b = g170)) hE240)).trans (Frm.of_ext (G := fun b => (b = g164) ∨ (b = g170)) hE246)).trans (Frm.of_ext (G := fun b => (b = g164) ∨ (b = g170)) hE252)).trans (Frm.of_ext (G := fun b => (b = g164) ∨ (b = g170)) hE259)).trans (Frm.of_ext (G := fun b => (b = g164) ∨ (b = g170)) hE265)).trans (Frm.of_ext (G := fun b => (b = g164) ∨ (b = g170)) hE272)).trans (Frm.of_ext (G := fun b => (b = g164) ∨ (b = g170)) hE278)).trans (Frm.of_ext (G := fun b => (b = g164) ∨ (b = g170)) hE284)).trans (Frm.of_ext (G := fun b => (b = g164) ∨ (b = g170)) hE290)).trans (Frm.of_ext (G := fun b => (b = g164) ∨ (b = g170)) hE294)).trans (Frm.of_ext (G := fun b => (b = g164) ∨ (b = g170)) hE299)).trans (Frm.of_ext (G := fun b => (b = g164) ∨ (b = g170)) hE305)).trans (Frm.of_ext (G := fun b => (b = g164) ∨ (b = g170)) hE311)).trans (Frm.of_ext (G := fun b => (b = g164) ∨ (b = g170)) hE317)).trans (Frm.of_ext (G := fun b => (b = g164) ∨ (b = g170)) hE323)).trans (Frm.of_ext (G := fun b => (b = g164) ∨ (b = g170)) hE329)).trans (Frm.of_ext (G := fun b => (b = g164) ∨ (b = g170)) hE335)) q1)
            refine dEv 41 rfl (v := (.agg #[(.int .i64 (sh)), (.slice Ah nh ch)])) (fun _ hf => evLoadAB [(.int .i64 (sh)), (.slice Ah nh ch)] agg31 sz31 rfl (hB338.ext hf) rfl) rfl rfl (by kernel_rfl) ?_
            have hQq7 : zval gr_153 dr_153 = zh := by rw [v_153, hvh, List.take_of_length_le (by omega), e_43, hgt_trim]
            have h339 := (hr_153.frmB ((((((((((((((((((((((((((((((Frm.of_ext (G := fun b => (b = g164) ∨ (b = g170)) hE161).trans (Frm.of_ext (G := fun b => (b = g164) ∨ (b = g170)) hE167)).trans (Frm.of_ext (G := fun b => (b = g164) ∨ (b = g170)) hE173)).trans (hU178.mono (G' := fun b => (b = g164) ∨ (b = g170)) fun _ _ h => .inl h)).trans (hU183.mono (G' := fun b => (b = g164) ∨ (b = g170)) fun _ _ h => .inr h)).trans (Frm.of_ext (G := fun b => (b = g164) ∨ (b = g170)) hE189)).trans (Frm.of_ext (G := fun b => (b = g164) ∨ (b = g170)) hE194)).trans (Frm.of_ext (G := fun b => (b = g164) ∨ (b = g170)) hE201)).trans (Frm.of_ext (G := fun b => (b = g164) ∨ (b = g170)) hE207)).trans (Frm.of_ext (G := fun b => (b = g164) ∨ (b = g170)) hE214)).trans (Frm.of_ext (G := fun b => (b = g164) ∨ (b = g170)) hE220)).trans (Frm.of_ext (G := fun b => (b = g164) ∨ (b = g170)) hE227)).trans (Frm.of_ext (G := fun b => (b = g164) ∨ (b = g170)) hE234)).trans (Frm.of_ext (G := fun b => (b = g164) ∨ (b = g170)) hE240)).trans (Frm.of_ext (G := fun b => (b = g164) ∨ (b = g170)) hE246)).trans (Frm.of_ext (G := fun b => (b = g164) ∨ (b = g170)) hE252)).trans (Frm.of_ext (G := fun b => (b = g164) ∨ (b = g170)) hE259)).trans (Frm.of_ext (G := fun b => (b = g164) ∨ (b = g170)) hE265)).trans (Frm.of_ext (G := fun b => (b = g164) ∨ (b = g170)) hE272)).trans (Frm.of_ext (G := fun b => (b = g164) ∨ (b = g170)) hE278)).trans (Frm.of_ext (G := fun b => (b = g164) ∨ (b = g170)) hE284)).trans (Frm.of_ext (G := fun b => (b = g164) ∨ (b = g170)) hE290)).trans (Frm.of_ext (G := fun b => (b = g164) ∨ (b = g170)) hE294)).trans (Frm.of_ext (G := fun b => (b = g164) ∨ (b = g170)) hE299)).trans (Frm.of_ext (G := fun b => (b = g164) ∨ (b = g170)) hE305)).trans (Frm.of_ext (G := fun b => (b = g164) ∨ (b = g170)) hE311)).trans (Frm.of_ext (G := fun b => (b = g164) ∨ (b = g170)) hE317)).trans (Frm.of_ext (G := fun b => (b = g164) ∨ (b = g170)) hE323)).trans (Frm.of_ext (G := fun b => (b = g164) ∨ (b = g170)) hE329)).trans (Frm.of_ext (G := fun b => (b = g164) ∨ (b = g170)) hE335)) q3)
            have h340 := (hN.frmB (((((((((((((((((((((((((((((((Frm.of_ext (G := fun b => (b = g164) ∨ (b = g170)) hE155).trans (Frm.of_ext (G := fun b => (b = g164) ∨ (b = g170)) hE161)).trans (Frm.of_ext (G := fun b => (b = g164) ∨ (b = g170)) hE167)).trans (Frm.of_ext (G := fun b => (b = g164) ∨ (b = g170)) hE173)).trans (hU178.mono (G' := fun b => (b = g164) ∨ (b = g170)) fun _ _ h => .inl h)).trans (hU183.mono (G' := fun b => (b = g164) ∨ (b = g170)) fun _ _ h => .inr h)).trans (Frm.of_ext (G := fun b => (b = g164) ∨ (b = g170)) hE189)).trans (Frm.of_ext (G := fun b => (b = g164) ∨ (b = g170)) hE194)).trans (Frm.of_ext (G := fun b => (b = g164) ∨ (b = g170)) hE201)).trans (Frm.of_ext (G := fun b => (b = g164) ∨ (b = g170)) hE207)).trans (Frm.of_ext (G := fun b => (b = g164) ∨ (b = g170)) hE214)).trans (Frm.of_ext (G := fun b => (b = g164) ∨ (b = g170)) hE220)).trans (Frm.of_ext (G := fun b => (b = g164) ∨ (b = g170)) hE227)).trans (Frm.of_ext (G := fun b => (b = g164) ∨ (b = g170)) hE234)).trans (Frm.of_ext (G := fun b => (b = g164) ∨ (b = g170)) hE240)).trans (Frm.of_ext (G := fun b => (b = g164) ∨ (b = g170)) hE246)).trans (Frm.of_ext (G := fun b => (b = g164) ∨ (b = g170)) hE252)).trans (Frm.of_ext (G := fun b => (b = g164) ∨ (b = g170)) hE259)).trans (Frm.of_ext (G := fun b => (b = g164) ∨ (b = g170)) hE265)).trans (Frm.of_ext (G := fun b => (b = g164) ∨ (b = g170)) hE272)).trans (Frm.of_ext (G := fun b => (b = g164) ∨ (b = g170)) hE278)).trans (Frm.of_ext (G := fun b => (b = g164) ∨ (b = g170)) hE284)).trans (Frm.of_ext (G := fun b => (b = g164) ∨ (b = g170)) hE290)).trans (Frm.of_ext (G := fun b => (b = g164) ∨ (b = g170)) hE294)).trans (Frm.of_ext (G := fun b => (b = g164) ∨ (b = g170)) hE299)).trans (Frm.of_ext (G := fun b => (b = g164) ∨ (b = g170)) hE305)).trans (Frm.of_ext (G := fun b => (b = g164) ∨ (b = g170)) hE311)).trans (Frm.of_ext (G := fun b => (b = g164) ∨ (b = g170)) hE317)).trans (Frm.of_ext (G := fun b => (b = g164) ∨ (b = g170)) hE323)).trans (Frm.of_ext (G := fun b => (b = g164) ∨ (b = g170)) hE329)).trans (Frm.of_ext (G := fun b => (b = g164) ∨ (b = g170)) hE335)) q3)
            refine dOp 42 rfl rfl (by kernel_rfl) (oCall rfl call43 (ref02_Is h339 h340 (by omega) (by assumption) (by assumption)) rfl ?_)
            rintro _ w342 ⟨gr_341, rfl, hE343, e_341⟩
            refine ⟨(Frm.of_ext hE343), ?_⟩
            have hz344 := hE343.size
            obtain rfl : gr_341 = true := e_341
            refine dEv 43 rfl (v := (.bool true)) (fun _ _ => rfl) rfl rfl (by kernel_rfl) ?_
            refine dEv 44 rfl (v := (.bool true)) (fun _ _ => rfl) rfl rfl (by kernel_rfl) ?_
            refine dDone (by kernel_rfl) ?_
            refine xN (hK292 _ _ ?_)
            refine wp_ret ?_
            refine ret1 (.bool true) Try.results6 (resT rfl) ?_
            exact ⟨(true), rfl, (Frm.mono ((((((((((((((((((((((((((((((((((((((((((((Frm.of_ext (G := fun b => (b = g60) ∨ (b = g71) ∨ (b = g164) ∨ (b = g170)) hE5).trans (Frm.of_ext (G := fun b => (b = g60) ∨ (b = g71) ∨ (b = g164) ∨ (b = g170)) hE12)).trans (Frm.of_ext (G := fun b => (b = g60) ∨ (b = g71) ∨ (b = g164) ∨ (b = g170)) hE17)).trans (Frm.of_ext (G := fun b => (b = g60) ∨ (b = g71) ∨ (b = g164) ∨ (b = g170)) hE27)).trans (Frm.of_ext (G := fun b => (b = g60) ∨ (b = g71) ∨ (b = g164) ∨ (b = g170)) hE45)).trans (Frm.of_ext (G := fun b => (b = g60) ∨ (b = g71) ∨ (b = g164) ∨ (b = g170)) hE51)).trans (Frm.of_ext (G := fun b => (b = g60) ∨ (b = g71) ∨ (b = g164) ∨ (b = g170)) hE57)).trans (Frm.of_ext (G := fun b => (b = g60) ∨ (b = g71) ∨ (b = g164) ∨ (b = g170)) hE63)).trans (hU67.mono (G' := fun b => (b = g60) ∨ (b = g71) ∨ (b = g164) ∨ (b = g170)) fun _ _ h => .inl h)).trans (Frm.of_ext (G := fun b => (b = g60) ∨ (b = g71) ∨ (b = g164) ∨ (b = g170)) hE74)).trans (hU78.mono (G' := fun b => (b = g60) ∨ (b = g71) ∨ (b = g164) ∨ (b = g170)) fun _ _ h => .inr (.inl h))).trans (hF93.mono (G' := fun b => (b = g60) ∨ (b = g71) ∨ (b = g164) ∨ (b = g170)) fun _ _ h => .inr (.inl h))).trans (Frm.of_ext (G := fun b => (b = g60) ∨ (b = g71) ∨ (b = g164) ∨ (b = g170)) hE155)).trans (Frm.of_ext (G := fun b => (b = g60) ∨ (b = g71) ∨ (b = g164) ∨ (b = g170)) hE161)).trans (Frm.of_ext (G := fun b => (b = g60) ∨ (b = g71) ∨ (b = g164) ∨ (b = g170)) hE167)).trans (Frm.of_ext (G := fun b => (b = g60) ∨ (b = g71) ∨ (b = g164) ∨ (b = g170)) hE173)).trans (hU178.mono (G' := fun b => (b = g60) ∨ (b = g71) ∨ (b = g164) ∨ (b = g170)) fun _ _ h => .inr (.inr (.inl h)))).trans (hU183.mono (G' := fun b => (b = g60) ∨ (b = g71) ∨ (b = g164) ∨ (b = g170)) fun _ _ h => .inr (.inr (.inr h)))).trans (Frm.of_ext (G := fun b => (b = g60) ∨ (b = g71) ∨ (b = g164) ∨ (b = g170)) hE189)).trans (Frm.of_ext (G := fun b => (b = g60) ∨ (b = g71) ∨ (b = g164) ∨ (b = g170)) hE194)).trans (Frm.of_ext (G := fun b => (b = g60) ∨ (b = g71) ∨ (b = g164) ∨ (b = g170)) hE201)).trans (Frm.of_ext (G := fun b => (b = g60) ∨ (b = g71) ∨ (b = g164) ∨ (b = g170)) hE207)).trans (Frm.of_ext (G := fun b => (b = g60) ∨ (b = g71) ∨ (b = g164) ∨ (b = g170)) hE214)).trans (Frm.of_ext (G := fun b => (b = g60) ∨ (b = g71) ∨ (b = g164) ∨ (b = g170)) hE220)).trans (Frm.of_ext (G := fun b => (b = g60) ∨ (b = g71) ∨ (b = g164) ∨ (b = g170)) hE227)).trans (Frm.of_ext (G := fun b => (b = g60) ∨ (b = g71) ∨ (b = g164) ∨ (b = g170)) hE234)).trans (Frm.of_ext (G := fun b => (b = g60) ∨ (b = g71) ∨ (b = g164) ∨ (b = g170)) hE240)).trans (Frm.of_ext (G := fun b => (b = g60) ∨ (b = g71) ∨ (b = g164) ∨ (b = g170)) hE246)).trans (Frm.of_ext (G := fun b => (b = g60) ∨ (b = g71) ∨ (b = g164) ∨ (b = g170)) hE252)).trans (Frm.of_ext (G := fun b => (b = g60) ∨ (b = g71) ∨ (b = g164) ∨ (b = g170)) hE259)).trans (Frm.of_ext (G := fun b => (b = g60) ∨ (b = g71) ∨ (b = g164) ∨ (b = g170)) hE265)).trans (Frm.of_ext (G := fun b => (b = g60) ∨ (b = g71) ∨ (b = g164) ∨ (b = g170)) hE272)).trans (Frm.of_ext (G := fun b => (b = g60) ∨ (b = g71) ∨ (b = g164) ∨ (b = g170)) hE278)).trans (Frm.of_ext (G := fun b => (b = g60) ∨ (b = g71) ∨ (b = g164) ∨ (b = g170)) hE284)).trans (Frm.of_ext (G := fun b => (b = g60) ∨ (b = g71) ∨ (b = g164) ∨ (b = g170)) hE290)).trans (Frm.of_ext (G := fun b => (b = g60) ∨ (b = g71) ∨ (b = g164) ∨ (b = g170)) hE294)).trans (Frm.of_ext (G := fun b => (b = g60) ∨ (b = g71) ∨ (b = g164) ∨ (b = g170)) hE299)).trans (Frm.of_ext (G := fun b => (b = g60) ∨ (b = g71) ∨ (b = g164) ∨ (b = g170)) hE305)).trans (Frm.of_ext (G := fun b => (b = g60) ∨ (b = g71) ∨ (b = g164) ∨ (b = g170)) hE311)).trans (Frm.of_ext (G := fun b => (b = g60) ∨ (b = g71) ∨ (b = g164) ∨ (b = g170)) hE317)).trans (Frm.of_ext (G := fun b => (b = g60) ∨ (b = g71) ∨ (b = g164) ∨ (b = g170)) hE323)).trans (Frm.of_ext (G := fun b => (b = g60) ∨ (b = g71) ∨ (b = g164) ∨ (b = g170)) hE329)).trans (Frm.of_ext (G := fun b => (b = g60) ∨ (b = g71) ∨ (b = g164) ∨ (b = g170)) hE335)).trans (Frm.of_ext (G := fun b => (b = g60) ∨ (b = g71) ∨ (b = g164) ∨ (b = g170)) hE343)) q4), rfl⟩

end Go.Proofs.Ytppegjbdencefaa
