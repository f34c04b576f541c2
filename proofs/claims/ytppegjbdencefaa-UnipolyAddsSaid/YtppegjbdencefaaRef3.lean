/-
  Walks of package cylinderref02: integers.
-/
import Derived.Test.YtppegjbdencefaaRef2
import Derived.Test.YtppegjbdencefaaZPreds
namespace Go.Proofs.Ytppegjbdencefaa
open Go.RowKit Go.Gx
theorem ref02_Make {w : World} {gn : Bool} {Sb : Nat → Prop} {Ab : Option Addr} {nb cb : Nat} {db : List Nat} (hb : DigR 2 w Sb Ab nb cb db)  : Calls Try.prog 33 #[(.bool gn), (.slice Ab nb cb)] w (Ret fun v w' => ∃ (sr : Int) (Ar : Option Addr) (nr : Nat) (cr : Nat) (zr : Int), v = (.agg #[(.int .i64 (sr)), (.slice Ar nr cr)]) ∧ Ext w w' ∧ ZR w' (Sb) sr Ar nr cr zr ∧ (zr = sgnv gn (vb 2 db)) ∧ (nr ≤ nb)) := by
  have lb := hb.len; have kb := hb.cap; have mb := hb.max
  replace hb := hb.sub (S' := fun b => Sb b ∧ b < w.heap.size) fun _ hb hs => ⟨hs, hb⟩
  refine enter Try.func33 rfl Try.ntmps33 rfl ?_
  refine wp_seq_k fun K1 hK1 => ?_
  refine wp_region_lit ?_
  refine sOp rfl (oAlloc [(.int .i64 (0)), (.slice none 0 0)] zero31 rfl ?_)
  intro g2 w3 hg4 hE5 hz6 hB7
  refine sDone ?_
  refine xN (hK1 _ _ ?_)
  refine wp_seq_k fun K8 hK8 => ?_
  refine wp_region_lit ?_
  refine sEv (v := (.slice Ab nb cb)) (rfl) rfl rfl ?_
  have h9 := (hb.ext hE5)
  refine sOp rfl (oCall rfl call74 (ref01_Trim h9) rfl ?_)
  rintro _ w11 ⟨Ar_10, nr_10, cr_10, dr_10, rfl, hE12, hr_10, e_10, le_10⟩
  have hz13 := hE12.size
  have lr_10 := hr_10.len; have kr_10 := hr_10.cap; have mr_10 := hr_10.max
  refine sEv (v := (.slice Ar_10 nr_10 cr_10)) (rfl) rfl rfl ?_
  refine sDone ?_
  refine xN (hK8 _ _ ?_)
  refine wp_seq_k fun K15 hK15 => ?_
  refine wp_seq_k fun K16 hK16 => ?_
  refine wp_region_lit ?_
  refine sEv (v := (.slice Ar_10 nr_10 cr_10)) (rfl) rfl rfl ?_
  refine sEv (v := (.int .i64 ((nr_10 : Int)))) (evLen Try.underlying29 rfl) rfl rfl ?_
  by_cases hc17 : ((nr_10 : Int)) = 0
  · refine sEv (v := (.bool true)) (evEql true rfl rfl (dT hc17)) rfl rfl ?_
    refine sDone ?_
    refine xN (hK16 _ _ ?_)
    refine cT rfl ?_
    refine wp_seq_k fun K18 hK18 => ?_
    refine wp_region_lit ?_
    refine sEv (v := (.agg #[(.int .i64 (0)), (.slice none 0 0)])) (evK (by kernel_rfl)) rfl rfl ?_
    have hB19 := (hB7.ext hE12)
    refine sOp rfl (oStore [(.int .i64 (0)), (.slice none 0 0)] rfl rfl rfl sz31 rfl hB19 (Nat.le_of_ble_eq_true rfl) ?_)
    intro w20 hU21 hz22 hB23
    replace hB23 : Blk w20 g2 31 [(.int .i64 (0)), (.slice none 0 0)] := hB23
    refine sDone ?_
    refine xN (hK18 _ _ ?_)
    refine wp_ret (xR ?_)
    refine ret1 (.agg #[(.int .i64 (0)), (.slice none 0 0)]) Try.results33 (resB [(.int .i64 (0)), (.slice none 0 0)] agg31 sz31 rfl hB23) ?_
    exact ⟨0, none, 0, 0, 0, rfl, (Frm.mono (((Frm.of_ext (G := fun b => (b = g2)) hE5).trans (Frm.of_ext (G := fun b => (b = g2)) hE12)).trans hU21) q4), ZR.zero, (sgnv_zero e_10 (by omega)), (by omega)⟩
  · refine sEv (v := (.bool false)) (evEql false rfl rfl (dF hc17)) rfl rfl ?_
    refine sDone ?_
    refine xN (hK16 _ _ ?_)
    refine cF rfl ?_
    refine wp_skip ?_
    refine xN (hK15 _ _ ?_)
    refine wp_seq_k fun K24 hK24 => ?_
    refine wp_seq_k fun K25 hK25 => ?_
    refine wp_region_lit ?_
    refine sEv (v := (.bool gn)) (rfl) rfl rfl ?_
    refine sDone ?_
    refine xN (hK25 _ _ ?_)
    refine cB gn rfl ?_ ?_
    · intro hc26
      subst hc26
      refine wp_seq_k fun K27 hK27 => ?_
      refine wp_region_lit ?_
      refine sEv (v := (.slice Ar_10 nr_10 cr_10)) (rfl) rfl rfl ?_
      refine sEv (v := (.agg #[(.int .i64 ((-1))), (.slice Ar_10 nr_10 cr_10)])) (evK (by kernel_rfl)) rfl rfl ?_
      have hB28 := (hB7.ext hE12)
      refine sOp rfl (oStore [(.int .i64 ((-1))), (.slice Ar_10 nr_10 cr_10)] rfl rfl rfl sz31 rfl hB28 (Nat.le_of_ble_eq_true rfl) ?_)
      intro w29 hU30 hz31 hB32
      replace hB32 : Blk w29 g2 31 [(.int .i64 ((-1))), (.slice Ar_10 nr_10 cr_10)] := hB32
      refine sDone ?_
      refine xN (hK27 _ _ ?_)
      refine wp_ret (xR ?_)
      refine ret1 (.agg #[(.int .i64 ((-1))), (.slice Ar_10 nr_10 cr_10)]) Try.results33 (resB [(.int .i64 ((-1))), (.slice Ar_10 nr_10 cr_10)] agg31 sz31 rfl hB32) ?_
      have h33 := (hr_10.frmB hU30 q3)
      exact ⟨((-1)), Ar_10, nr_10, cr_10, (sgnv true (vb 2 db)), rfl, (Frm.mono (((Frm.of_ext (G := fun b => (b = g2)) hE5).trans (Frm.of_ext (G := fun b => (b = g2)) hE12)).trans hU30) q4), (ZR.sub (ZR.make h33 e_10 (by omega) rfl) fun _ _ h => h.1), rfl, (by omega)⟩
    · intro hc26
      subst hc26
      refine wp_skip ?_
      refine xN (hK24 _ _ ?_)
      refine wp_seq_k fun K34 hK34 => ?_
      refine wp_region_lit ?_
      refine sEv (v := (.slice Ar_10 nr_10 cr_10)) (rfl) rfl rfl ?_
      refine sEv (v := (.agg #[(.int .i64 (1)), (.slice Ar_10 nr_10 cr_10)])) (evK (by kernel_rfl)) rfl rfl ?_
      have hB35 := (hB7.ext hE12)
      refine sOp rfl (oStore [(.int .i64 (1)), (.slice Ar_10 nr_10 cr_10)] rfl rfl rfl sz31 rfl hB35 (Nat.le_of_ble_eq_true rfl) ?_)
      intro w36 hU37 hz38 hB39
      replace hB39 : Blk w36 g2 31 [(.int .i64 (1)), (.slice Ar_10 nr_10 cr_10)] := hB39
      refine sDone ?_
      refine xN (hK34 _ _ ?_)
      refine wp_ret ?_
      refine ret1 (.agg #[(.int .i64 (1)), (.slice Ar_10 nr_10 cr_10)]) Try.results33 (resB [(.int .i64 (1)), (.slice Ar_10 nr_10 cr_10)] agg31 sz31 rfl hB39) ?_
      have h40 := (hr_10.frmB hU37 q3)
      exact ⟨(1), Ar_10, nr_10, cr_10, (sgnv false (vb 2 db)), rfl, (Frm.mono (((Frm.of_ext (G := fun b => (b = g2)) hE5).trans (Frm.of_ext (G := fun b => (b = g2)) hE12)).trans hU37) q4), (ZR.sub (ZR.make h40 e_10 (by omega) rfl) fun _ _ h => h.1), rfl, (by omega)⟩

theorem ref02_Of {w : World} {gn : Bool} {Sa : Nat → Prop} {Aa : Option Addr} {na ca : Nat} {da : List Nat} (ha : NatR w Sa Aa na ca da) (hna : na ≤ 1048576) : Calls Try.prog 65 #[(.bool gn), (.slice Aa na ca)] w (Ret fun v w' => ∃ (sr : Int) (Ar : Option Addr) (nr : Nat) (cr : Nat) (zr : Int), v = (.agg #[(.int .i64 (sr)), (.slice Ar nr cr)]) ∧ Ext w w' ∧ ZR w' (fun b => w.heap.size ≤ b) sr Ar nr cr zr ∧ (zr = zval gn da) ∧ (nr ≤ 32 * na)) := by
  have la := ha.len; have ka := ha.cap; have ma := ha.max
  replace ha := ha.low
  refine enter Try.func65 rfl Try.ntmps65 rfl ?_
  refine wp_seq_k fun K1 hK1 => ?_
  refine wp_region_lit ?_
  refine sOp rfl (oAlloc [(.int .i64 (0)), (.slice none 0 0)] zero31 rfl ?_)
  intro g2 w3 hg4 hE5 hz6 hB7
  refine sDone ?_
  refine xN (hK1 _ _ ?_)
  refine wp_seq_k fun K8 hK8 => ?_
  refine wp_region_lit ?_
  refine sEv (v := (.bool gn)) (rfl) rfl rfl ?_
  refine sEv (v := (.slice Aa na ca)) (rfl) rfl rfl ?_
  have h9 := (ha.ext hE5)
  refine sOp rfl (oCall rfl call95 (ref01_Of h9 (by omega)) rfl ?_)
  rintro _ w11 ⟨Ar_10, nr_10, cr_10, dr_10, rfl, hE12, hr_10, v_10, cn_10, le_10⟩
  have hz13 := hE12.size
  have lr_10 := hr_10.len; have kr_10 := hr_10.cap; have mr_10 := hr_10.max
  refine sOp rfl (oCall rfl call33 (ref02_Make hr_10) rfl ?_)
  rintro _ w16 ⟨sr_15, Ar_15, nr_15, cr_15, zr_15, rfl, hE17, hr_15, v_15, le_15⟩
  have hz18 := hE17.size
  have sgr_15 := hr_15.1; have kr_15 := hr_15.cap; have mr_15 := hr_15.max
  have hB20 := (hB7.ext (hE12.trans hE17))
  refine sOp rfl (oStore [(.int .i64 (sr_15)), (.slice Ar_15 nr_15 cr_15)] rfl rfl rfl sz31 rfl hB20 (Nat.le_of_ble_eq_true rfl) ?_)
  intro w21 hU22 hz23 hB24
  replace hB24 : Blk w21 g2 31 [(.int .i64 (sr_15)), (.slice Ar_15 nr_15 cr_15)] := hB24
  refine sDone ?_
  refine xN (hK8 _ _ ?_)
  refine wp_ret ?_
  refine ret1 (.agg #[(.int .i64 (sr_15)), (.slice Ar_15 nr_15 cr_15)]) Try.results65 (resB [(.int .i64 (sr_15)), (.slice Ar_15 nr_15 cr_15)] agg31 sz31 rfl hB24) ?_
  have h25 := (hr_15.frmB hU22 q3)
  exact ⟨(sr_15), Ar_15, nr_15, cr_15, (zr_15), rfl, (Frm.mono ((((Frm.of_ext (G := fun b => (b = g2)) hE5).trans (Frm.of_ext (G := fun b => (b = g2)) hE12)).trans (Frm.of_ext (G := fun b => (b = g2)) hE17)).trans hU22) q4), (ZR.sub h25 q5), (by rw [v_15, v_10]; rfl), (by omega)⟩

theorem ref02_Is {w : World} {gn : Bool} {Sa : Nat → Prop} {Aa : Option Addr} {na ca : Nat} {da : List Nat} {Sz : Nat → Prop} {sz : Int} {Az : Option Addr} {nz cz : Nat} {zz : Int} (ha : NatR w Sa Aa na ca da) (hz : ZR w Sz sz Az nz cz zz) (hnz : nz ≤ 1073741824) (hc : ICan gn da) (hv : zval gn da = zz) : Calls Try.prog 43 #[(.bool gn), (.slice Aa na ca), (.agg #[(.int .i64 (sz)), (.slice Az nz cz)])] w (Ret fun v w' => ∃ (gr : Bool), v = (.bool gr) ∧ Ext w w' ∧ (gr = true)) := by
  have la := ha.len; have ka := ha.cap; have ma := ha.max
  replace ha := ha.low
  have sgz := hz.1; have kz := hz.cap; have mz := hz.max
  replace hz := hz.low
  refine enter Try.func43 rfl Try.ntmps43 rfl ?_
  refine wp_seq_k fun K1 hK1 => ?_
  refine wp_region_lit ?_
  refine sOp rfl (oBox [(.int .i64 (sz)), (.slice Az nz cz)] rfl rfl ?_)
  intro g2 w3 hg4 hE5 hz6 hB7
  refine sEv (v := (.bool false)) (rfl) rfl rfl ?_
  refine sDone ?_
  refine xN (hK1 _ _ ?_)
  refine wp_seq_k fun K8 hK8 => ?_
  refine wp_region_lit ?_
  refine sEv (v := (.bool gn)) (rfl) rfl rfl ?_
  refine sEv (v := (.pointer (some ⟨g2, 0, none⟩))) (evFA 0 fa31_0 rfl rfl) rfl rfl ?_
  refine sEv (v := (.int .i64 (sz))) (evLoadB one3 rfl hB7 rfl) rfl rfl ?_
  refine sEv (v := (.bool (decide (sz < 0)))) (evLss (decide (sz < 0)) rfl rfl (rfl)) rfl rfl ?_
  refine sEv (v := (.bool (gn == (decide (sz < 0))))) (evEqlB _ Try.underlying4 rfl rfl rfl) rfl rfl ?_
  have htt : (gn == decide (sz < 0)) = true := by rw [is_neg sgz hc hv]; simp
  rw [htt]
  refine sEv (v := (.bool true)) (rfl) rfl rfl ?_
  refine sEv (v := (.slice Aa na ca)) (rfl) rfl rfl ?_
  refine sEv (v := (.pointer (some ⟨g2, 1, none⟩))) (evFA 1 fa31_1 rfl rfl) rfl rfl ?_
  refine sEv (v := (.slice Az nz cz)) (evLoadB one29 rfl hB7 rfl) rfl rfl ?_
  have h9 := (hz.ext hE5)
  obtain ⟨bs_10, hb_10, cb_10, vb_10⟩ := h9.2
  have lb_10 := hb_10.len
  have hval := is_val hv vb_10; have hcan := hc.1
  have h12 := (ha.ext hE5)
  refine sOp rfl (oCall rfl call81 (ref01_Is h12 hb_10 (by omega) (by assumption) (by assumption)) rfl ?_)
  rintro _ w14 ⟨gr_13, rfl, hE15, e_13⟩
  have hz16 := hE15.size
  refine sEv (v := (.bool gr_13)) (rfl) rfl rfl ?_
  refine sEv (v := (.bool gr_13)) (rfl) rfl rfl ?_
  refine sDone ?_
  refine xN (hK8 _ _ ?_)
  refine wp_ret ?_
  refine ret1 (.bool gr_13) Try.results43 (resT rfl) ?_
  exact ⟨(gr_13), rfl, (hE5.trans hE15), e_13⟩

theorem ref02_Cmp {w : World} {Sa : Nat → Prop} {sa : Int} {Aa : Option Addr} {na ca : Nat} {za : Int} {Sb : Nat → Prop} {sb : Int} {Ab : Option Addr} {nb cb : Nat} {zb : Int} (ha : ZR w Sa sa Aa na ca za) (hb : ZR w Sb sb Ab nb cb zb) (hna : na ≤ 1073741824) (hnb : nb ≤ 1073741824) : Calls Try.prog 34 #[(.agg #[(.int .i64 (sa)), (.slice Aa na ca)]), (.agg #[(.int .i64 (sb)), (.slice Ab nb cb)])] w (Ret fun v w' => ∃ (xr : Int), v = (.int .i64 (xr)) ∧ Ext w w' ∧ (xr = cmpZ za zb)) := by
  have sga := ha.1; have ka := ha.cap; have ma := ha.max
  replace ha := ha.low
  have sgb := hb.1; have kb := hb.cap; have mb := hb.max
  replace hb := hb.low
  refine enter Try.func34 rfl Try.ntmps34 rfl ?_
  refine wp_seq_k fun K1 hK1 => ?_
  refine wp_region_lit ?_
  refine sOp rfl (oBox [(.int .i64 (sa)), (.slice Aa na ca)] rfl rfl ?_)
  intro g2 w3 hg4 hE5 hz6 hB7
  refine sOp rfl (oBox [(.int .i64 (sb)), (.slice Ab nb cb)] rfl rfl ?_)
  intro g8 w9 hg10 hE11 hz12 hB13
  refine sEv (v := (.int .i64 (0))) (rfl) rfl rfl ?_
  refine sDone ?_
  refine xN (hK1 _ _ ?_)
  refine wp_seq_k fun K14 hK14 => ?_
  refine wp_seq_k fun K15 hK15 => ?_
  refine wp_region_lit ?_
  refine sEv (v := (.pointer (some ⟨g2, 0, none⟩))) (evFA 0 fa31_0 rfl rfl) rfl rfl ?_
  have hB16 := (hB7.ext hE11)
  refine sEv (v := (.int .i64 (sa))) (evLoadB one3 rfl hB16 rfl) rfl rfl ?_
  refine sEv (v := (.pointer (some ⟨g8, 0, none⟩))) (evFA 0 fa31_0 rfl rfl) rfl rfl ?_
  refine sEv (v := (.int .i64 (sb))) (evLoadB one3 rfl hB13 rfl) rfl rfl ?_
  by_cases hc17 : sa ≠ sb
  · refine sEv (v := (.bool true)) (evNeq true rfl rfl (dT hc17)) rfl rfl ?_
    refine sDone ?_
    refine xN (hK15 _ _ ?_)
    refine cT rfl ?_
    refine wp_seq_k fun K18 hK18 => ?_
    refine wp_seq_k fun K19 hK19 => ?_
    refine wp_region_lit ?_
    refine sEv (v := (.pointer (some ⟨g2, 0, none⟩))) (evFA 0 fa31_0 rfl rfl) rfl rfl ?_
    refine sEv (v := (.int .i64 (sa))) (evLoadB one3 rfl hB16 rfl) rfl rfl ?_
    refine sEv (v := (.pointer (some ⟨g8, 0, none⟩))) (evFA 0 fa31_0 rfl rfl) rfl rfl ?_
    refine sEv (v := (.int .i64 (sb))) (evLoadB one3 rfl hB13 rfl) rfl rfl ?_
    by_cases hc20 : sa < sb
    · refine sEv (v := (.bool true)) (evLss true rfl rfl (dT hc20)) rfl rfl ?_
      refine sDone ?_
      refine xN (hK19 _ _ ?_)
      refine cT rfl ?_
      refine wp_seq_k fun K21 hK21 => ?_
      refine wp_region_lit ?_
      refine sEv (v := (.int .i64 ((-1)))) (rfl) rfl rfl ?_
      refine sDone ?_
      refine xN (hK21 _ _ ?_)
      refine wp_ret (xR (xR ?_))
      refine ret1 (.int .i64 ((-1))) Try.results34 (resT rfl) ?_
      exact ⟨((-1)), rfl, (hE5.trans hE11), ((zcmp_ne sga sgb hc17).1 hc20)⟩
    · refine sEv (v := (.bool false)) (evLss false rfl rfl (dF hc20)) rfl rfl ?_
      refine sDone ?_
      refine xN (hK19 _ _ ?_)
      refine cF rfl ?_
      refine wp_skip ?_
      refine xN (hK18 _ _ ?_)
      refine wp_seq_k fun K22 hK22 => ?_
      refine wp_region_lit ?_
      refine sEv (v := (.int .i64 (1))) (rfl) rfl rfl ?_
      refine sDone ?_
      refine xN (hK22 _ _ ?_)
      refine wp_ret (xR ?_)
      refine ret1 (.int .i64 (1)) Try.results34 (resT rfl) ?_
      exact ⟨(1), rfl, (hE5.trans hE11), ((zcmp_ne sga sgb hc17).2 hc20)⟩
  · refine sEv (v := (.bool false)) (evNeq false rfl rfl (dF hc17)) rfl rfl ?_
    refine sDone ?_
    refine xN (hK15 _ _ ?_)
    refine cF rfl ?_
    refine wp_skip ?_
    refine xN (hK14 _ _ ?_)
    refine wp_seq_k fun K23 hK23 => ?_
    refine dBegin (fun _ => False) mixed ?_
    intro w24 hE25 hz26
    refine dEv 0 rfl (v := (.pointer (some ⟨g2, 0, none⟩))) (fun _ _ => evFA 0 fa31_0 rfl rfl) rfl rfl (by kernel_rfl) ?_
    have hB27 := (hB16.ext hE25)
    refine dEv 1 rfl (v := (.int .i64 (sa))) (fun _ hf => evLoadB one3 rfl (hB27.ext hf) rfl) rfl rfl (by kernel_rfl) ?_
    refine dEv 2 rfl (v := (.pointer (some ⟨g2, 1, none⟩))) (fun _ _ => evFA 1 fa31_1 rfl rfl) rfl rfl (by kernel_rfl) ?_
    refine dEv 3 rfl (v := (.slice Aa na ca)) (fun _ hf => evLoadB one29 rfl (hB27.ext hf) rfl) rfl rfl (by kernel_rfl) ?_
    refine dEv 4 rfl (v := (.pointer (some ⟨g8, 1, none⟩))) (fun _ _ => evFA 1 fa31_1 rfl rfl) rfl rfl (by kernel_rfl) ?_
    have hB28 := (hB13.ext hE25)
    refine dEv 5 rfl (v := (.slice Ab nb cb)) (fun _ hf => evLoadB one29 rfl (hB28.ext hf) rfl) rfl rfl (by kernel_rfl) ?_
    have h29 := (ha.ext ((hE5.trans hE11).trans hE25))
    obtain ⟨bs_30, hb_30, cb_30, vb_30⟩ := h29.2
    have lb_30 := hb_30.len
    have h32 := (hb.ext ((hE5.trans hE11).trans hE25))
    obtain ⟨bs_33, hb_33, cb_33, vb_33⟩ := h32.2
    have lb_33 := hb_33.len
    refine dOp 6 rfl rfl (by kernel_rfl) (oCall rfl call75 (ref01_Cmp hb_30 hb_33 (by omega) (by omega)) rfl ?_)
    rintro _ w36 ⟨xr_35, rfl, hE37, e_35⟩
    refine ⟨(Frm.of_ext hE37), ?_⟩
    have hz38 := hE37.size
    have h39 := (hb_30.ext hE37)
    have h40 := (hb_33.ext hE37)
    refine dEv 7 rfl (v := (.int .i64 (cmpZ za zb))) (fun _ _ => evMul (cmpZ za zb) rfl rfl (zcmp_mul sga sgb hc17 vb_30 vb_33 e_35)) rfl rfl (by kernel_rfl) ?_
    refine dEv 8 rfl (v := (.int .i64 (cmpZ za zb))) (fun _ _ => rfl) rfl rfl (by kernel_rfl) ?_
    refine dDone (by kernel_rfl) ?_
    refine xN (hK23 _ _ ?_)
    refine wp_ret ?_
    refine ret1 (.int .i64 (cmpZ za zb)) Try.results34 (resT rfl) ?_
    exact ⟨(cmpZ za zb), rfl, (((hE5.trans hE11).trans hE25).trans hE37), rfl⟩

theorem ref02_Add {w : World} {Sa : Nat → Prop} {sa : Int} {Aa : Option Addr} {na ca : Nat} {za : Int} {Sb : Nat → Prop} {sb : Int} {Ab : Option Addr} {nb cb : Nat} {zb : Int} (ha : ZR w Sa sa Aa na ca za) (hb : ZR w Sb sb Ab nb cb zb) (hna : na ≤ 1073741824) (hnb : nb ≤ 1073741824) : Calls Try.prog 79 #[(.agg #[(.int .i64 (sa)), (.slice Aa na ca)]), (.agg #[(.int .i64 (sb)), (.slice Ab nb cb)])] w (Ret fun v w' => ∃ (sr : Int) (Ar : Option Addr) (nr : Nat) (cr : Nat) (zr : Int), v = (.agg #[(.int .i64 (sr)), (.slice Ar nr cr)]) ∧ Ext w w' ∧ ZR w' (fun b => w.heap.size ≤ b) sr Ar nr cr zr ∧ (zr = za + zb) ∧ (nr ≤ max na nb + 1)) := by
  have sga := ha.1; have ka := ha.cap; have ma := ha.max
  replace ha := ha.low
  have sgb := hb.1; have kb := hb.cap; have mb := hb.max
  replace hb := hb.low
  refine enter Try.func79 rfl Try.ntmps79 rfl ?_
  have hss := mul_sign_rng sga sgb; have hra := sign_rng sga; have hrb := sign_rng sgb
  refine wp_seq_k fun K1 hK1 => ?_
  refine wp_region_lit ?_
  refine sOp rfl (oBox [(.int .i64 (sa)), (.slice Aa na ca)] rfl rfl ?_)
  intro g2 w3 hg4 hE5 hz6 hB7
  refine sOp rfl (oBox [(.int .i64 (sb)), (.slice Ab nb cb)] rfl rfl ?_)
  intro g8 w9 hg10 hE11 hz12 hB13
  refine sOp rfl (oAlloc [(.int .i64 (0)), (.slice none 0 0)] zero31 rfl ?_)
  intro g14 w15 hg16 hE17 hz18 hB19
  refine sDone ?_
  refine xN (hK1 _ _ ?_)
  refine wp_seq_k fun K20 hK20 => ?_
  refine wp_seq_k fun K21 hK21 => ?_
  refine wp_region_lit ?_
  refine sEv (v := (.pointer (some ⟨g2, 0, none⟩))) (evFA 0 fa31_0 rfl rfl) rfl rfl ?_
  have hB22 := (hB7.ext (hE11.trans hE17))
  refine sEv (v := (.int .i64 (sa))) (evLoadB one3 rfl hB22 rfl) rfl rfl ?_
  refine sEv (v := (.pointer (some ⟨g8, 0, none⟩))) (evFA 0 fa31_0 rfl rfl) rfl rfl ?_
  have hB23 := (hB13.ext hE17)
  refine sEv (v := (.int .i64 (sb))) (evLoadB one3 rfl hB23 rfl) rfl rfl ?_
  refine sEv (v := (.int .i64 (sa * sb))) (evMul (sa * sb) rfl rfl (wI64 (by omega))) rfl rfl ?_
  by_cases hc24 : (sa * sb) ≥ 0
  · refine sEv (v := (.bool true)) (evGeq true rfl rfl (dT hc24)) rfl rfl ?_
    refine sDone ?_
    refine xN (hK21 _ _ ?_)
    refine cT rfl ?_
    refine wp_seq_k fun K25 hK25 => ?_
    refine dBegin (fun b => b = g14) mixed ?_
    intro w26 hE27 hz28
    refine dEv 0 rfl (v := (.pointer (some ⟨g2, 0, none⟩))) (fun _ _ => evFA 0 fa31_0 rfl rfl) rfl rfl (by kernel_rfl) ?_
    have hB29 := (hB22.ext hE27)
    refine dEv 1 rfl (v := (.int .i64 (sa))) (fun _ hf => evLoadB one3 rfl (hB29.frm hf q1) rfl) rfl rfl (by kernel_rfl) ?_
    refine dEv 2 rfl (v := (.pointer (some ⟨g8, 0, none⟩))) (fun _ _ => evFA 0 fa31_0 rfl rfl) rfl rfl (by kernel_rfl) ?_
    have hB30 := (hB23.ext hE27)
    refine dEv 3 rfl (v := (.int .i64 (sb))) (fun _ hf => evLoadB one3 rfl (hB30.frm hf q1) rfl) rfl rfl (by kernel_rfl) ?_
    refine dEv 4 rfl (v := (.int .i64 (sa + sb))) (fun _ _ => evAdd (sa + sb) rfl rfl (wI64 (by omega))) rfl rfl (by kernel_rfl) ?_
    refine dEv 5 rfl (v := (.bool (decide (sa + sb < 0)))) (fun _ _ => evLss (decide (sa + sb < 0)) rfl rfl (rfl)) rfl rfl (by kernel_rfl) ?_
    refine dEv 6 rfl (v := (.pointer (some ⟨g2, 1, none⟩))) (fun _ _ => evFA 1 fa31_1 rfl rfl) rfl rfl (by kernel_rfl) ?_
    refine dEv 7 rfl (v := (.slice Aa na ca)) (fun _ hf => evLoadB one29 rfl (hB29.frm hf q1) rfl) rfl rfl (by kernel_rfl) ?_
    refine dEv 8 rfl (v := (.pointer (some ⟨g8, 1, none⟩))) (fun _ _ => evFA 1 fa31_1 rfl rfl) rfl rfl (by kernel_rfl) ?_
    refine dEv 9 rfl (v := (.slice Ab nb cb)) (fun _ hf => evLoadB one29 rfl (hB30.frm hf q1) rfl) rfl rfl (by kernel_rfl) ?_
    have h31 := (ha.ext (((hE5.trans hE11).trans hE17).trans hE27))
    obtain ⟨bs_32, hb_32, cb_32, vb_32⟩ := h31.2
    have lb_32 := hb_32.len
    have h34 := (hb.ext (((hE5.trans hE11).trans hE17).trans hE27))
    obtain ⟨bs_35, hb_35, cb_35, vb_35⟩ := h34.2
    have lb_35 := hb_35.len
    refine dOp 10 rfl rfl (by kernel_rfl) (oCall rfl call100 (ref01_Add hb_32 hb_35 (by omega) (by omega)) rfl ?_)
    rintro _ w38 ⟨Ar_37, nr_37, cr_37, dr_37, rfl, hE39, hr_37, v_37, cn_37, le_37⟩
    refine ⟨(Frm.of_ext hE39), ?_⟩
    have hz40 := hE39.size
    have lr_37 := hr_37.len; have kr_37 := hr_37.cap; have mr_37 := hr_37.max
    refine dOp 11 rfl rfl (by kernel_rfl) (oCall rfl call33 (ref02_Make hr_37) rfl ?_)
    rintro _ w43 ⟨sr_42, Ar_42, nr_42, cr_42, zr_42, rfl, hE44, hr_42, v_42, le_42⟩
    refine ⟨(Frm.of_ext hE44), ?_⟩
    have hz45 := hE44.size
    have sgr_42 := hr_42.1; have kr_42 := hr_42.cap; have mr_42 := hr_42.max
    have hB47 := (hB19.ext ((hE27.trans hE39).trans hE44))
    refine dOp 12 rfl rfl (by kernel_rfl) (oStore [(.int .i64 (sr_42)), (.slice Ar_42 nr_42 cr_42)] rfl rfl rfl sz31 rfl hB47 (Nat.le_of_ble_eq_true rfl) ?_)
    intro w48 hU49 hz50 hB51
    replace hB51 : Blk w48 g14 31 [(.int .i64 (sr_42)), (.slice Ar_42 nr_42 cr_42)] := hB51
    refine ⟨hU49, ?_⟩
    refine dDone (by kernel_rfl) ?_
    refine xN (hK25 _ _ ?_)
    refine wp_ret (xR ?_)
    refine ret1 (.agg #[(.int .i64 (sr_42)), (.slice Ar_42 nr_42 cr_42)]) Try.results79 (resB [(.int .i64 (sr_42)), (.slice Ar_42 nr_42 cr_42)] agg31 sz31 rfl hB51) ?_
    have h52 := (hb_32.frmB (((Frm.of_ext (G := fun b => (b = g14)) hE39).trans (Frm.of_ext (G := fun b => (b = g14)) hE44)).trans hU49) q3)
    have h53 := (hb_35.frmB (((Frm.of_ext (G := fun b => (b = g14)) hE39).trans (Frm.of_ext (G := fun b => (b = g14)) hE44)).trans hU49) q3)
    have h54 := (hr_42.frmB hU49 q3)
    exact ⟨(sr_42), Ar_42, nr_42, cr_42, (zr_42), rfl, (Frm.mono (((((((Frm.of_ext (G := fun b => (b = g14)) hE5).trans (Frm.of_ext (G := fun b => (b = g14)) hE11)).trans (Frm.of_ext (G := fun b => (b = g14)) hE17)).trans (Frm.of_ext (G := fun b => (b = g14)) hE27)).trans (Frm.of_ext (G := fun b => (b = g14)) hE39)).trans (Frm.of_ext (G := fun b => (b = g14)) hE44)).trans hU49) q4), (ZR.sub h54 q5), (by rw [v_42, v_37]; exact zadd_same sga sgb hc24 vb_32 vb_35), (by omega)⟩
  · refine sEv (v := (.bool false)) (evGeq false rfl rfl (dF hc24)) rfl rfl ?_
    refine sDone ?_
    refine xN (hK21 _ _ ?_)
    refine cF rfl ?_
    refine wp_skip ?_
    refine xN (hK20 _ _ ?_)
    refine wp_seq_k fun K55 hK55 => ?_
    refine wp_seq_k fun K56 hK56 => ?_
    refine wp_region_lit ?_
    refine sEv (v := (.pointer (some ⟨g2, 1, none⟩))) (evFA 1 fa31_1 rfl rfl) rfl rfl ?_
    refine sEv (v := (.slice Aa na ca)) (evLoadB one29 rfl hB22 rfl) rfl rfl ?_
    refine sEv (v := (.pointer (some ⟨g8, 1, none⟩))) (evFA 1 fa31_1 rfl rfl) rfl rfl ?_
    refine sEv (v := (.slice Ab nb cb)) (evLoadB one29 rfl hB23 rfl) rfl rfl ?_
    have h57 := (ha.ext ((hE5.trans hE11).trans hE17))
    obtain ⟨bs_58, hb_58, cb_58, vb_58⟩ := h57.2
    have lb_58 := hb_58.len
    have h60 := (hb.ext ((hE5.trans hE11).trans hE17))
    obtain ⟨bs_61, hb_61, cb_61, vb_61⟩ := h60.2
    have lb_61 := hb_61.len
    refine sOp rfl (oCall rfl call75 (ref01_Cmp hb_58 hb_61 (by omega) (by omega)) rfl ?_)
    rintro _ w64 ⟨xr_63, rfl, hE65, e_63⟩
    have hz66 := hE65.size
    by_cases hc67 : xr_63 ≥ 0
    · refine sEv (v := (.bool true)) (evGeq true rfl rfl (dT hc67)) rfl rfl ?_
      have hle := cmpN_nn e_63 (by omega)
      refine sDone ?_
      refine xN (hK56 _ _ ?_)
      refine cT rfl ?_
      refine wp_seq_k fun K68 hK68 => ?_
      refine dBegin (fun b => b = g14) mixed ?_
      intro w69 hE70 hz71
      refine dEv 0 rfl (v := (.pointer (some ⟨g2, 0, none⟩))) (fun _ _ => evFA 0 fa31_0 rfl rfl) rfl rfl (by kernel_rfl) ?_
      have hB72 := (hB22.ext (hE65.trans hE70))
      refine dEv 1 rfl (v := (.int .i64 (sa))) (fun _ hf => evLoadB one3 rfl (hB72.frm hf q1) rfl) rfl rfl (by kernel_rfl) ?_
      refine dEv 2 rfl (v := (.bool (decide (sa < 0)))) (fun _ _ => evLss (decide (sa < 0)) rfl rfl (rfl)) rfl rfl (by kernel_rfl) ?_
      refine dEv 3 rfl (v := (.pointer (some ⟨g2, 1, none⟩))) (fun _ _ => evFA 1 fa31_1 rfl rfl) rfl rfl (by kernel_rfl) ?_
      refine dEv 4 rfl (v := (.slice Aa na ca)) (fun _ hf => evLoadB one29 rfl (hB72.frm hf q1) rfl) rfl rfl (by kernel_rfl) ?_
      refine dEv 5 rfl (v := (.pointer (some ⟨g8, 1, none⟩))) (fun _ _ => evFA 1 fa31_1 rfl rfl) rfl rfl (by kernel_rfl) ?_
      have hB73 := (hB23.ext (hE65.trans hE70))
      refine dEv 6 rfl (v := (.slice Ab nb cb)) (fun _ hf => evLoadB one29 rfl (hB73.frm hf q1) rfl) rfl rfl (by kernel_rfl) ?_
      have h74 := (hb_58.ext (hE65.trans hE70))
      have h75 := (hb_61.ext (hE65.trans hE70))
      refine dOp 7 rfl rfl (by kernel_rfl) (oCall rfl call101 (ref01_Sub h74 h75 (by omega) (by omega)) rfl ?_)
      rintro _ w77 ⟨Ar_76, nr_76, cr_76, dr_76, rfl, hE78, hr_76, v_76, cn_76, le_76⟩
      refine ⟨(Frm.of_ext hE78), ?_⟩
      have hz79 := hE78.size
      have lr_76 := hr_76.len; have kr_76 := hr_76.cap; have mr_76 := hr_76.max
      refine dOp 8 rfl rfl (by kernel_rfl) (oCall rfl call33 (ref02_Make hr_76) rfl ?_)
      rintro _ w82 ⟨sr_81, Ar_81, nr_81, cr_81, zr_81, rfl, hE83, hr_81, v_81, le_81⟩
      refine ⟨(Frm.of_ext hE83), ?_⟩
      have hz84 := hE83.size
      have sgr_81 := hr_81.1; have kr_81 := hr_81.cap; have mr_81 := hr_81.max
      have hB86 := (hB19.ext (((hE65.trans hE70).trans hE78).trans hE83))
      refine dOp 9 rfl rfl (by kernel_rfl) (oStore [(.int .i64 (sr_81)), (.slice Ar_81 nr_81 cr_81)] rfl rfl rfl sz31 rfl hB86 (Nat.le_of_ble_eq_true rfl) ?_)
      intro w87 hU88 hz89 hB90
      replace hB90 : Blk w87 g14 31 [(.int .i64 (sr_81)), (.slice Ar_81 nr_81 cr_81)] := hB90
      refine ⟨hU88, ?_⟩
      refine dDone (by kernel_rfl) ?_
      refine xN (hK68 _ _ ?_)
      refine wp_ret (xR ?_)
      refine ret1 (.agg #[(.int .i64 (sr_81)), (.slice Ar_81 nr_81 cr_81)]) Try.results79 (resB [(.int .i64 (sr_81)), (.slice Ar_81 nr_81 cr_81)] agg31 sz31 rfl hB90) ?_
      have h91 := (h74.frmB (((Frm.of_ext (G := fun b => (b = g14)) hE78).trans (Frm.of_ext (G := fun b => (b = g14)) hE83)).trans hU88) q3)
      have h92 := (h75.frmB (((Frm.of_ext (G := fun b => (b = g14)) hE78).trans (Frm.of_ext (G := fun b => (b = g14)) hE83)).trans hU88) q3)
      have h93 := (hr_81.frmB hU88 q3)
      exact ⟨(sr_81), Ar_81, nr_81, cr_81, (zr_81), rfl, (Frm.mono ((((((((Frm.of_ext (G := fun b => (b = g14)) hE5).trans (Frm.of_ext (G := fun b => (b = g14)) hE11)).trans (Frm.of_ext (G := fun b => (b = g14)) hE17)).trans (Frm.of_ext (G := fun b => (b = g14)) hE65)).trans (Frm.of_ext (G := fun b => (b = g14)) hE70)).trans (Frm.of_ext (G := fun b => (b = g14)) hE78)).trans (Frm.of_ext (G := fun b => (b = g14)) hE83)).trans hU88) q4), (ZR.sub h93 q5), (by rw [v_81, v_76]; exact zadd_ge sga sgb hc24 vb_58 vb_61 e_63 hc67), (by omega)⟩
    · refine sEv (v := (.bool false)) (evGeq false rfl rfl (dF hc67)) rfl rfl ?_
      have hle := cmpN_neg e_63 (by omega)
      refine sDone ?_
      refine xN (hK56 _ _ ?_)
      refine cF rfl ?_
      refine wp_skip ?_
      refine xN (hK55 _ _ ?_)
      refine wp_seq_k fun K94 hK94 => ?_
      refine dBegin (fun b => b = g14) mixed ?_
      intro w95 hE96 hz97
      refine dEv 0 rfl (v := (.pointer (some ⟨g8, 0, none⟩))) (fun _ _ => evFA 0 fa31_0 rfl rfl) rfl rfl (by kernel_rfl) ?_
      have hB98 := (hB23.ext (hE65.trans hE96))
      refine dEv 1 rfl (v := (.int .i64 (sb))) (fun _ hf => evLoadB one3 rfl (hB98.frm hf q1) rfl) rfl rfl (by kernel_rfl) ?_
      refine dEv 2 rfl (v := (.bool (decide (sb < 0)))) (fun _ _ => evLss (decide (sb < 0)) rfl rfl (rfl)) rfl rfl (by kernel_rfl) ?_
      refine dEv 3 rfl (v := (.pointer (some ⟨g8, 1, none⟩))) (fun _ _ => evFA 1 fa31_1 rfl rfl) rfl rfl (by kernel_rfl) ?_
      refine dEv 4 rfl (v := (.slice Ab nb cb)) (fun _ hf => evLoadB one29 rfl (hB98.frm hf q1) rfl) rfl rfl (by kernel_rfl) ?_
      refine dEv 5 rfl (v := (.pointer (some ⟨g2, 1, none⟩))) (fun _ _ => evFA 1 fa31_1 rfl rfl) rfl rfl (by kernel_rfl) ?_
      have hB99 := (hB22.ext (hE65.trans hE96))
      refine dEv 6 rfl (v := (.slice Aa na ca)) (fun _ hf => evLoadB one29 rfl (hB99.frm hf q1) rfl) rfl rfl (by kernel_rfl) ?_
      have h100 := (hb_61.ext (hE65.trans hE96))
      have h101 := (hb_58.ext (hE65.trans hE96))
      refine dOp 7 rfl rfl (by kernel_rfl) (oCall rfl call101 (ref01_Sub h100 h101 (by omega) (by omega)) rfl ?_)
      rintro _ w103 ⟨Ar_102, nr_102, cr_102, dr_102, rfl, hE104, hr_102, v_102, cn_102, le_102⟩
      refine ⟨(Frm.of_ext hE104), ?_⟩
      have hz105 := hE104.size
      have lr_102 := hr_102.len; have kr_102 := hr_102.cap; have mr_102 := hr_102.max
      refine dOp 8 rfl rfl (by kernel_rfl) (oCall rfl call33 (ref02_Make hr_102) rfl ?_)
      rintro _ w108 ⟨sr_107, Ar_107, nr_107, cr_107, zr_107, rfl, hE109, hr_107, v_107, le_107⟩
      refine ⟨(Frm.of_ext hE109), ?_⟩
      have hz110 := hE109.size
      have sgr_107 := hr_107.1; have kr_107 := hr_107.cap; have mr_107 := hr_107.max
      have hB112 := (hB19.ext (((hE65.trans hE96).trans hE104).trans hE109))
      refine dOp 9 rfl rfl (by kernel_rfl) (oStore [(.int .i64 (sr_107)), (.slice Ar_107 nr_107 cr_107)] rfl rfl rfl sz31 rfl hB112 (Nat.le_of_ble_eq_true rfl) ?_)
      intro w113 hU114 hz115 hB116
      replace hB116 : Blk w113 g14 31 [(.int .i64 (sr_107)), (.slice Ar_107 nr_107 cr_107)] := hB116
      refine ⟨hU114, ?_⟩
      refine dDone (by kernel_rfl) ?_
      refine xN (hK94 _ _ ?_)
      refine wp_ret ?_
      refine ret1 (.agg #[(.int .i64 (sr_107)), (.slice Ar_107 nr_107 cr_107)]) Try.results79 (resB [(.int .i64 (sr_107)), (.slice Ar_107 nr_107 cr_107)] agg31 sz31 rfl hB116) ?_
      have h117 := (h101.frmB (((Frm.of_ext (G := fun b => (b = g14)) hE104).trans (Frm.of_ext (G := fun b => (b = g14)) hE109)).trans hU114) q3)
      have h118 := (h100.frmB (((Frm.of_ext (G := fun b => (b = g14)) hE104).trans (Frm.of_ext (G := fun b => (b = g14)) hE109)).trans hU114) q3)
      have h119 := (hr_107.frmB hU114 q3)
      exact ⟨(sr_107), Ar_107, nr_107, cr_107, (zr_107), rfl, (Frm.mono ((((((((Frm.of_ext (G := fun b => (b = g14)) hE5).trans (Frm.of_ext (G := fun b => (b = g14)) hE11)).trans (Frm.of_ext (G := fun b => (b = g14)) hE17)).trans (Frm.of_ext (G := fun b => (b = g14)) hE65)).trans (Frm.of_ext (G := fun b => (b = g14)) hE96)).trans (Frm.of_ext (G := fun b => (b = g14)) hE104)).trans (Frm.of_ext (G := fun b => (b = g14)) hE109)).trans hU114) q4), (ZR.sub h119 q5), (by rw [v_107, v_102]; exact zadd_lt sga sgb hc24 vb_58 vb_61 e_63 hc67), (by omega)⟩

theorem ref02_Mul {w : World} {Sa : Nat → Prop} {sa : Int} {Aa : Option Addr} {na ca : Nat} {za : Int} {Sb : Nat → Prop} {sb : Int} {Ab : Option Addr} {nb cb : Nat} {zb : Int} (ha : ZR w Sa sa Aa na ca za) (hb : ZR w Sb sb Ab nb cb zb) (hna : na ≤ 1073741824) (hnb : nb ≤ 1073741824) : Calls Try.prog 70 #[(.agg #[(.int .i64 (sa)), (.slice Aa na ca)]), (.agg #[(.int .i64 (sb)), (.slice Ab nb cb)])] w (Ret fun v w' => ∃ (sr : Int) (Ar : Option Addr) (nr : Nat) (cr : Nat) (zr : Int), v = (.agg #[(.int .i64 (sr)), (.slice Ar nr cr)]) ∧ Ext w w' ∧ ZR w' (fun b => w.heap.size ≤ b) sr Ar nr cr zr ∧ (zr = za * zb) ∧ (nr ≤ na + nb)) := by
  have sga := ha.1; have ka := ha.cap; have ma := ha.max
  replace ha := ha.low
  have sgb := hb.1; have kb := hb.cap; have mb := hb.max
  replace hb := hb.low
  refine enter Try.func70 rfl Try.ntmps70 rfl ?_
  have hss := mul_sign_rng sga sgb; have hra := sign_rng sga; have hrb := sign_rng sgb
  refine wp_seq_k fun K1 hK1 => ?_
  refine wp_region_lit ?_
  refine sOp rfl (oBox [(.int .i64 (sa)), (.slice Aa na ca)] rfl rfl ?_)
  intro g2 w3 hg4 hE5 hz6 hB7
  refine sOp rfl (oBox [(.int .i64 (sb)), (.slice Ab nb cb)] rfl rfl ?_)
  intro g8 w9 hg10 hE11 hz12 hB13
  refine sOp rfl (oAlloc [(.int .i64 (0)), (.slice none 0 0)] zero31 rfl ?_)
  intro g14 w15 hg16 hE17 hz18 hB19
  refine sDone ?_
  refine xN (hK1 _ _ ?_)
  refine wp_seq_k fun K20 hK20 => ?_
  refine dBegin (fun b => b = g14) mixed ?_
  intro w21 hE22 hz23
  refine dEv 0 rfl (v := (.pointer (some ⟨g2, 0, none⟩))) (fun _ _ => evFA 0 fa31_0 rfl rfl) rfl rfl (by kernel_rfl) ?_
  have hB24 := (hB7.ext ((hE11.trans hE17).trans hE22))
  refine dEv 1 rfl (v := (.int .i64 (sa))) (fun _ hf => evLoadB one3 rfl (hB24.frm hf q1) rfl) rfl rfl (by kernel_rfl) ?_
  refine dEv 2 rfl (v := (.pointer (some ⟨g8, 0, none⟩))) (fun _ _ => evFA 0 fa31_0 rfl rfl) rfl rfl (by kernel_rfl) ?_
  have hB25 := (hB13.ext (hE17.trans hE22))
  refine dEv 3 rfl (v := (.int .i64 (sb))) (fun _ hf => evLoadB one3 rfl (hB25.frm hf q1) rfl) rfl rfl (by kernel_rfl) ?_
  refine dEv 4 rfl (v := (.int .i64 (sa * sb))) (fun _ _ => evMul (sa * sb) rfl rfl (wI64 (by omega))) rfl rfl (by kernel_rfl) ?_
  refine dEv 5 rfl (v := (.bool (decide (sa * sb < 0)))) (fun _ _ => evLss (decide (sa * sb < 0)) rfl rfl (rfl)) rfl rfl (by kernel_rfl) ?_
  refine dEv 6 rfl (v := (.pointer (some ⟨g2, 1, none⟩))) (fun _ _ => evFA 1 fa31_1 rfl rfl) rfl rfl (by kernel_rfl) ?_
  refine dEv 7 rfl (v := (.slice Aa na ca)) (fun _ hf => evLoadB one29 rfl (hB24.frm hf q1) rfl) rfl rfl (by kernel_rfl) ?_
  refine dEv 8 rfl (v := (.pointer (some ⟨g8, 1, none⟩))) (fun _ _ => evFA 1 fa31_1 rfl rfl) rfl rfl (by kernel_rfl) ?_
  refine dEv 9 rfl (v := (.slice Ab nb cb)) (fun _ hf => evLoadB one29 rfl (hB25.frm hf q1) rfl) rfl rfl (by kernel_rfl) ?_
  have h26 := (ha.ext (((hE5.trans hE11).trans hE17).trans hE22))
  obtain ⟨bs_27, hb_27, cb_27, vb_27⟩ := h26.2
  have lb_27 := hb_27.len
  have h29 := (hb.ext (((hE5.trans hE11).trans hE17).trans hE22))
  obtain ⟨bs_30, hb_30, cb_30, vb_30⟩ := h29.2
  have lb_30 := hb_30.len
  refine dOp 10 rfl rfl (by kernel_rfl) (oCall rfl call97 (ref01_Mul hb_27 hb_30 (by omega) (by omega)) rfl ?_)
  rintro _ w33 ⟨Ar_32, nr_32, cr_32, dr_32, rfl, hE34, hr_32, v_32, cn_32, le_32⟩
  refine ⟨(Frm.of_ext hE34), ?_⟩
  have hz35 := hE34.size
  have lr_32 := hr_32.len; have kr_32 := hr_32.cap; have mr_32 := hr_32.max
  refine dOp 11 rfl rfl (by kernel_rfl) (oCall rfl call33 (ref02_Make hr_32) rfl ?_)
  rintro _ w38 ⟨sr_37, Ar_37, nr_37, cr_37, zr_37, rfl, hE39, hr_37, v_37, le_37⟩
  refine ⟨(Frm.of_ext hE39), ?_⟩
  have hz40 := hE39.size
  have sgr_37 := hr_37.1; have kr_37 := hr_37.cap; have mr_37 := hr_37.max
  have hB42 := (hB19.ext ((hE22.trans hE34).trans hE39))
  refine dOp 12 rfl rfl (by kernel_rfl) (oStore [(.int .i64 (sr_37)), (.slice Ar_37 nr_37 cr_37)] rfl rfl rfl sz31 rfl hB42 (Nat.le_of_ble_eq_true rfl) ?_)
  intro w43 hU44 hz45 hB46
  replace hB46 : Blk w43 g14 31 [(.int .i64 (sr_37)), (.slice Ar_37 nr_37 cr_37)] := hB46
  refine ⟨hU44, ?_⟩
  refine dDone (by kernel_rfl) ?_
  refine xN (hK20 _ _ ?_)
  refine wp_ret ?_
  refine ret1 (.agg #[(.int .i64 (sr_37)), (.slice Ar_37 nr_37 cr_37)]) Try.results70 (resB [(.int .i64 (sr_37)), (.slice Ar_37 nr_37 cr_37)] agg31 sz31 rfl hB46) ?_
  have h47 := (hb_27.frmB (((Frm.of_ext (G := fun b => (b = g14)) hE34).trans (Frm.of_ext (G := fun b => (b = g14)) hE39)).trans hU44) q3)
  have h48 := (hb_30.frmB (((Frm.of_ext (G := fun b => (b = g14)) hE34).trans (Frm.of_ext (G := fun b => (b = g14)) hE39)).trans hU44) q3)
  have h49 := (hr_37.frmB hU44 q3)
  exact ⟨(sr_37), Ar_37, nr_37, cr_37, (zr_37), rfl, (Frm.mono (((((((Frm.of_ext (G := fun b => (b = g14)) hE5).trans (Frm.of_ext (G := fun b => (b = g14)) hE11)).trans (Frm.of_ext (G := fun b => (b = g14)) hE17)).trans (Frm.of_ext (G := fun b => (b = g14)) hE22)).trans (Frm.of_ext (G := fun b => (b = g14)) hE34)).trans (Frm.of_ext (G := fun b => (b = g14)) hE39)).trans hU44) q4), (ZR.sub h49 q5), (by rw [v_37, v_32]; exact zmul_sgn sga sgb vb_27 vb_30), (by omega)⟩

theorem ref02_Small {w : World} {xn : Int}  (hx : -1099511627776 ≤ xn ∧ xn ≤ 1099511627776) : Calls Try.prog 15 #[(.int .i64 (xn))] w (Ret fun v w' => ∃ (sr : Int) (Ar : Option Addr) (nr : Nat) (cr : Nat) (zr : Int), v = (.agg #[(.int .i64 (sr)), (.slice Ar nr cr)]) ∧ Ext w w' ∧ ZR w' (fun b => w.heap.size ≤ b) sr Ar nr cr zr ∧ (zr = xn) ∧ (nr ≤ 41)) := by
  refine enter Try.func15 rfl Try.ntmps15 rfl ?_
  refine wp_seq_k fun K1 hK1 => ?_
  refine wp_region_lit ?_
  refine sOp rfl (oAlloc [(.int .i64 (0)), (.slice none 0 0)] zero31 rfl ?_)
  intro g2 w3 hg4 hE5 hz6 hB7
  refine sDone ?_
  refine xN (hK1 _ _ ?_)
  refine wp_seq_k fun K8 hK8 => ?_
  refine wp_region_lit ?_
  refine sEv (v := (.int .i64 (xn))) (rfl) rfl rfl ?_
  by_cases hc9 : xn < 0
  · refine sEv (v := (.bool true)) (evLss true rfl rfl (dT hc9)) rfl rfl ?_
    refine sEv (v := (.bool true)) (rfl) rfl rfl ?_
    refine sDone ?_
    refine xN (hK8 _ _ ?_)
    refine wp_seq_k fun K10 hK10 => ?_
    refine wp_seq_k fun K11 hK11 => ?_
    refine wp_region_lit ?_
    refine sEv (v := (.bool true)) (rfl) rfl rfl ?_
    refine sDone ?_
    refine xN (hK11 _ _ ?_)
    refine cT rfl ?_
    refine wp_region_lit ?_
    refine sEv (v := (.int .i64 (xn))) (rfl) rfl rfl ?_
    refine sEv (v := (.int .i64 (-(xn)))) (evNeg _ rfl (wI64 (by omega))) rfl rfl ?_
    refine sEv (v := (.int .i64 (-(xn)))) (rfl) rfl rfl ?_
    refine sDone ?_
    refine xN (hK10 _ _ ?_)
    refine wp_seq_k fun K12 hK12 => ?_
    refine wp_region_lit ?_
    refine sEv (v := (.slice none 0 0)) (rfl) rfl rfl ?_
    refine sDone ?_
    refine xN (hK12 _ _ ?_)
    refine wp_seq_k fun K13 hK13 => ?_
    refine wp_block ?_
    refine lLoop (fun m e w_ => ∃ (k : Nat) (P : List Nat) (u : Nat) (Ao : Option Addr) (co : Nat), m = u ∧ e 0 = (.int .i64 ((u : Int))) ∧ e 2 = (.pointer (some ⟨g2, 0, none⟩)) ∧ e 3 = (.bool true) ∧ e 4 = (.slice Ao k co) ∧ Frm (fun b => w3.heap.size ≤ b) w3 w_ ∧ (k + u ≤ (-xn).toNat) ∧ (P.length = k) ∧ (∀ d ∈ P, d < 2) ∧ (vb 2 P + 2 ^ k * u = (-xn).toNat) ∧ (Own w_ w3.heap.size 3 1 Ao k co (P.map i64n))) (((-xn).toNat)) ?_ ?_
    · refine ⟨(0), ([]), ((-xn).toNat), (none), (0), rfl, (congrArg (Value.int .i64) (by omega)), rfl, rfl, rfl, (Frm.refl _ _), ?_, ?_, ?_, ?_, ?_⟩
      · omega
      · rfl
      · simp
      · simp [vb]
      · exact Own.nil
    · rintro m14 e22 w15 ⟨k, P, u, Ao, co, hm21, hs16, hs17, hs18, hs19, hF20, hk, hP, hlt, hv, hO⟩
      obtain ⟨r23, rfl⟩ := sq (e := e22) (t := 0) hs16
      obtain ⟨r24, rfl⟩ := sq (e := r23) (t := 2) hs17
      obtain ⟨r25, rfl⟩ := sq (e := r24) (t := 3) hs18
      obtain ⟨r26, rfl⟩ := sq (e := r25) (t := 4) hs19
      have hz27 := hF20.size
      refine wp_seq_k fun K28 hK28 => ?_
      refine wp_seq_k fun K29 hK29 => ?_
      refine wp_region_lit ?_
      refine sEv (v := (.int .i64 ((u : Int)))) (rfl) rfl rfl ?_
      by_cases hc30 : ((u : Int)) > 0
      · refine sEv (v := (.bool true)) (evGtr true rfl rfl (dT hc30)) rfl rfl ?_
        refine sDone ?_
        refine xN (hK29 _ _ ?_)
        refine cT rfl ?_
        refine wp_skip ?_
        refine xN (hK28 _ _ ?_)
        refine wp_block ?_
        refine wp_seq_k fun K31 hK31 => ?_
        refine wp_region_lit ?_
        refine sEv (v := (.slice Ao k co)) (rfl) rfl rfl ?_
        refine sEv (v := (.int .i64 ((u : Int)))) (rfl) rfl rfl ?_
        refine sEv (v := (.int .i64 (((u % 2 : Nat) : Int)))) (evRem (((u % 2 : Nat) : Int)) rfl rfl (by omega) (remE (by omega) (by omega))) rfl rfl ?_
        refine sOp rfl (oBuildSlice [(.int .i64 (((u % 2 : Nat) : Int)))] [[(.int .i64 (((u % 2 : Nat) : Int)))]] Try.underlying29 inf3 rfl rfl rfl rfl rfl ?_)
        intro g32 w33 hg34 hE35 hz36 hB37
        replace hB37 : Blk w33 g32 3 [(.int .i64 (((u % 2 : Nat) : Int)))] := hB37
        have hO38 := (hO.ext hE35)
        refine sOp rfl (oApp (B := w3.heap.size) (cs := (P).map i64n) Try.underlying29 inf3 rfl (by decide) rfl rfl hO38 hB37 rfl rfl (by omega) (by omega) (by omega) ?_)
        intro A39 c40 w41 hO42 hF43 _ _
        replace hO42 : Own w41 w3.heap.size 3 1 A39 (k + 1) c40 ((P ++ [u % 2]).map i64n) := by rw [List.map_append]; exact hO42
        refine sEv (v := (.slice A39 (k + 1) c40)) (rfl) rfl rfl ?_
        refine sDone ?_
        refine xN (hK31 _ _ ?_)
        refine wp_region_lit ?_
        refine sEv (v := (.int .i64 ((u : Int)))) (rfl) rfl rfl ?_
        refine sEv (v := (.int .i64 (((u / 2 : Nat) : Int)))) (evQuo (((u / 2 : Nat) : Int)) rfl rfl (by omega) (quoEi64 (by omega) (by omega) (by omega))) rfl rfl ?_
        refine sEv (v := (.int .i64 (((u / 2 : Nat) : Int)))) (rfl) rfl rfl ?_
        refine sDone ?_
        refine bN ?_
        refine again ((u / 2)) (by omega) ⟨(k + 1), (P ++ [u % 2]), (u / 2), (A39), (c40), rfl, (congrArg (Value.int .i64) (by omega)), rfl, rfl, rfl, ((hF20.trans (Frm.of_ext (G := fun b => (w3.heap.size ≤ b)) hE35)).trans hF43), ?_, ?_, ?_, ?_, ?_⟩
        · omega
        · simp [hP]
        · exact vlt_snoc hlt (by omega)
        · exact small_step hv hP
        · exact hO42
      · refine sEv (v := (.bool false)) (evGtr false rfl rfl (dF hc30)) rfl rfl ?_
        refine sDone ?_
        refine xN (hK29 _ _ ?_)
        refine cF rfl ?_
        refine wp_exit (xE (xE (bE ?_)))
        refine xN (hK13 _ _ ?_)
        refine wp_seq_k fun K44 hK44 => ?_
        refine wp_region_lit ?_
        refine sEv (v := (.bool true)) (rfl) rfl rfl ?_
        refine sEv (v := (.slice Ao k co)) (rfl) rfl rfl ?_
        refine sOp rfl (oCall rfl call33 (ref02_Make (Own.digR hO hlt)) rfl ?_)
        rintro _ w46 ⟨sr_45, Ar_45, nr_45, cr_45, zr_45, rfl, hE47, hr_45, v_45, le_45⟩
        have hz48 := hE47.size
        have sgr_45 := hr_45.1; have kr_45 := hr_45.cap; have mr_45 := hr_45.max
        have hB50 := (hB7.frm (hF20.trans (Frm.of_ext (G := fun b => (w3.heap.size ≤ b)) hE47)) q1)
        refine sOp rfl (oStore [(.int .i64 (sr_45)), (.slice Ar_45 nr_45 cr_45)] rfl rfl rfl sz31 rfl hB50 (Nat.le_of_ble_eq_true rfl) ?_)
        intro w51 hU52 hz53 hB54
        replace hB54 : Blk w51 g2 31 [(.int .i64 (sr_45)), (.slice Ar_45 nr_45 cr_45)] := hB54
        refine sDone ?_
        refine xN (hK44 _ _ ?_)
        refine wp_ret ?_
        refine ret1 (.agg #[(.int .i64 (sr_45)), (.slice Ar_45 nr_45 cr_45)]) Try.results15 (resB [(.int .i64 (sr_45)), (.slice Ar_45 nr_45 cr_45)] agg31 sz31 rfl hB54) ?_
        have hzz : zr_45 = xn := by rw [v_45, small_end hv (by omega), sgnv_true]; omega
        have h55 := (hr_45.frmB hU52 q3)
        exact ⟨(sr_45), Ar_45, nr_45, cr_45, (zr_45), rfl, (Frm.mono ((((Frm.of_ext (G := fun b => (w3.heap.size ≤ b) ∨ (b = g2)) hE5).trans (hF20.mono (G' := fun b => (w3.heap.size ≤ b) ∨ (b = g2)) fun _ _ h => .inl h)).trans (Frm.of_ext (G := fun b => (w3.heap.size ≤ b) ∨ (b = g2)) hE47)).trans (hU52.mono (G' := fun b => (w3.heap.size ≤ b) ∨ (b = g2)) fun _ _ h => .inr h)) q4), (ZR.sub h55 q5), hzz, (hr_45.len (m := 41) (by rw [hzz]; show _ < 2199023255552; omega))⟩
  · refine sEv (v := (.bool false)) (evLss false rfl rfl (dF hc9)) rfl rfl ?_
    refine sEv (v := (.bool false)) (rfl) rfl rfl ?_
    refine sDone ?_
    refine xN (hK8 _ _ ?_)
    refine wp_seq_k fun K56 hK56 => ?_
    refine wp_seq_k fun K57 hK57 => ?_
    refine wp_region_lit ?_
    refine sEv (v := (.bool false)) (rfl) rfl rfl ?_
    refine sDone ?_
    refine xN (hK57 _ _ ?_)
    refine cF rfl ?_
    refine wp_skip ?_
    refine xN (hK56 _ _ ?_)
    refine wp_seq_k fun K58 hK58 => ?_
    refine wp_region_lit ?_
    refine sEv (v := (.slice none 0 0)) (rfl) rfl rfl ?_
    refine sDone ?_
    refine xN (hK58 _ _ ?_)
    refine wp_seq_k fun K59 hK59 => ?_
    refine wp_block ?_
    refine lLoop (fun m e w_ => ∃ (k : Nat) (P : List Nat) (u : Nat) (Ao : Option Addr) (co : Nat), m = u ∧ e 0 = (.int .i64 ((u : Int))) ∧ e 2 = (.pointer (some ⟨g2, 0, none⟩)) ∧ e 3 = (.bool false) ∧ e 4 = (.slice Ao k co) ∧ Frm (fun b => w3.heap.size ≤ b) w3 w_ ∧ (k + u ≤ xn.toNat) ∧ (P.length = k) ∧ (∀ d ∈ P, d < 2) ∧ (vb 2 P + 2 ^ k * u = xn.toNat) ∧ (Own w_ w3.heap.size 3 1 Ao k co (P.map i64n))) ((xn.toNat)) ?_ ?_
    · refine ⟨(0), ([]), (xn.toNat), (none), (0), rfl, (congrArg (Value.int .i64) (by omega)), rfl, rfl, rfl, (Frm.refl _ _), ?_, ?_, ?_, ?_, ?_⟩
      · omega
      · rfl
      · simp
      · simp [vb]
      · exact Own.nil
    · rintro m60 e68 w61 ⟨k, P, u, Ao, co, hm67, hs62, hs63, hs64, hs65, hF66, hk, hP, hlt, hv, hO⟩
      obtain ⟨r69, rfl⟩ := sq (e := e68) (t := 0) hs62
      obtain ⟨r70, rfl⟩ := sq (e := r69) (t := 2) hs63
      obtain ⟨r71, rfl⟩ := sq (e := r70) (t := 3) hs64
      obtain ⟨r72, rfl⟩ := sq (e := r71) (t := 4) hs65
      have hz73 := hF66.size
      refine wp_seq_k fun K74 hK74 => ?_
      refine wp_seq_k fun K75 hK75 => ?_
      refine wp_region_lit ?_
      refine sEv (v := (.int .i64 ((u : Int)))) (rfl) rfl rfl ?_
      by_cases hc76 : ((u : Int)) > 0
      · refine sEv (v := (.bool true)) (evGtr true rfl rfl (dT hc76)) rfl rfl ?_
        refine sDone ?_
        refine xN (hK75 _ _ ?_)
        refine cT rfl ?_
        refine wp_skip ?_
        refine xN (hK74 _ _ ?_)
        refine wp_block ?_
        refine wp_seq_k fun K77 hK77 => ?_
        refine wp_region_lit ?_
        refine sEv (v := (.slice Ao k co)) (rfl) rfl rfl ?_
        refine sEv (v := (.int .i64 ((u : Int)))) (rfl) rfl rfl ?_
        refine sEv (v := (.int .i64 (((u % 2 : Nat) : Int)))) (evRem (((u % 2 : Nat) : Int)) rfl rfl (by omega) (remE (by omega) (by omega))) rfl rfl ?_
        refine sOp rfl (oBuildSlice [(.int .i64 (((u % 2 : Nat) : Int)))] [[(.int .i64 (((u % 2 : Nat) : Int)))]] Try.underlying29 inf3 rfl rfl rfl rfl rfl ?_)
        intro g78 w79 hg80 hE81 hz82 hB83
        replace hB83 : Blk w79 g78 3 [(.int .i64 (((u % 2 : Nat) : Int)))] := hB83
        have hO84 := (hO.ext hE81)
        refine sOp rfl (oApp (B := w3.heap.size) (cs := (P).map i64n) Try.underlying29 inf3 rfl (by decide) rfl rfl hO84 hB83 rfl rfl (by omega) (by omega) (by omega) ?_)
        intro A85 c86 w87 hO88 hF89 _ _
        replace hO88 : Own w87 w3.heap.size 3 1 A85 (k + 1) c86 ((P ++ [u % 2]).map i64n) := by rw [List.map_append]; exact hO88
        refine sEv (v := (.slice A85 (k + 1) c86)) (rfl) rfl rfl ?_
        refine sDone ?_
        refine xN (hK77 _ _ ?_)
        refine wp_region_lit ?_
        refine sEv (v := (.int .i64 ((u : Int)))) (rfl) rfl rfl ?_
        refine sEv (v := (.int .i64 (((u / 2 : Nat) : Int)))) (evQuo (((u / 2 : Nat) : Int)) rfl rfl (by omega) (quoEi64 (by omega) (by omega) (by omega))) rfl rfl ?_
        refine sEv (v := (.int .i64 (((u / 2 : Nat) : Int)))) (rfl) rfl rfl ?_
        refine sDone ?_
        refine bN ?_
        refine again ((u / 2)) (by omega) ⟨(k + 1), (P ++ [u % 2]), (u / 2), (A85), (c86), rfl, (congrArg (Value.int .i64) (by omega)), rfl, rfl, rfl, ((hF66.trans (Frm.of_ext (G := fun b => (w3.heap.size ≤ b)) hE81)).trans hF89), ?_, ?_, ?_, ?_, ?_⟩
        · omega
        · simp [hP]
        · exact vlt_snoc hlt (by omega)
        · exact small_step hv hP
        · exact hO88
      · refine sEv (v := (.bool false)) (evGtr false rfl rfl (dF hc76)) rfl rfl ?_
        refine sDone ?_
        refine xN (hK75 _ _ ?_)
        refine cF rfl ?_
        refine wp_exit (xE (xE (bE ?_)))
        refine xN (hK59 _ _ ?_)
        refine wp_seq_k fun K90 hK90 => ?_
        refine wp_region_lit ?_
        refine sEv (v := (.bool false)) (rfl) rfl rfl ?_
        refine sEv (v := (.slice Ao k co)) (rfl) rfl rfl ?_
        refine sOp rfl (oCall rfl call33 (ref02_Make (Own.digR hO hlt)) rfl ?_)
        rintro _ w92 ⟨sr_91, Ar_91, nr_91, cr_91, zr_91, rfl, hE93, hr_91, v_91, le_91⟩
        have hz94 := hE93.size
        have sgr_91 := hr_91.1; have kr_91 := hr_91.cap; have mr_91 := hr_91.max
        have hB96 := (hB7.frm (hF66.trans (Frm.of_ext (G := fun b => (w3.heap.size ≤ b)) hE93)) q1)
        refine sOp rfl (oStore [(.int .i64 (sr_91)), (.slice Ar_91 nr_91 cr_91)] rfl rfl rfl sz31 rfl hB96 (Nat.le_of_ble_eq_true rfl) ?_)
        intro w97 hU98 hz99 hB100
        replace hB100 : Blk w97 g2 31 [(.int .i64 (sr_91)), (.slice Ar_91 nr_91 cr_91)] := hB100
        refine sDone ?_
        refine xN (hK90 _ _ ?_)
        refine wp_ret ?_
        refine ret1 (.agg #[(.int .i64 (sr_91)), (.slice Ar_91 nr_91 cr_91)]) Try.results15 (resB [(.int .i64 (sr_91)), (.slice Ar_91 nr_91 cr_91)] agg31 sz31 rfl hB100) ?_
        have hzz : zr_91 = xn := by rw [v_91, small_end hv (by omega), sgnv_false]; omega
        have h101 := (hr_91.frmB hU98 q3)
        exact ⟨(sr_91), Ar_91, nr_91, cr_91, (zr_91), rfl, (Frm.mono ((((Frm.of_ext (G := fun b => (w3.heap.size ≤ b) ∨ (b = g2)) hE5).trans (hF66.mono (G' := fun b => (w3.heap.size ≤ b) ∨ (b = g2)) fun _ _ h => .inl h)).trans (Frm.of_ext (G := fun b => (w3.heap.size ≤ b) ∨ (b = g2)) hE93)).trans (hU98.mono (G' := fun b => (w3.heap.size ≤ b) ∨ (b = g2)) fun _ _ h => .inr h)) q4), (ZR.sub h101 q5), hzz, (hr_91.len (m := 41) (by rw [hzz]; show _ < 2199023255552; omega))⟩

end Go.Proofs.Ytppegjbdencefaa
