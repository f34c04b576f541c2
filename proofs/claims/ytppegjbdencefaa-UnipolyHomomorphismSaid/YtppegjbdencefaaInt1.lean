/-
  Walks of package integer.
-/
import Derived.Test.YtppegjbdencefaaNat4
import Derived.Test.YtppegjbdencefaaIntMath
namespace Go.Proofs.Ytppegjbdencefaa
open Go.RowKit Go.Gx
theorem integer_signed {w : World} {gn : Bool} {Sa : Nat → Prop} {Aa : Option Addr} {na ca : Nat} {da : List Nat} (ha : NatR w Sa Aa na ca da)  : Calls Try.prog 88 #[(.bool gn), (.slice Aa na ca)] w (Ret fun v w' => ∃ (gr : Bool) (Ar : Option Addr) (nr : Nat) (cr : Nat) (dr : List Nat), v = (.agg #[(.bool gr), (.slice Ar nr cr)]) ∧ Ext w w' ∧ NatR w' (Sa) Ar nr cr dr ∧ (gr = (gn && decide (0 < na))) ∧ (dr = da) ∧ (nr = na)) := by
  have la := ha.len; have ka := ha.cap; have ma := ha.max
  refine enter Try.func88 rfl Try.ntmps88 rfl ?_
  refine wp_seq_k fun K1 hK1 => ?_
  refine wp_region_lit ?_
  refine sOp rfl (oAlloc [(.bool false), (.slice none 0 0)] zero46 rfl ?_)
  intro g2 w3 hg4 hE5 hz6 hB7
  refine sDone ?_
  refine xN (hK1 _ _ ?_)
  refine wp_seq_k fun K8 hK8 => ?_
  refine wp_region_lit ?_
  refine sEv (v := (.bool gn)) (rfl) rfl rfl ?_
  refine sEv (v := (.bool gn)) (rfl) rfl rfl ?_
  cases gn
  · refine sSkip rfl rfl ?_
    refine sSkip rfl rfl ?_
    refine sSkip rfl rfl ?_
    refine sEv (v := (.bool false)) (rfl) rfl rfl ?_
    refine sEv (v := (.slice Aa na ca)) (rfl) rfl rfl ?_
    refine sEv (v := (.agg #[(.bool false), (.slice Aa na ca)])) (evK (by kernel_rfl)) rfl rfl ?_
    refine sOp rfl (oStore [(.bool false), (.slice Aa na ca)] rfl rfl rfl sz46 rfl hB7 (Nat.le_of_ble_eq_true rfl) ?_)
    intro w9 hU10 hz11 hB12
    replace hB12 : Blk w9 g2 46 [(.bool false), (.slice Aa na ca)] := hB12
    refine sDone ?_
    refine xN (hK8 _ _ ?_)
    refine wp_ret ?_
    refine ret1 (.agg #[(.bool false), (.slice Aa na ca)]) Try.results88 (resB [(.bool false), (.slice Aa na ca)] agg46 sz46 rfl hB12) ?_
    have h13 := (ha.frmB ((Frm.of_ext (G := fun b => (b = g2)) hE5).trans hU10) q3)
    exact ⟨false, Aa, na, ca, da, rfl, (Frm.mono ((Frm.of_ext (G := fun b => (b = g2)) hE5).trans hU10) q4), h13, (by simp), rfl, (by omega)⟩
  · refine sEv (v := (.slice Aa na ca)) (rfl) rfl rfl ?_
    refine sEv (v := (.int .i64 ((na : Int)))) (evLen Try.underlying44 rfl) rfl rfl ?_
    by_cases hc14 : ((na : Int)) > 0
    · refine sEv (v := (.bool true)) (evGtr true rfl rfl (dT hc14)) rfl rfl ?_
      refine sEv (v := (.bool true)) (rfl) rfl rfl ?_
      refine sEv (v := (.slice Aa na ca)) (rfl) rfl rfl ?_
      refine sEv (v := (.agg #[(.bool true), (.slice Aa na ca)])) (evK (by kernel_rfl)) rfl rfl ?_
      refine sOp rfl (oStore [(.bool true), (.slice Aa na ca)] rfl rfl rfl sz46 rfl hB7 (Nat.le_of_ble_eq_true rfl) ?_)
      intro w15 hU16 hz17 hB18
      replace hB18 : Blk w15 g2 46 [(.bool true), (.slice Aa na ca)] := hB18
      refine sDone ?_
      refine xN (hK8 _ _ ?_)
      refine wp_ret ?_
      refine ret1 (.agg #[(.bool true), (.slice Aa na ca)]) Try.results88 (resB [(.bool true), (.slice Aa na ca)] agg46 sz46 rfl hB18) ?_
      have h19 := (ha.frmB ((Frm.of_ext (G := fun b => (b = g2)) hE5).trans hU16) q3)
      exact ⟨true, Aa, na, ca, da, rfl, (Frm.mono ((Frm.of_ext (G := fun b => (b = g2)) hE5).trans hU16) q4), h19, (by simp; omega), rfl, (by omega)⟩
    · refine sEv (v := (.bool false)) (evGtr false rfl rfl (dF hc14)) rfl rfl ?_
      refine sEv (v := (.bool false)) (rfl) rfl rfl ?_
      refine sEv (v := (.slice Aa na ca)) (rfl) rfl rfl ?_
      refine sEv (v := (.agg #[(.bool false), (.slice Aa na ca)])) (evK (by kernel_rfl)) rfl rfl ?_
      refine sOp rfl (oStore [(.bool false), (.slice Aa na ca)] rfl rfl rfl sz46 rfl hB7 (Nat.le_of_ble_eq_true rfl) ?_)
      intro w20 hU21 hz22 hB23
      replace hB23 : Blk w20 g2 46 [(.bool false), (.slice Aa na ca)] := hB23
      refine sDone ?_
      refine xN (hK8 _ _ ?_)
      refine wp_ret ?_
      refine ret1 (.agg #[(.bool false), (.slice Aa na ca)]) Try.results88 (resB [(.bool false), (.slice Aa na ca)] agg46 sz46 rfl hB23) ?_
      have h24 := (ha.frmB ((Frm.of_ext (G := fun b => (b = g2)) hE5).trans hU21) q3)
      exact ⟨false, Aa, na, ca, da, rfl, (Frm.mono ((Frm.of_ext (G := fun b => (b = g2)) hE5).trans hU21) q4), h24, (by simp; omega), rfl, (by omega)⟩

theorem integer_From {w : World} {gn : Bool} {Sa : Nat → Prop} {Aa : Option Addr} {na ca : Nat} {da : List Nat} (ha : NatR w Sa Aa na ca da) (hna : na ≤ 1099511627776) : Calls Try.prog 91 #[(.bool gn), (.slice Aa na ca)] w (Ret fun v w' => ∃ (gr : Bool) (Ar : Option Addr) (nr : Nat) (cr : Nat) (dr : List Nat), v = (.agg #[(.bool gr), (.slice Ar nr cr)]) ∧ Ext w w' ∧ NatR w' (fun b => w.heap.size ≤ b) Ar nr cr dr ∧ (zval gr dr = zval gn da) ∧ (ICan gr dr) ∧ (nr ≤ na)) := by
  have la := ha.len; have ka := ha.cap; have ma := ha.max
  replace ha := ha.low
  refine enter Try.func91 rfl Try.ntmps91 rfl ?_
  refine wp_seq_k fun K1 hK1 => ?_
  refine wp_region_lit ?_
  refine sOp rfl (oAlloc [(.bool false), (.slice none 0 0)] zero46 rfl ?_)
  intro g2 w3 hg4 hE5 hz6 hB7
  refine sDone ?_
  refine xN (hK1 _ _ ?_)
  refine wp_seq_k fun K8 hK8 => ?_
  refine wp_region_lit ?_
  refine sEv (v := (.bool gn)) (rfl) rfl rfl ?_
  refine sEv (v := (.slice Aa na ca)) (rfl) rfl rfl ?_
  have h9 := (ha.ext hE5)
  refine sOp rfl (oCall rfl call103 (natural_Normal h9 (by omega)) rfl ?_)
  rintro _ w11 ⟨Ar_10, nr_10, cr_10, dr_10, rfl, hE12, hr_10, e_10, le_10⟩
  have hz13 := hE12.size
  have lr_10 := hr_10.len; have kr_10 := hr_10.cap; have mr_10 := hr_10.max
  refine sOp rfl (oCall rfl call88 (integer_signed hr_10) rfl ?_)
  rintro _ w16 ⟨gr_15, Ar_15, nr_15, cr_15, dr_15, rfl, hE17, hr_15, e_15, d_15, ln_15⟩
  have hz18 := hE17.size
  have lr_15 := hr_15.len; have kr_15 := hr_15.cap; have mr_15 := hr_15.max
  have hB20 := (hB7.ext (hE12.trans hE17))
  refine sOp rfl (oStore [(.bool gr_15), (.slice Ar_15 nr_15 cr_15)] rfl rfl rfl sz46 rfl hB20 (Nat.le_of_ble_eq_true rfl) ?_)
  intro w21 hU22 hz23 hB24
  replace hB24 : Blk w21 g2 46 [(.bool gr_15), (.slice Ar_15 nr_15 cr_15)] := hB24
  refine sDone ?_
  refine xN (hK8 _ _ ?_)
  refine wp_ret ?_
  refine ret1 (.agg #[(.bool gr_15), (.slice Ar_15 nr_15 cr_15)]) Try.results91 (resB [(.bool gr_15), (.slice Ar_15 nr_15 cr_15)] agg46 sz46 rfl hB24) ?_
  have h25 := (hr_15.frmB hU22 q3)
  exact ⟨gr_15, Ar_15, nr_15, cr_15, dr_15, rfl, (Frm.mono ((((Frm.of_ext (G := fun b => (b = g2)) hE5).trans (Frm.of_ext (G := fun b => (b = g2)) hE12)).trans (Frm.of_ext (G := fun b => (b = g2)) hE17)).trans hU22) q4), (NatR.sub h25 q5), (by rw [signed_val e_15 d_15 lr_10, e_10, zval_trim]), (signed_can e_15 d_15 lr_10 (by rw [e_10]; exact canon_trim _ _)), (by omega)⟩

theorem integer_Of {w : World} {x1 : Int}  (hx : -9223372036854775808 ≤ x1 ∧ x1 ≤ 9223372036854775807) : Calls Try.prog 48 #[(.int .i64 (x1))] w (Ret fun v w' => ∃ (gr : Bool) (Ar : Option Addr) (nr : Nat) (cr : Nat) (dr : List Nat), v = (.agg #[(.bool gr), (.slice Ar nr cr)]) ∧ Ext w w' ∧ NatR w' (fun b => w.heap.size ≤ b) Ar nr cr dr ∧ (zval gr dr = x1) ∧ (ICan gr dr) ∧ (nr ≤ 2)) := by
  refine enter Try.func48 rfl Try.ntmps48 rfl ?_
  refine wp_seq_k fun K1 hK1 => ?_
  refine wp_region_lit ?_
  refine sOp rfl (oAlloc [(.bool false), (.slice none 0 0)] zero46 rfl ?_)
  intro g2 w3 hg4 hE5 hz6 hB7
  refine sDone ?_
  refine xN (hK1 _ _ ?_)
  refine wp_seq_k fun K8 hK8 => ?_
  refine wp_seq_k fun K9 hK9 => ?_
  refine wp_region_lit ?_
  refine sEv (v := (.int .i64 (x1))) (rfl) rfl rfl ?_
  by_cases hc10 : x1 < 0
  · refine sEv (v := (.bool true)) (evLss true rfl rfl (dT hc10)) rfl rfl ?_
    refine sDone ?_
    refine xN (hK9 _ _ ?_)
    refine cT rfl ?_
    refine wp_seq_k fun K11 hK11 => ?_
    refine wp_region_lit ?_
    refine sEv (v := (.int .i64 (x1))) (rfl) rfl rfl ?_
    refine sEv (v := (.int .u64 ((((x1 + 18446744073709551616).toNat : Nat) : Int)))) (evConv ((((x1 + 18446744073709551616).toNat : Nat) : Int)) Try.underlying2 Try.underlying101 rfl (wU64m (by omega))) rfl rfl ?_
    refine sEv (v := (.int .u64 ((((-x1).toNat : Nat) : Int)))) (evNeg _ rfl (wU64m (by omega))) rfl rfl ?_
    refine sOp rfl (oCall rfl call83 (natural_Of (x1 := (-x1).toNat) (by omega)) rfl ?_)
    rintro _ w13 ⟨Ar_12, nr_12, cr_12, dr_12, rfl, hE14, hr_12, v_12, cn_12, le_12⟩
    have hz15 := hE14.size
    have lr_12 := hr_12.len; have kr_12 := hr_12.cap; have mr_12 := hr_12.max
    refine sEv (v := (.agg #[(.bool true), (.slice Ar_12 nr_12 cr_12)])) (evK (by kernel_rfl)) rfl rfl ?_
    have hB17 := (hB7.ext hE14)
    refine sOp rfl (oStore [(.bool true), (.slice Ar_12 nr_12 cr_12)] rfl rfl rfl sz46 rfl hB17 (Nat.le_of_ble_eq_true rfl) ?_)
    intro w18 hU19 hz20 hB21
    replace hB21 : Blk w18 g2 46 [(.bool true), (.slice Ar_12 nr_12 cr_12)] := hB21
    refine sDone ?_
    refine xN (hK11 _ _ ?_)
    refine wp_ret (xR ?_)
    refine ret1 (.agg #[(.bool true), (.slice Ar_12 nr_12 cr_12)]) Try.results48 (resB [(.bool true), (.slice Ar_12 nr_12 cr_12)] agg46 sz46 rfl hB21) ?_
    have h22 := (hr_12.frmB hU19 q3)
    exact ⟨true, Ar_12, nr_12, cr_12, dr_12, rfl, (Frm.mono (((Frm.of_ext (G := fun b => (b = g2)) hE5).trans (Frm.of_ext (G := fun b => (b = g2)) hE14)).trans hU19) q4), (NatR.sub h22 q5), (of_neg v_12 (by omega)), (can_neg v_12 (by omega) cn_12), (by omega)⟩
  · refine sEv (v := (.bool false)) (evLss false rfl rfl (dF hc10)) rfl rfl ?_
    refine sDone ?_
    refine xN (hK9 _ _ ?_)
    refine cF rfl ?_
    refine wp_skip ?_
    refine xN (hK8 _ _ ?_)
    refine wp_seq_k fun K23 hK23 => ?_
    refine wp_region_lit ?_
    refine sEv (v := (.int .i64 (x1))) (rfl) rfl rfl ?_
    refine sEv (v := (.int .u64 (((x1.toNat : Nat) : Int)))) (evConv (((x1.toNat : Nat) : Int)) Try.underlying2 Try.underlying101 rfl (wU64 (by omega))) rfl rfl ?_
    refine sOp rfl (oCall rfl call83 (natural_Of (x1 := x1.toNat) (by omega)) rfl ?_)
    rintro _ w25 ⟨Ar_24, nr_24, cr_24, dr_24, rfl, hE26, hr_24, v_24, cn_24, le_24⟩
    have hz27 := hE26.size
    have lr_24 := hr_24.len; have kr_24 := hr_24.cap; have mr_24 := hr_24.max
    refine sEv (v := (.agg #[(.bool false), (.slice Ar_24 nr_24 cr_24)])) (evK (by kernel_rfl)) rfl rfl ?_
    have hB29 := (hB7.ext hE26)
    refine sOp rfl (oStore [(.bool false), (.slice Ar_24 nr_24 cr_24)] rfl rfl rfl sz46 rfl hB29 (Nat.le_of_ble_eq_true rfl) ?_)
    intro w30 hU31 hz32 hB33
    replace hB33 : Blk w30 g2 46 [(.bool false), (.slice Ar_24 nr_24 cr_24)] := hB33
    refine sDone ?_
    refine xN (hK23 _ _ ?_)
    refine wp_ret ?_
    refine ret1 (.agg #[(.bool false), (.slice Ar_24 nr_24 cr_24)]) Try.results48 (resB [(.bool false), (.slice Ar_24 nr_24 cr_24)] agg46 sz46 rfl hB33) ?_
    have h34 := (hr_24.frmB hU31 q3)
    exact ⟨false, Ar_24, nr_24, cr_24, dr_24, rfl, (Frm.mono (((Frm.of_ext (G := fun b => (b = g2)) hE5).trans (Frm.of_ext (G := fun b => (b = g2)) hE26)).trans hU31) q4), (NatR.sub h34 q5), (of_pos v_24 (by omega)), (can_pos cn_24), (by omega)⟩

theorem integer_Normal {w : World} {ga : Bool} {Sa : Nat → Prop} {Aa : Option Addr} {na ca : Nat} {da : List Nat} (ha : NatR w Sa Aa na ca da) (hna : na ≤ 1099511627776) : Calls Try.prog 73 #[(.agg #[(.bool ga), (.slice Aa na ca)])] w (Ret fun v w' => ∃ (gr : Bool) (Ar : Option Addr) (nr : Nat) (cr : Nat) (dr : List Nat), v = (.agg #[(.bool gr), (.slice Ar nr cr)]) ∧ Ext w w' ∧ NatR w' (fun b => w.heap.size ≤ b) Ar nr cr dr ∧ (zval gr dr = zval ga da) ∧ (ICan gr dr) ∧ (nr ≤ na)) := by
  have la := ha.len; have ka := ha.cap; have ma := ha.max
  replace ha := ha.low
  refine enter Try.func73 rfl Try.ntmps73 rfl ?_
  refine wp_seq_k fun K1 hK1 => ?_
  refine wp_region_lit ?_
  refine sOp rfl (oBox [(.bool ga), (.slice Aa na ca)] rfl rfl ?_)
  intro g2 w3 hg4 hE5 hz6 hB7
  refine sOp rfl (oAlloc [(.bool false), (.slice none 0 0)] zero46 rfl ?_)
  intro g8 w9 hg10 hE11 hz12 hB13
  refine sDone ?_
  refine xN (hK1 _ _ ?_)
  refine wp_seq_k fun K14 hK14 => ?_
  refine wp_region_lit ?_
  refine sEv (v := (.pointer (some ⟨g2, 0, none⟩))) (evFA 0 fa46_0 rfl rfl) rfl rfl ?_
  have hB15 := (hB7.ext hE11)
  refine sEv (v := (.bool ga)) (evLoadB one4 rfl hB15 rfl) rfl rfl ?_
  refine sEv (v := (.pointer (some ⟨g2, 1, none⟩))) (evFA 1 fa46_1 rfl rfl) rfl rfl ?_
  refine sEv (v := (.slice Aa na ca)) (evLoadB one44 rfl hB15 rfl) rfl rfl ?_
  have h16 := (ha.ext (hE5.trans hE11))
  refine sOp rfl (oCall rfl call91 (integer_From h16 (by omega)) rfl ?_)
  rintro _ w18 ⟨gr_17, Ar_17, nr_17, cr_17, dr_17, rfl, hE19, hr_17, v_17, cn_17, le_17⟩
  have hz20 := hE19.size
  have lr_17 := hr_17.len; have kr_17 := hr_17.cap; have mr_17 := hr_17.max
  have hB22 := (hB13.ext hE19)
  refine sOp rfl (oStore [(.bool gr_17), (.slice Ar_17 nr_17 cr_17)] rfl rfl rfl sz46 rfl hB22 (Nat.le_of_ble_eq_true rfl) ?_)
  intro w23 hU24 hz25 hB26
  replace hB26 : Blk w23 g8 46 [(.bool gr_17), (.slice Ar_17 nr_17 cr_17)] := hB26
  refine sDone ?_
  refine xN (hK14 _ _ ?_)
  refine wp_ret ?_
  refine ret1 (.agg #[(.bool gr_17), (.slice Ar_17 nr_17 cr_17)]) Try.results73 (resB [(.bool gr_17), (.slice Ar_17 nr_17 cr_17)] agg46 sz46 rfl hB26) ?_
  have h27 := (hr_17.frmB hU24 q3)
  exact ⟨gr_17, Ar_17, nr_17, cr_17, dr_17, rfl, (Frm.mono ((((Frm.of_ext (G := fun b => (b = g8)) hE5).trans (Frm.of_ext (G := fun b => (b = g8)) hE11)).trans (Frm.of_ext (G := fun b => (b = g8)) hE19)).trans hU24) q4), (NatR.sub h27 q5), v_17, cn_17, (by omega)⟩

theorem integer_Neg {w : World} {ga : Bool} {Sa : Nat → Prop} {Aa : Option Addr} {na ca : Nat} {da : List Nat} (ha : NatR w Sa Aa na ca da) (hna : na ≤ 1099511627776) : Calls Try.prog 57 #[(.agg #[(.bool ga), (.slice Aa na ca)])] w (Ret fun v w' => ∃ (gr : Bool) (Ar : Option Addr) (nr : Nat) (cr : Nat) (dr : List Nat), v = (.agg #[(.bool gr), (.slice Ar nr cr)]) ∧ Ext w w' ∧ NatR w' (fun b => w.heap.size ≤ b) Ar nr cr dr ∧ (zval gr dr = -zval ga da) ∧ (ICan gr dr) ∧ (nr ≤ na)) := by
  have la := ha.len; have ka := ha.cap; have ma := ha.max
  replace ha := ha.low
  refine enter Try.func57 rfl Try.ntmps57 rfl ?_
  refine wp_seq_k fun K1 hK1 => ?_
  refine wp_region_lit ?_
  refine sOp rfl (oBox [(.bool ga), (.slice Aa na ca)] rfl rfl ?_)
  intro g2 w3 hg4 hE5 hz6 hB7
  refine sOp rfl (oAlloc [(.bool false), (.slice none 0 0)] zero46 rfl ?_)
  intro g8 w9 hg10 hE11 hz12 hB13
  refine sDone ?_
  refine xN (hK1 _ _ ?_)
  refine wp_seq_k fun K14 hK14 => ?_
  refine wp_region_lit ?_
  refine sEv (v := (.pointer (some ⟨g2, 0, none⟩))) (evFA 0 fa46_0 rfl rfl) rfl rfl ?_
  have hB15 := (hB7.ext hE11)
  refine sEv (v := (.bool ga)) (evLoadB one4 rfl hB15 rfl) rfl rfl ?_
  refine sEv (v := (.bool (!ga))) (evNot _ rfl rfl) rfl rfl ?_
  refine sEv (v := (.pointer (some ⟨g2, 1, none⟩))) (evFA 1 fa46_1 rfl rfl) rfl rfl ?_
  refine sEv (v := (.slice Aa na ca)) (evLoadB one44 rfl hB15 rfl) rfl rfl ?_
  have h16 := (ha.ext (hE5.trans hE11))
  refine sOp rfl (oCall rfl call91 (integer_From h16 (by omega)) rfl ?_)
  rintro _ w18 ⟨gr_17, Ar_17, nr_17, cr_17, dr_17, rfl, hE19, hr_17, v_17, cn_17, le_17⟩
  have hz20 := hE19.size
  have lr_17 := hr_17.len; have kr_17 := hr_17.cap; have mr_17 := hr_17.max
  have hB22 := (hB13.ext hE19)
  refine sOp rfl (oStore [(.bool gr_17), (.slice Ar_17 nr_17 cr_17)] rfl rfl rfl sz46 rfl hB22 (Nat.le_of_ble_eq_true rfl) ?_)
  intro w23 hU24 hz25 hB26
  replace hB26 : Blk w23 g8 46 [(.bool gr_17), (.slice Ar_17 nr_17 cr_17)] := hB26
  refine sDone ?_
  refine xN (hK14 _ _ ?_)
  refine wp_ret ?_
  refine ret1 (.agg #[(.bool gr_17), (.slice Ar_17 nr_17 cr_17)]) Try.results57 (resB [(.bool gr_17), (.slice Ar_17 nr_17 cr_17)] agg46 sz46 rfl hB26) ?_
  have h27 := (hr_17.frmB hU24 q3)
  exact ⟨gr_17, Ar_17, nr_17, cr_17, dr_17, rfl, (Frm.mono ((((Frm.of_ext (G := fun b => (b = g8)) hE5).trans (Frm.of_ext (G := fun b => (b = g8)) hE11)).trans (Frm.of_ext (G := fun b => (b = g8)) hE19)).trans hU24) q4), (NatR.sub h27 q5), (by rw [v_17, zval_not]), cn_17, (by omega)⟩

theorem integer_Abs {w : World} {ga : Bool} {Sa : Nat → Prop} {Aa : Option Addr} {na ca : Nat} {da : List Nat} (ha : NatR w Sa Aa na ca da) (hna : na ≤ 1099511627776) : Calls Try.prog 77 #[(.agg #[(.bool ga), (.slice Aa na ca)])] w (Ret fun v w' => ∃ (gr : Bool) (Ar : Option Addr) (nr : Nat) (cr : Nat) (dr : List Nat), v = (.agg #[(.bool gr), (.slice Ar nr cr)]) ∧ Ext w w' ∧ NatR w' (fun b => w.heap.size ≤ b) Ar nr cr dr ∧ (zval gr dr = (val da : Int)) ∧ (ICan gr dr) ∧ (nr ≤ na)) := by
  have la := ha.len; have ka := ha.cap; have ma := ha.max
  replace ha := ha.low
  refine enter Try.func77 rfl Try.ntmps77 rfl ?_
  refine wp_seq_k fun K1 hK1 => ?_
  refine wp_region_lit ?_
  refine sOp rfl (oBox [(.bool ga), (.slice Aa na ca)] rfl rfl ?_)
  intro g2 w3 hg4 hE5 hz6 hB7
  refine sOp rfl (oAlloc [(.bool false), (.slice none 0 0)] zero46 rfl ?_)
  intro g8 w9 hg10 hE11 hz12 hB13
  refine sDone ?_
  refine xN (hK1 _ _ ?_)
  refine wp_seq_k fun K14 hK14 => ?_
  refine wp_region_lit ?_
  refine sEv (v := (.pointer (some ⟨g2, 1, none⟩))) (evFA 1 fa46_1 rfl rfl) rfl rfl ?_
  have hB15 := (hB7.ext hE11)
  refine sEv (v := (.slice Aa na ca)) (evLoadB one44 rfl hB15 rfl) rfl rfl ?_
  have h16 := (ha.ext (hE5.trans hE11))
  refine sOp rfl (oCall rfl call91 (integer_From h16 (by omega)) rfl ?_)
  rintro _ w18 ⟨gr_17, Ar_17, nr_17, cr_17, dr_17, rfl, hE19, hr_17, v_17, cn_17, le_17⟩
  have hz20 := hE19.size
  have lr_17 := hr_17.len; have kr_17 := hr_17.cap; have mr_17 := hr_17.max
  have hB22 := (hB13.ext hE19)
  refine sOp rfl (oStore [(.bool gr_17), (.slice Ar_17 nr_17 cr_17)] rfl rfl rfl sz46 rfl hB22 (Nat.le_of_ble_eq_true rfl) ?_)
  intro w23 hU24 hz25 hB26
  replace hB26 : Blk w23 g8 46 [(.bool gr_17), (.slice Ar_17 nr_17 cr_17)] := hB26
  refine sDone ?_
  refine xN (hK14 _ _ ?_)
  refine wp_ret ?_
  refine ret1 (.agg #[(.bool gr_17), (.slice Ar_17 nr_17 cr_17)]) Try.results77 (resB [(.bool gr_17), (.slice Ar_17 nr_17 cr_17)] agg46 sz46 rfl hB26) ?_
  have h27 := (hr_17.frmB hU24 q3)
  exact ⟨gr_17, Ar_17, nr_17, cr_17, dr_17, rfl, (Frm.mono ((((Frm.of_ext (G := fun b => (b = g8)) hE5).trans (Frm.of_ext (G := fun b => (b = g8)) hE11)).trans (Frm.of_ext (G := fun b => (b = g8)) hE19)).trans hU24) q4), (NatR.sub h27 q5), (by rw [v_17, zval_false]), cn_17, (by omega)⟩

theorem integer_Sign {w : World} {ga : Bool} {Sa : Nat → Prop} {Aa : Option Addr} {na ca : Nat} {da : List Nat} (ha : NatR w Sa Aa na ca da)  : Calls Try.prog 62 #[(.agg #[(.bool ga), (.slice Aa na ca)])] w (Ret fun v w' => ∃ (xr : Int), v = (.int .i64 (xr)) ∧ Ext w w' ∧ (xr = (zval ga da).sign)) := by
  have la := ha.len; have ka := ha.cap; have ma := ha.max
  replace ha := ha.low
  refine enter Try.func62 rfl Try.ntmps62 rfl ?_
  refine wp_seq_k fun K1 hK1 => ?_
  refine wp_region_lit ?_
  refine sOp rfl (oBox [(.bool ga), (.slice Aa na ca)] rfl rfl ?_)
  intro g2 w3 hg4 hE5 hz6 hB7
  refine sEv (v := (.int .i64 (0))) (rfl) rfl rfl ?_
  refine sDone ?_
  refine xN (hK1 _ _ ?_)
  refine wp_seq_k fun K8 hK8 => ?_
  refine wp_block ?_
  refine wp_seq_k fun K9 hK9 => ?_
  refine wp_region_lit ?_
  refine sEv (v := (.pointer (some ⟨g2, 1, none⟩))) (evFA 1 fa46_1 rfl rfl) rfl rfl ?_
  refine sEv (v := (.slice Aa na ca)) (evLoadB one44 rfl hB7 rfl) rfl rfl ?_
  have h10 := (ha.ext hE5)
  refine sOp rfl (oCall rfl call94 (natural_IsZero h10) rfl ?_)
  rintro _ w12 ⟨gr_11, rfl, hE13, e_11⟩
  have hz14 := hE13.size
  refine sEv (v := (.bool gr_11)) (rfl) rfl rfl ?_
  refine sDone ?_
  refine xN (hK9 _ _ ?_)
  refine cB gr_11 rfl ?_ ?_
  · intro hc15
    subst hc15
    refine wp_seq_k fun K16 hK16 => ?_
    refine wp_region_lit ?_
    refine sEv (v := (.int .i64 (0))) (rfl) rfl rfl ?_
    refine sDone ?_
    refine xN (hK16 _ _ ?_)
    refine wp_ret (bR (xR ?_))
    refine ret1 (.int .i64 (0)) Try.results62 (resT rfl) ?_
    exact ⟨(0), rfl, (hE5.trans hE13), (sign_zero e_11)⟩
  · intro hc15
    subst hc15
    refine wp_seq_k fun K17 hK17 => ?_
    refine wp_region_lit ?_
    refine sEv (v := (.pointer (some ⟨g2, 0, none⟩))) (evFA 0 fa46_0 rfl rfl) rfl rfl ?_
    have hB18 := (hB7.ext hE13)
    refine sEv (v := (.bool ga)) (evLoadB one4 rfl hB18 rfl) rfl rfl ?_
    refine sEv (v := (.bool ga)) (rfl) rfl rfl ?_
    refine sDone ?_
    refine xN (hK17 _ _ ?_)
    refine cB ga rfl ?_ ?_
    · intro hc19
      subst hc19
      refine wp_seq_k fun K20 hK20 => ?_
      refine wp_region_lit ?_
      refine sEv (v := (.int .i64 ((-1)))) (rfl) rfl rfl ?_
      refine sDone ?_
      refine xN (hK20 _ _ ?_)
      refine wp_ret (bR (xR ?_))
      refine ret1 (.int .i64 ((-1))) Try.results62 (resT rfl) ?_
      exact ⟨((-1)), rfl, (hE5.trans hE13), (sign_neg e_11)⟩
    · intro hc19
      subst hc19
      refine wp_skip ?_
      refine bN ?_
      refine xN (hK8 _ _ ?_)
      refine wp_seq_k fun K21 hK21 => ?_
      refine wp_region_lit ?_
      refine sEv (v := (.int .i64 (1))) (rfl) rfl rfl ?_
      refine sDone ?_
      refine xN (hK21 _ _ ?_)
      refine wp_ret ?_
      refine ret1 (.int .i64 (1)) Try.results62 (resT rfl) ?_
      exact ⟨(1), rfl, (hE5.trans hE13), (sign_pos e_11)⟩

theorem integer_Cmp {w : World} {ga : Bool} {Sa : Nat → Prop} {Aa : Option Addr} {na ca : Nat} {da : List Nat} {gb : Bool} {Sb : Nat → Prop} {Ab : Option Addr} {nb cb : Nat} {db : List Nat} (ha : NatR w Sa Aa na ca da) (hb : NatR w Sb Ab nb cb db)  : Calls Try.prog 82 #[(.agg #[(.bool ga), (.slice Aa na ca)]), (.agg #[(.bool gb), (.slice Ab nb cb)])] w (Ret fun v w' => ∃ (xr : Int), v = (.int .i64 (xr)) ∧ Ext w w' ∧ (xr = cmpZ (zval ga da) (zval gb db))) := by
  have la := ha.len; have ka := ha.cap; have ma := ha.max
  replace ha := ha.low
  have lb := hb.len; have kb := hb.cap; have mb := hb.max
  replace hb := hb.low
  refine enter Try.func82 rfl Try.ntmps82 rfl ?_
  refine wp_seq_k fun K1 hK1 => ?_
  refine wp_region_lit ?_
  refine sOp rfl (oBox [(.bool ga), (.slice Aa na ca)] rfl rfl ?_)
  intro g2 w3 hg4 hE5 hz6 hB7
  refine sOp rfl (oBox [(.bool gb), (.slice Ab nb cb)] rfl rfl ?_)
  intro g8 w9 hg10 hE11 hz12 hB13
  refine sEv (v := (.int .i64 (0))) (rfl) rfl rfl ?_
  refine sDone ?_
  refine xN (hK1 _ _ ?_)
  refine wp_seq_k fun K14 hK14 => ?_
  refine dBegin (fun _ => False) mixed ?_
  intro w15 hE16 hz17
  have hB18 := (hB7.ext (hE11.trans hE16))
  refine dEv 0 rfl (v := (.agg #[(.bool ga), (.slice Aa na ca)])) (fun _ hf => evLoadAB [(.bool ga), (.slice Aa na ca)] agg46 sz46 rfl (hB18.ext hf) rfl) rfl rfl (by kernel_rfl) ?_
  have hB19 := (hB13.ext hE16)
  refine dEv 2 rfl (v := (.agg #[(.bool gb), (.slice Ab nb cb)])) (fun _ hf => evLoadAB [(.bool gb), (.slice Ab nb cb)] agg46 sz46 rfl (hB19.ext hf) rfl) rfl rfl (by kernel_rfl) ?_
  have h20 := (ha.ext ((hE5.trans hE11).trans hE16))
  refine dOp 1 rfl rfl (by kernel_rfl) (oCall rfl call62 (integer_Sign h20) rfl ?_)
  rintro _ w22 ⟨xr_21, rfl, hE23, e_21⟩
  refine ⟨(Frm.of_ext hE23), ?_⟩
  have hz24 := hE23.size
  have h25 := (hb.ext (((hE5.trans hE11).trans hE16).trans hE23))
  refine dOp 3 rfl rfl (by kernel_rfl) (oCall rfl call62 (integer_Sign h25) rfl ?_)
  rintro _ w27 ⟨xr_26, rfl, hE28, e_26⟩
  refine ⟨(Frm.of_ext hE28), ?_⟩
  have hz29 := hE28.size
  refine dEv 4 rfl (v := (.int .i64 (xr_21))) (fun _ _ => rfl) rfl rfl (by kernel_rfl) ?_
  refine dEv 5 rfl (v := (.int .i64 (xr_26))) (fun _ _ => rfl) rfl rfl (by kernel_rfl) ?_
  refine dDone (by kernel_rfl) ?_
  refine xN (hK14 _ _ ?_)
  refine wp_seq_k fun K30 hK30 => ?_
  refine wp_block ?_
  refine wp_seq_k fun K31 hK31 => ?_
  refine wp_region_lit ?_
  refine sEv (v := (.int .i64 (xr_21))) (rfl) rfl rfl ?_
  refine sEv (v := (.int .i64 (xr_26))) (rfl) rfl rfl ?_
  by_cases hc32 : xr_21 < xr_26
  · refine sEv (v := (.bool true)) (evLss true rfl rfl (dT hc32)) rfl rfl ?_
    refine sEv (v := (.bool true)) (rfl) rfl rfl ?_
    refine sDone ?_
    refine xN (hK31 _ _ ?_)
    refine cT rfl ?_
    refine wp_seq_k fun K33 hK33 => ?_
    refine wp_region_lit ?_
    refine sEv (v := (.int .i64 ((-1)))) (rfl) rfl rfl ?_
    refine sDone ?_
    refine xN (hK33 _ _ ?_)
    refine wp_ret (bR (xR ?_))
    refine ret1 (.int .i64 ((-1))) Try.results82 (resT rfl) ?_
    exact ⟨((-1)), rfl, ((((hE5.trans hE11).trans hE16).trans hE23).trans hE28), (icmp_lt e_21 e_26 hc32)⟩
  · refine sEv (v := (.bool false)) (evLss false rfl rfl (dF hc32)) rfl rfl ?_
    refine sEv (v := (.bool false)) (rfl) rfl rfl ?_
    refine sDone ?_
    refine xN (hK31 _ _ ?_)
    refine cF rfl ?_
    refine wp_seq_k fun K34 hK34 => ?_
    refine wp_region_lit ?_
    refine sEv (v := (.int .i64 (xr_21))) (rfl) rfl rfl ?_
    refine sEv (v := (.int .i64 (xr_26))) (rfl) rfl rfl ?_
    by_cases hc35 : xr_21 > xr_26
    · refine sEv (v := (.bool true)) (evGtr true rfl rfl (dT hc35)) rfl rfl ?_
      refine sEv (v := (.bool true)) (rfl) rfl rfl ?_
      refine sDone ?_
      refine xN (hK34 _ _ ?_)
      refine cT rfl ?_
      refine wp_seq_k fun K36 hK36 => ?_
      refine wp_region_lit ?_
      refine sEv (v := (.int .i64 (1))) (rfl) rfl rfl ?_
      refine sDone ?_
      refine xN (hK36 _ _ ?_)
      refine wp_ret (bR (xR ?_))
      refine ret1 (.int .i64 (1)) Try.results82 (resT rfl) ?_
      exact ⟨(1), rfl, ((((hE5.trans hE11).trans hE16).trans hE23).trans hE28), (icmp_gt e_21 e_26 hc35)⟩
    · refine sEv (v := (.bool false)) (evGtr false rfl rfl (dF hc35)) rfl rfl ?_
      refine sEv (v := (.bool false)) (rfl) rfl rfl ?_
      refine sDone ?_
      refine xN (hK34 _ _ ?_)
      refine cF rfl ?_
      refine wp_seq_k fun K37 hK37 => ?_
      refine wp_region_lit ?_
      refine sEv (v := (.int .i64 (xr_21))) (rfl) rfl rfl ?_
      by_cases hc38 : xr_21 < 0
      · refine sEv (v := (.bool true)) (evLss true rfl rfl (dT hc38)) rfl rfl ?_
        refine sEv (v := (.bool true)) (rfl) rfl rfl ?_
        refine sDone ?_
        refine xN (hK37 _ _ ?_)
        refine cT rfl ?_
        refine wp_seq_k fun K39 hK39 => ?_
        refine wp_region_lit ?_
        refine sEv (v := (.pointer (some ⟨g8, 1, none⟩))) (evFA 1 fa46_1 rfl rfl) rfl rfl ?_
        have hB40 := (hB19.ext (hE23.trans hE28))
        refine sEv (v := (.slice Ab nb cb)) (evLoadB one44 rfl hB40 rfl) rfl rfl ?_
        refine sEv (v := (.pointer (some ⟨g2, 1, none⟩))) (evFA 1 fa46_1 rfl rfl) rfl rfl ?_
        have hB41 := (hB18.ext (hE23.trans hE28))
        refine sEv (v := (.slice Aa na ca)) (evLoadB one44 rfl hB41 rfl) rfl rfl ?_
        have h42 := (h25.ext hE28)
        have h43 := (h20.ext (hE23.trans hE28))
        refine sOp rfl (oCall rfl call76 (natural_Cmp h42 h43) rfl ?_)
        rintro _ w45 ⟨xr_44, rfl, hE46, e_44⟩
        have hz47 := hE46.size
        refine sEv (v := (.int .i64 (xr_44))) (rfl) rfl rfl ?_
        refine sDone ?_
        refine xN (hK39 _ _ ?_)
        refine wp_ret (bR (xR ?_))
        refine ret1 (.int .i64 (xr_44)) Try.results82 (resT rfl) ?_
        exact ⟨(xr_44), rfl, (((((hE5.trans hE11).trans hE16).trans hE23).trans hE28).trans hE46), (icmp_neg e_21 e_26 hc32 hc35 hc38 e_44)⟩
      · refine sEv (v := (.bool false)) (evLss false rfl rfl (dF hc38)) rfl rfl ?_
        refine sEv (v := (.bool false)) (rfl) rfl rfl ?_
        refine sDone ?_
        refine xN (hK37 _ _ ?_)
        refine cF rfl ?_
        refine wp_skip ?_
        refine bN ?_
        refine xN (hK30 _ _ ?_)
        refine wp_seq_k fun K48 hK48 => ?_
        refine wp_region_lit ?_
        refine sEv (v := (.pointer (some ⟨g2, 1, none⟩))) (evFA 1 fa46_1 rfl rfl) rfl rfl ?_
        have hB49 := (hB18.ext (hE23.trans hE28))
        refine sEv (v := (.slice Aa na ca)) (evLoadB one44 rfl hB49 rfl) rfl rfl ?_
        refine sEv (v := (.pointer (some ⟨g8, 1, none⟩))) (evFA 1 fa46_1 rfl rfl) rfl rfl ?_
        have hB50 := (hB19.ext (hE23.trans hE28))
        refine sEv (v := (.slice Ab nb cb)) (evLoadB one44 rfl hB50 rfl) rfl rfl ?_
        have h51 := (h20.ext (hE23.trans hE28))
        have h52 := (h25.ext hE28)
        refine sOp rfl (oCall rfl call76 (natural_Cmp h51 h52) rfl ?_)
        rintro _ w54 ⟨xr_53, rfl, hE55, e_53⟩
        have hz56 := hE55.size
        refine sEv (v := (.int .i64 (xr_53))) (rfl) rfl rfl ?_
        refine sDone ?_
        refine xN (hK48 _ _ ?_)
        refine wp_ret ?_
        refine ret1 (.int .i64 (xr_53)) Try.results82 (resT rfl) ?_
        exact ⟨(xr_53), rfl, (((((hE5.trans hE11).trans hE16).trans hE23).trans hE28).trans hE55), (icmp_pos e_21 e_26 hc32 hc35 hc38 e_53)⟩

theorem integer_Same {w : World} {ga : Bool} {Sa : Nat → Prop} {Aa : Option Addr} {na ca : Nat} {da : List Nat} {gb : Bool} {Sb : Nat → Prop} {Ab : Option Addr} {nb cb : Nat} {db : List Nat} (ha : NatR w Sa Aa na ca da) (hb : NatR w Sb Ab nb cb db)  : Calls Try.prog 64 #[(.agg #[(.bool ga), (.slice Aa na ca)]), (.agg #[(.bool gb), (.slice Ab nb cb)])] w (Ret fun v w' => ∃ (gr : Bool), v = (.bool gr) ∧ Ext w w' ∧ (gr = decide (zval ga da = zval gb db))) := by
  have la := ha.len; have ka := ha.cap; have ma := ha.max
  replace ha := ha.low
  have lb := hb.len; have kb := hb.cap; have mb := hb.max
  replace hb := hb.low
  refine enter Try.func64 rfl Try.ntmps64 rfl ?_
  refine wp_seq_k fun K1 hK1 => ?_
  refine wp_region_lit ?_
  refine sOp rfl (oBox [(.bool ga), (.slice Aa na ca)] rfl rfl ?_)
  intro g2 w3 hg4 hE5 hz6 hB7
  refine sOp rfl (oBox [(.bool gb), (.slice Ab nb cb)] rfl rfl ?_)
  intro g8 w9 hg10 hE11 hz12 hB13
  refine sEv (v := (.bool false)) (rfl) rfl rfl ?_
  refine sDone ?_
  refine xN (hK1 _ _ ?_)
  refine wp_seq_k fun K14 hK14 => ?_
  refine wp_region_lit ?_
  have hB15 := (hB7.ext hE11)
  refine sEv (v := (.agg #[(.bool ga), (.slice Aa na ca)])) (evLoadAB [(.bool ga), (.slice Aa na ca)] agg46 sz46 rfl hB15 rfl) rfl rfl ?_
  refine sEv (v := (.agg #[(.bool gb), (.slice Ab nb cb)])) (evLoadAB [(.bool gb), (.slice Ab nb cb)] agg46 sz46 rfl hB13 rfl) rfl rfl ?_
  have h16 := (ha.ext (hE5.trans hE11))
  have h17 := (hb.ext (hE5.trans hE11))
  refine sOp rfl (oCall rfl call82 (integer_Cmp h16 h17) rfl ?_)
  rintro _ w19 ⟨xr_18, rfl, hE20, e_18⟩
  have hz21 := hE20.size
  refine sEv (v := (.bool (decide (zval ga da = zval gb db)))) (evEql (decide (zval ga da = zval gb db)) rfl rfl (cmpZ_zero e_18)) rfl rfl ?_
  refine sEv (v := (.bool (decide (zval ga da = zval gb db)))) (rfl) rfl rfl ?_
  refine sDone ?_
  refine xN (hK14 _ _ ?_)
  refine wp_ret ?_
  refine ret1 (.bool (decide (zval ga da = zval gb db))) Try.results64 (resT rfl) ?_
  exact ⟨(decide (zval ga da = zval gb db)), rfl, ((hE5.trans hE11).trans hE20), rfl⟩

theorem integer_Add {w : World} {ga : Bool} {Sa : Nat → Prop} {Aa : Option Addr} {na ca : Nat} {da : List Nat} {gb : Bool} {Sb : Nat → Prop} {Ab : Option Addr} {nb cb : Nat} {db : List Nat} (ha : NatR w Sa Aa na ca da) (hb : NatR w Sb Ab nb cb db) (hna : na ≤ 1099511627776) (hnb : nb ≤ 1099511627776) : Calls Try.prog 56 #[(.agg #[(.bool ga), (.slice Aa na ca)]), (.agg #[(.bool gb), (.slice Ab nb cb)])] w (Ret fun v w' => ∃ (gr : Bool) (Ar : Option Addr) (nr : Nat) (cr : Nat) (dr : List Nat), v = (.agg #[(.bool gr), (.slice Ar nr cr)]) ∧ Ext w w' ∧ NatR w' (fun b => w.heap.size ≤ b) Ar nr cr dr ∧ (zval gr dr = zval ga da + zval gb db) ∧ (ICan gr dr) ∧ (nr ≤ na + 1 ∨ nr ≤ nb + 1)) := by
  have la := ha.len; have ka := ha.cap; have ma := ha.max
  replace ha := ha.low
  have lb := hb.len; have kb := hb.cap; have mb := hb.max
  replace hb := hb.low
  refine enter Try.func56 rfl Try.ntmps56 rfl ?_
  refine wp_seq_k fun K1 hK1 => ?_
  refine wp_region_lit ?_
  refine sOp rfl (oBox [(.bool ga), (.slice Aa na ca)] rfl rfl ?_)
  intro g2 w3 hg4 hE5 hz6 hB7
  refine sOp rfl (oBox [(.bool gb), (.slice Ab nb cb)] rfl rfl ?_)
  intro g8 w9 hg10 hE11 hz12 hB13
  refine sOp rfl (oAlloc [(.bool false), (.slice none 0 0)] zero46 rfl ?_)
  intro g14 w15 hg16 hE17 hz18 hB19
  refine sDone ?_
  refine xN (hK1 _ _ ?_)
  refine wp_seq_k fun K20 hK20 => ?_
  refine wp_block ?_
  refine wp_seq_k fun K21 hK21 => ?_
  refine wp_region_lit ?_
  refine sEv (v := (.pointer (some ⟨g2, 0, none⟩))) (evFA 0 fa46_0 rfl rfl) rfl rfl ?_
  have hB22 := (hB7.ext (hE11.trans hE17))
  refine sEv (v := (.bool ga)) (evLoadB one4 rfl hB22 rfl) rfl rfl ?_
  refine sEv (v := (.pointer (some ⟨g8, 0, none⟩))) (evFA 0 fa46_0 rfl rfl) rfl rfl ?_
  have hB23 := (hB13.ext hE17)
  refine sEv (v := (.bool gb)) (evLoadB one4 rfl hB23 rfl) rfl rfl ?_
  refine sEv (v := (.bool (ga == gb))) (evEqlB _ Try.underlying4 rfl rfl rfl) rfl rfl ?_
  refine sEv (v := (.bool (ga == gb))) (rfl) rfl rfl ?_
  refine sDone ?_
  refine xN (hK21 _ _ ?_)
  refine cB (ga == gb) rfl ?_ ?_
  · intro hc24
    refine wp_seq_k fun K25 hK25 => ?_
    refine dBegin (fun b => b = g14) mixed ?_
    intro w26 hE27 hz28
    refine dEv 0 rfl (v := (.pointer (some ⟨g2, 0, none⟩))) (fun _ _ => evFA 0 fa46_0 rfl rfl) rfl rfl (by kernel_rfl) ?_
    have hB29 := (hB22.ext hE27)
    refine dEv 1 rfl (v := (.bool ga)) (fun _ hf => evLoadB one4 rfl (hB29.frm hf q1) rfl) rfl rfl (by kernel_rfl) ?_
    refine dEv 2 rfl (v := (.pointer (some ⟨g2, 1, none⟩))) (fun _ _ => evFA 1 fa46_1 rfl rfl) rfl rfl (by kernel_rfl) ?_
    refine dEv 3 rfl (v := (.slice Aa na ca)) (fun _ hf => evLoadB one44 rfl (hB29.frm hf q1) rfl) rfl rfl (by kernel_rfl) ?_
    refine dEv 4 rfl (v := (.pointer (some ⟨g8, 1, none⟩))) (fun _ _ => evFA 1 fa46_1 rfl rfl) rfl rfl (by kernel_rfl) ?_
    have hB30 := (hB23.ext hE27)
    refine dEv 5 rfl (v := (.slice Ab nb cb)) (fun _ hf => evLoadB one44 rfl (hB30.frm hf q1) rfl) rfl rfl (by kernel_rfl) ?_
    have h31 := (ha.ext (((hE5.trans hE11).trans hE17).trans hE27))
    have h32 := (hb.ext (((hE5.trans hE11).trans hE17).trans hE27))
    refine dOp 6 rfl rfl (by kernel_rfl) (oCall rfl call89 (natural_Add h31 h32 (by omega) (by omega)) rfl ?_)
    rintro _ w34 ⟨Ar_33, nr_33, cr_33, dr_33, rfl, hE35, hr_33, v_33, cn_33, le_33⟩
    refine ⟨(Frm.of_ext hE35), ?_⟩
    have hz36 := hE35.size
    have lr_33 := hr_33.len; have kr_33 := hr_33.cap; have mr_33 := hr_33.max
    refine dOp 7 rfl rfl (by kernel_rfl) (oCall rfl call88 (integer_signed hr_33) rfl ?_)
    rintro _ w39 ⟨gr_38, Ar_38, nr_38, cr_38, dr_38, rfl, hE40, hr_38, e_38, d_38, ln_38⟩
    refine ⟨(Frm.of_ext hE40), ?_⟩
    have hz41 := hE40.size
    have lr_38 := hr_38.len; have kr_38 := hr_38.cap; have mr_38 := hr_38.max
    have hB43 := (hB19.ext ((hE27.trans hE35).trans hE40))
    refine dOp 8 rfl rfl (by kernel_rfl) (oStore [(.bool gr_38), (.slice Ar_38 nr_38 cr_38)] rfl rfl rfl sz46 rfl hB43 (Nat.le_of_ble_eq_true rfl) ?_)
    intro w44 hU45 hz46 hB47
    replace hB47 : Blk w44 g14 46 [(.bool gr_38), (.slice Ar_38 nr_38 cr_38)] := hB47
    refine ⟨hU45, ?_⟩
    refine dDone (by kernel_rfl) ?_
    refine xN (hK25 _ _ ?_)
    refine wp_ret (bR (xR ?_))
    refine ret1 (.agg #[(.bool gr_38), (.slice Ar_38 nr_38 cr_38)]) Try.results56 (resB [(.bool gr_38), (.slice Ar_38 nr_38 cr_38)] agg46 sz46 rfl hB47) ?_
    have h48 := (hr_38.frmB hU45 q3)
    exact ⟨gr_38, Ar_38, nr_38, cr_38, dr_38, rfl, (Frm.mono (((((((Frm.of_ext (G := fun b => (b = g14)) hE5).trans (Frm.of_ext (G := fun b => (b = g14)) hE11)).trans (Frm.of_ext (G := fun b => (b = g14)) hE17)).trans (Frm.of_ext (G := fun b => (b = g14)) hE27)).trans (Frm.of_ext (G := fun b => (b = g14)) hE35)).trans (Frm.of_ext (G := fun b => (b = g14)) hE40)).trans hU45) q4), (NatR.sub h48 q5), (by rw [signed_val e_38 d_38 lr_33]; exact iadd_same hc24 v_33), (signed_can e_38 d_38 lr_33 cn_33), (by omega)⟩
  · intro hc24
    refine wp_seq_k fun K49 hK49 => ?_
    refine wp_region_lit ?_
    refine sEv (v := (.pointer (some ⟨g2, 1, none⟩))) (evFA 1 fa46_1 rfl rfl) rfl rfl ?_
    refine sEv (v := (.slice Aa na ca)) (evLoadB one44 rfl hB22 rfl) rfl rfl ?_
    refine sEv (v := (.pointer (some ⟨g8, 1, none⟩))) (evFA 1 fa46_1 rfl rfl) rfl rfl ?_
    refine sEv (v := (.slice Ab nb cb)) (evLoadB one44 rfl hB23 rfl) rfl rfl ?_
    have h50 := (ha.ext ((hE5.trans hE11).trans hE17))
    have h51 := (hb.ext ((hE5.trans hE11).trans hE17))
    refine sOp rfl (oCall rfl call76 (natural_Cmp h50 h51) rfl ?_)
    rintro _ w53 ⟨xr_52, rfl, hE54, e_52⟩
    have hz55 := hE54.size
    by_cases hc56 : xr_52 ≥ 0
    · refine sEv (v := (.bool true)) (evGeq true rfl rfl (dT hc56)) rfl rfl ?_
      refine sEv (v := (.bool true)) (rfl) rfl rfl ?_
      refine sDone ?_
      refine xN (hK49 _ _ ?_)
      refine cT rfl ?_
      refine wp_seq_k fun K57 hK57 => ?_
      refine wp_region_lit ?_
      refine sEv (v := (.pointer (some ⟨g2, 1, none⟩))) (evFA 1 fa46_1 rfl rfl) rfl rfl ?_
      have hB58 := (hB22.ext hE54)
      refine sEv (v := (.slice Aa na ca)) (evLoadB one44 rfl hB58 rfl) rfl rfl ?_
      refine sEv (v := (.pointer (some ⟨g8, 1, none⟩))) (evFA 1 fa46_1 rfl rfl) rfl rfl ?_
      have hB59 := (hB23.ext hE54)
      refine sEv (v := (.slice Ab nb cb)) (evLoadB one44 rfl hB59 rfl) rfl rfl ?_
      have h60 := (h50.ext hE54)
      have h61 := (h51.ext hE54)
      refine sOp rfl (oCall rfl call90 (natural_Sub h60 h61 (by omega) (by omega)) rfl ?_)
      rintro _ w63 ⟨Ar_62, nr_62, cr_62, dr_62, gk_62, rfl, hE64, hr_62, k_62, v_62, cn_62, le_62⟩
      have hz65 := hE64.size
      have lr_62 := hr_62.len; have kr_62 := hr_62.cap; have mr_62 := hr_62.max
      refine sEv (v := (.tuple #[(.slice Ar_62 nr_62 cr_62), (.bool gk_62)])) (rfl) rfl rfl ?_
      refine sEv (v := (.slice Ar_62 nr_62 cr_62)) (rfl) rfl rfl ?_
      refine sEv (v := (.bool gk_62)) (rfl) rfl rfl ?_
      refine sEv (v := (.slice Ar_62 nr_62 cr_62)) (rfl) rfl rfl ?_
      refine sEv (v := (.bool gk_62)) (rfl) rfl rfl ?_
      refine sDone ?_
      refine xN (hK57 _ _ ?_)
      refine wp_seq_k fun K67 hK67 => ?_
      refine wp_region_lit ?_
      refine sEv (v := (.pointer (some ⟨g2, 0, none⟩))) (evFA 0 fa46_0 rfl rfl) rfl rfl ?_
      have hB68 := (hB58.ext hE64)
      refine sEv (v := (.bool ga)) (evLoadB one4 rfl hB68 rfl) rfl rfl ?_
      refine sEv (v := (.slice Ar_62 nr_62 cr_62)) (rfl) rfl rfl ?_
      refine sOp rfl (oCall rfl call88 (integer_signed hr_62) rfl ?_)
      rintro _ w70 ⟨gr_69, Ar_69, nr_69, cr_69, dr_69, rfl, hE71, hr_69, e_69, d_69, ln_69⟩
      have hz72 := hE71.size
      have lr_69 := hr_69.len; have kr_69 := hr_69.cap; have mr_69 := hr_69.max
      have hB74 := (hB19.ext ((hE54.trans hE64).trans hE71))
      refine sOp rfl (oStore [(.bool gr_69), (.slice Ar_69 nr_69 cr_69)] rfl rfl rfl sz46 rfl hB74 (Nat.le_of_ble_eq_true rfl) ?_)
      intro w75 hU76 hz77 hB78
      replace hB78 : Blk w75 g14 46 [(.bool gr_69), (.slice Ar_69 nr_69 cr_69)] := hB78
      refine sDone ?_
      refine xN (hK67 _ _ ?_)
      refine wp_ret (bR (xR ?_))
      refine ret1 (.agg #[(.bool gr_69), (.slice Ar_69 nr_69 cr_69)]) Try.results56 (resB [(.bool gr_69), (.slice Ar_69 nr_69 cr_69)] agg46 sz46 rfl hB78) ?_
      have h79 := (hr_69.frmB hU76 q3)
      exact ⟨gr_69, Ar_69, nr_69, cr_69, dr_69, rfl, (Frm.mono (((((((Frm.of_ext (G := fun b => (b = g14)) hE5).trans (Frm.of_ext (G := fun b => (b = g14)) hE11)).trans (Frm.of_ext (G := fun b => (b = g14)) hE17)).trans (Frm.of_ext (G := fun b => (b = g14)) hE54)).trans (Frm.of_ext (G := fun b => (b = g14)) hE64)).trans (Frm.of_ext (G := fun b => (b = g14)) hE71)).trans hU76) q4), (NatR.sub h79 q5), (by rw [signed_val e_69 d_69 lr_62]; exact iadd_ge hc24 e_52 hc56 v_62), (signed_can e_69 d_69 lr_62 cn_62), (by omega)⟩
    · refine sEv (v := (.bool false)) (evGeq false rfl rfl (dF hc56)) rfl rfl ?_
      refine sEv (v := (.bool false)) (rfl) rfl rfl ?_
      refine sDone ?_
      refine xN (hK49 _ _ ?_)
      refine cF rfl ?_
      refine wp_skip ?_
      refine bN ?_
      refine xN (hK20 _ _ ?_)
      refine wp_seq_k fun K80 hK80 => ?_
      refine wp_region_lit ?_
      refine sEv (v := (.pointer (some ⟨g8, 1, none⟩))) (evFA 1 fa46_1 rfl rfl) rfl rfl ?_
      have hB81 := (hB23.ext hE54)
      refine sEv (v := (.slice Ab nb cb)) (evLoadB one44 rfl hB81 rfl) rfl rfl ?_
      refine sEv (v := (.pointer (some ⟨g2, 1, none⟩))) (evFA 1 fa46_1 rfl rfl) rfl rfl ?_
      have hB82 := (hB22.ext hE54)
      refine sEv (v := (.slice Aa na ca)) (evLoadB one44 rfl hB82 rfl) rfl rfl ?_
      have h83 := (h51.ext hE54)
      have h84 := (h50.ext hE54)
      refine sOp rfl (oCall rfl call90 (natural_Sub h83 h84 (by omega) (by omega)) rfl ?_)
      rintro _ w86 ⟨Ar_85, nr_85, cr_85, dr_85, gk_85, rfl, hE87, hr_85, k_85, v_85, cn_85, le_85⟩
      have hz88 := hE87.size
      have lr_85 := hr_85.len; have kr_85 := hr_85.cap; have mr_85 := hr_85.max
      refine sEv (v := (.tuple #[(.slice Ar_85 nr_85 cr_85), (.bool gk_85)])) (rfl) rfl rfl ?_
      refine sEv (v := (.slice Ar_85 nr_85 cr_85)) (rfl) rfl rfl ?_
      refine sEv (v := (.bool gk_85)) (rfl) rfl rfl ?_
      refine sEv (v := (.slice Ar_85 nr_85 cr_85)) (rfl) rfl rfl ?_
      refine sEv (v := (.bool gk_85)) (rfl) rfl rfl ?_
      refine sDone ?_
      refine xN (hK80 _ _ ?_)
      refine wp_seq_k fun K90 hK90 => ?_
      refine wp_region_lit ?_
      refine sEv (v := (.pointer (some ⟨g8, 0, none⟩))) (evFA 0 fa46_0 rfl rfl) rfl rfl ?_
      have hB91 := (hB81.ext hE87)
      refine sEv (v := (.bool gb)) (evLoadB one4 rfl hB91 rfl) rfl rfl ?_
      refine sEv (v := (.slice Ar_85 nr_85 cr_85)) (rfl) rfl rfl ?_
      refine sOp rfl (oCall rfl call88 (integer_signed hr_85) rfl ?_)
      rintro _ w93 ⟨gr_92, Ar_92, nr_92, cr_92, dr_92, rfl, hE94, hr_92, e_92, d_92, ln_92⟩
      have hz95 := hE94.size
      have lr_92 := hr_92.len; have kr_92 := hr_92.cap; have mr_92 := hr_92.max
      have hB97 := (hB19.ext ((hE54.trans hE87).trans hE94))
      refine sOp rfl (oStore [(.bool gr_92), (.slice Ar_92 nr_92 cr_92)] rfl rfl rfl sz46 rfl hB97 (Nat.le_of_ble_eq_true rfl) ?_)
      intro w98 hU99 hz100 hB101
      replace hB101 : Blk w98 g14 46 [(.bool gr_92), (.slice Ar_92 nr_92 cr_92)] := hB101
      refine sDone ?_
      refine xN (hK90 _ _ ?_)
      refine wp_ret ?_
      refine ret1 (.agg #[(.bool gr_92), (.slice Ar_92 nr_92 cr_92)]) Try.results56 (resB [(.bool gr_92), (.slice Ar_92 nr_92 cr_92)] agg46 sz46 rfl hB101) ?_
      have h102 := (hr_92.frmB hU99 q3)
      exact ⟨gr_92, Ar_92, nr_92, cr_92, dr_92, rfl, (Frm.mono (((((((Frm.of_ext (G := fun b => (b = g14)) hE5).trans (Frm.of_ext (G := fun b => (b = g14)) hE11)).trans (Frm.of_ext (G := fun b => (b = g14)) hE17)).trans (Frm.of_ext (G := fun b => (b = g14)) hE54)).trans (Frm.of_ext (G := fun b => (b = g14)) hE87)).trans (Frm.of_ext (G := fun b => (b = g14)) hE94)).trans hU99) q4), (NatR.sub h102 q5), (by rw [signed_val e_92 d_92 lr_85]; exact iadd_lt hc24 e_52 hc56 v_85), (signed_can e_92 d_92 lr_85 cn_85), (by omega)⟩

theorem integer_Sub {w : World} {ga : Bool} {Sa : Nat → Prop} {Aa : Option Addr} {na ca : Nat} {da : List Nat} {gb : Bool} {Sb : Nat → Prop} {Ab : Option Addr} {nb cb : Nat} {db : List Nat} (ha : NatR w Sa Aa na ca da) (hb : NatR w Sb Ab nb cb db) (hna : na ≤ 1099511627776) (hnb : nb ≤ 1099511627776) : Calls Try.prog 72 #[(.agg #[(.bool ga), (.slice Aa na ca)]), (.agg #[(.bool gb), (.slice Ab nb cb)])] w (Ret fun v w' => ∃ (gr : Bool) (Ar : Option Addr) (nr : Nat) (cr : Nat) (dr : List Nat), v = (.agg #[(.bool gr), (.slice Ar nr cr)]) ∧ Ext w w' ∧ NatR w' (fun b => w.heap.size ≤ b) Ar nr cr dr ∧ (zval gr dr = zval ga da - zval gb db) ∧ (ICan gr dr) ∧ (nr ≤ na + 1 ∨ nr ≤ nb + 1)) := by
  have la := ha.len; have ka := ha.cap; have ma := ha.max
  replace ha := ha.low
  have lb := hb.len; have kb := hb.cap; have mb := hb.max
  replace hb := hb.low
  refine enter Try.func72 rfl Try.ntmps72 rfl ?_
  refine wp_seq_k fun K1 hK1 => ?_
  refine wp_region_lit ?_
  refine sOp rfl (oBox [(.bool ga), (.slice Aa na ca)] rfl rfl ?_)
  intro g2 w3 hg4 hE5 hz6 hB7
  refine sOp rfl (oBox [(.bool gb), (.slice Ab nb cb)] rfl rfl ?_)
  intro g8 w9 hg10 hE11 hz12 hB13
  refine sOp rfl (oAlloc [(.bool false), (.slice none 0 0)] zero46 rfl ?_)
  intro g14 w15 hg16 hE17 hz18 hB19
  refine sDone ?_
  refine xN (hK1 _ _ ?_)
  refine wp_seq_k fun K20 hK20 => ?_
  refine wp_region_lit ?_
  have hB21 := (hB7.ext (hE11.trans hE17))
  refine sEv (v := (.agg #[(.bool ga), (.slice Aa na ca)])) (evLoadAB [(.bool ga), (.slice Aa na ca)] agg46 sz46 rfl hB21 rfl) rfl rfl ?_
  refine sEv (v := (.pointer (some ⟨g8, 0, none⟩))) (evFA 0 fa46_0 rfl rfl) rfl rfl ?_
  have hB22 := (hB13.ext hE17)
  refine sEv (v := (.bool gb)) (evLoadB one4 rfl hB22 rfl) rfl rfl ?_
  refine sEv (v := (.bool (!gb))) (evNot _ rfl rfl) rfl rfl ?_
  refine sEv (v := (.pointer (some ⟨g8, 1, none⟩))) (evFA 1 fa46_1 rfl rfl) rfl rfl ?_
  refine sEv (v := (.slice Ab nb cb)) (evLoadB one44 rfl hB22 rfl) rfl rfl ?_
  refine sEv (v := (.agg #[(.bool (!gb)), (.slice Ab nb cb)])) (evK (by kernel_rfl)) rfl rfl ?_
  have h23 := (ha.ext ((hE5.trans hE11).trans hE17))
  have h24 := (hb.ext ((hE5.trans hE11).trans hE17))
  refine sOp rfl (oCall rfl call56 (integer_Add h23 h24 (by omega) (by omega)) rfl ?_)
  rintro _ w26 ⟨gr_25, Ar_25, nr_25, cr_25, dr_25, rfl, hE27, hr_25, v_25, cn_25, le_25⟩
  have hz28 := hE27.size
  have lr_25 := hr_25.len; have kr_25 := hr_25.cap; have mr_25 := hr_25.max
  have hB30 := (hB19.ext hE27)
  refine sOp rfl (oStore [(.bool gr_25), (.slice Ar_25 nr_25 cr_25)] rfl rfl rfl sz46 rfl hB30 (Nat.le_of_ble_eq_true rfl) ?_)
  intro w31 hU32 hz33 hB34
  replace hB34 : Blk w31 g14 46 [(.bool gr_25), (.slice Ar_25 nr_25 cr_25)] := hB34
  refine sDone ?_
  refine xN (hK20 _ _ ?_)
  refine wp_ret ?_
  refine ret1 (.agg #[(.bool gr_25), (.slice Ar_25 nr_25 cr_25)]) Try.results72 (resB [(.bool gr_25), (.slice Ar_25 nr_25 cr_25)] agg46 sz46 rfl hB34) ?_
  have h35 := (hr_25.frmB hU32 q3)
  exact ⟨gr_25, Ar_25, nr_25, cr_25, dr_25, rfl, (Frm.mono (((((Frm.of_ext (G := fun b => (b = g14)) hE5).trans (Frm.of_ext (G := fun b => (b = g14)) hE11)).trans (Frm.of_ext (G := fun b => (b = g14)) hE17)).trans (Frm.of_ext (G := fun b => (b = g14)) hE27)).trans hU32) q4), (NatR.sub h35 q5), (by rw [v_25, zval_not]; omega), cn_25, (by omega)⟩

theorem integer_Mul {w : World} {ga : Bool} {Sa : Nat → Prop} {Aa : Option Addr} {na ca : Nat} {da : List Nat} {gb : Bool} {Sb : Nat → Prop} {Ab : Option Addr} {nb cb : Nat} {db : List Nat} (ha : NatR w Sa Aa na ca da) (hb : NatR w Sb Ab nb cb db) (hna : na + nb ≤ 1099511627776) : Calls Try.prog 69 #[(.agg #[(.bool ga), (.slice Aa na ca)]), (.agg #[(.bool gb), (.slice Ab nb cb)])] w (Ret fun v w' => ∃ (gr : Bool) (Ar : Option Addr) (nr : Nat) (cr : Nat) (dr : List Nat), v = (.agg #[(.bool gr), (.slice Ar nr cr)]) ∧ Ext w w' ∧ NatR w' (fun b => w.heap.size ≤ b) Ar nr cr dr ∧ (zval gr dr = zval ga da * zval gb db) ∧ (ICan gr dr) ∧ (nr ≤ na + nb)) := by
  have la := ha.len; have ka := ha.cap; have ma := ha.max
  replace ha := ha.low
  have lb := hb.len; have kb := hb.cap; have mb := hb.max
  replace hb := hb.low
  refine enter Try.func69 rfl Try.ntmps69 rfl ?_
  refine wp_seq_k fun K1 hK1 => ?_
  refine wp_region_lit ?_
  refine sOp rfl (oBox [(.bool ga), (.slice Aa na ca)] rfl rfl ?_)
  intro g2 w3 hg4 hE5 hz6 hB7
  refine sOp rfl (oBox [(.bool gb), (.slice Ab nb cb)] rfl rfl ?_)
  intro g8 w9 hg10 hE11 hz12 hB13
  refine sOp rfl (oAlloc [(.bool false), (.slice none 0 0)] zero46 rfl ?_)
  intro g14 w15 hg16 hE17 hz18 hB19
  refine sDone ?_
  refine xN (hK1 _ _ ?_)
  refine wp_seq_k fun K20 hK20 => ?_
  refine dBegin (fun b => b = g14) mixed ?_
  intro w21 hE22 hz23
  refine dEv 0 rfl (v := (.pointer (some ⟨g2, 0, none⟩))) (fun _ _ => evFA 0 fa46_0 rfl rfl) rfl rfl (by kernel_rfl) ?_
  have hB24 := (hB7.ext ((hE11.trans hE17).trans hE22))
  refine dEv 1 rfl (v := (.bool ga)) (fun _ hf => evLoadB one4 rfl (hB24.frm hf q1) rfl) rfl rfl (by kernel_rfl) ?_
  refine dEv 2 rfl (v := (.pointer (some ⟨g8, 0, none⟩))) (fun _ _ => evFA 0 fa46_0 rfl rfl) rfl rfl (by kernel_rfl) ?_
  have hB25 := (hB13.ext (hE17.trans hE22))
  refine dEv 3 rfl (v := (.bool gb)) (fun _ hf => evLoadB one4 rfl (hB25.frm hf q1) rfl) rfl rfl (by kernel_rfl) ?_
  refine dEv 4 rfl (v := (.bool (ga != gb))) (fun _ _ => evNeqB _ Try.underlying4 rfl rfl rfl) rfl rfl (by kernel_rfl) ?_
  refine dEv 5 rfl (v := (.pointer (some ⟨g2, 1, none⟩))) (fun _ _ => evFA 1 fa46_1 rfl rfl) rfl rfl (by kernel_rfl) ?_
  refine dEv 6 rfl (v := (.slice Aa na ca)) (fun _ hf => evLoadB one44 rfl (hB24.frm hf q1) rfl) rfl rfl (by kernel_rfl) ?_
  refine dEv 7 rfl (v := (.pointer (some ⟨g8, 1, none⟩))) (fun _ _ => evFA 1 fa46_1 rfl rfl) rfl rfl (by kernel_rfl) ?_
  refine dEv 8 rfl (v := (.slice Ab nb cb)) (fun _ hf => evLoadB one44 rfl (hB25.frm hf q1) rfl) rfl rfl (by kernel_rfl) ?_
  have h26 := (ha.ext (((hE5.trans hE11).trans hE17).trans hE22))
  have h27 := (hb.ext (((hE5.trans hE11).trans hE17).trans hE22))
  refine dOp 9 rfl rfl (by kernel_rfl) (oCall rfl call96 (natural_Mul h26 h27 (by omega)) rfl ?_)
  rintro _ w29 ⟨Ar_28, nr_28, cr_28, dr_28, rfl, hE30, hr_28, v_28, cn_28, le_28⟩
  refine ⟨(Frm.of_ext hE30), ?_⟩
  have hz31 := hE30.size
  have lr_28 := hr_28.len; have kr_28 := hr_28.cap; have mr_28 := hr_28.max
  refine dOp 10 rfl rfl (by kernel_rfl) (oCall rfl call88 (integer_signed hr_28) rfl ?_)
  rintro _ w34 ⟨gr_33, Ar_33, nr_33, cr_33, dr_33, rfl, hE35, hr_33, e_33, d_33, ln_33⟩
  refine ⟨(Frm.of_ext hE35), ?_⟩
  have hz36 := hE35.size
  have lr_33 := hr_33.len; have kr_33 := hr_33.cap; have mr_33 := hr_33.max
  have hB38 := (hB19.ext ((hE22.trans hE30).trans hE35))
  refine dOp 11 rfl rfl (by kernel_rfl) (oStore [(.bool gr_33), (.slice Ar_33 nr_33 cr_33)] rfl rfl rfl sz46 rfl hB38 (Nat.le_of_ble_eq_true rfl) ?_)
  intro w39 hU40 hz41 hB42
  replace hB42 : Blk w39 g14 46 [(.bool gr_33), (.slice Ar_33 nr_33 cr_33)] := hB42
  refine ⟨hU40, ?_⟩
  refine dDone (by kernel_rfl) ?_
  refine xN (hK20 _ _ ?_)
  refine wp_ret ?_
  refine ret1 (.agg #[(.bool gr_33), (.slice Ar_33 nr_33 cr_33)]) Try.results69 (resB [(.bool gr_33), (.slice Ar_33 nr_33 cr_33)] agg46 sz46 rfl hB42) ?_
  have h43 := (hr_33.frmB hU40 q3)
  exact ⟨gr_33, Ar_33, nr_33, cr_33, dr_33, rfl, (Frm.mono (((((((Frm.of_ext (G := fun b => (b = g14)) hE5).trans (Frm.of_ext (G := fun b => (b = g14)) hE11)).trans (Frm.of_ext (G := fun b => (b = g14)) hE17)).trans (Frm.of_ext (G := fun b => (b = g14)) hE22)).trans (Frm.of_ext (G := fun b => (b = g14)) hE30)).trans (Frm.of_ext (G := fun b => (b = g14)) hE35)).trans hU40) q4), (NatR.sub h43 q5), (by rw [signed_val e_33 d_33 lr_28]; exact imul_val v_28), (signed_can e_33 d_33 lr_28 cn_28), (by omega)⟩

end Go.Proofs.Ytppegjbdencefaa
