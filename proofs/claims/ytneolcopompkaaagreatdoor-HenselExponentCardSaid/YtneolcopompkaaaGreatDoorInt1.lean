/-
  Walks of package integer.
-/
import Derived.Test.YtneolcopompkaaaGreatDoorNat4
import Derived.Test.YtneolcopompkaaaGreatDoorLibA
namespace Go.Proofs.YtneolcopompkaaaGreatDoor
open Go.RowKit Go.Gx
theorem integer_signed {w : World} {gn : Bool} {Sa : Nat → Prop} {Aa : Option Addr} {na ca : Nat} {da : List Nat} (ha : NatR w Sa Aa na ca da)  : Calls Tryz.prog 45 #[(.bool gn), (.slice Aa na ca)] w (Ret fun v w' => ∃ (gr : Bool) (Ar : Option Addr) (nr : Nat) (cr : Nat) (dr : List Nat), v = (.agg #[(.bool gr), (.slice Ar nr cr)]) ∧ Ext w w' ∧ NatR w' (Sa) Ar nr cr dr ∧ (gr = (gn && decide (0 < na))) ∧ (dr = da) ∧ (nr = na)) := by
  have ⟨la, ka, ma⟩ := ha.lkm
  refine enter Tryz.func45 rfl Tryz.ntmps45 rfl (rS fun K1 hK1 => sO (oAlloc [(.bool false), (.slice none 0 0)] zero25 rfl (fun g2 w3 hg4 hE5 hz6 hB7 => sK hK1 (rS fun K8 hK8 => sMb rfl (sMb rfl ?_)))))
  cases gn
  · refine sSkip rfl rfl (sSkip rfl rfl (sSkip rfl rfl (sV (v := (.bool false)) (rfl) (sMs rfl (sV (v := (.agg #[(.bool false), (.slice Aa na ca)])) (evK (by kernel_rfl)) (sO (oStore [(.bool false), (.slice Aa na ca)] rfl rfl rfl sz25 rfl hB7 (Nat.le_of_ble_eq_true rfl) (fun w9 hU10 hz11 hB12 => ?_))))))))
    replace hB12 : Blk w9 g2 25 [(.bool false), (.slice Aa na ca)] := hB12
    refine sK hK8 (wp_ret (ret1 (.agg #[(.bool false), (.slice Aa na ca)]) Tryz.results45 (resB [(.bool false), (.slice Aa na ca)] agg25 sz25 rfl hB12) ?_))
    have hR13 := hE5.rx hU10
    have h14 := (ha.frmB hR13 q3)
    exact ⟨false, Aa, na, ca, da, rfl, (Frm.mono hR13 q4), h14, (by simp), rfl, (by omega)⟩
  · refine sEv (v := (.slice Aa na ca)) (rfl) rfl rfl (sEv (v := (.int .i64 ((na : Int)))) (evLen Tryz.underlying23 rfl) rfl rfl ?_)
    by_cases hc15 : ((na : Int)) > 0
    · refine sEv (v := (.bool true)) (evGtr true rfl rfl (dT hc15)) rfl rfl (sV (v := (.bool true)) (rfl) (sMs rfl (sV (v := (.agg #[(.bool true), (.slice Aa na ca)])) (evK (by kernel_rfl)) (sO (oStore [(.bool true), (.slice Aa na ca)] rfl rfl rfl sz25 rfl hB7 (Nat.le_of_ble_eq_true rfl) (fun w16 hU17 hz18 hB19 => ?_))))))
      replace hB19 : Blk w16 g2 25 [(.bool true), (.slice Aa na ca)] := hB19
      refine sK hK8 (wp_ret (ret1 (.agg #[(.bool true), (.slice Aa na ca)]) Tryz.results45 (resB [(.bool true), (.slice Aa na ca)] agg25 sz25 rfl hB19) ?_))
      have hR20 := hE5.rx hU17
      have h21 := (ha.frmB hR20 q3)
      exact ⟨true, Aa, na, ca, da, rfl, (Frm.mono hR20 q4), h21, (by simp; omega), rfl, (by omega)⟩
    · refine sEv (v := (.bool false)) (evGtr false rfl rfl (dF hc15)) rfl rfl (sV (v := (.bool false)) (rfl) (sMs rfl (sV (v := (.agg #[(.bool false), (.slice Aa na ca)])) (evK (by kernel_rfl)) (sO (oStore [(.bool false), (.slice Aa na ca)] rfl rfl rfl sz25 rfl hB7 (Nat.le_of_ble_eq_true rfl) (fun w22 hU23 hz24 hB25 => ?_))))))
      replace hB25 : Blk w22 g2 25 [(.bool false), (.slice Aa na ca)] := hB25
      refine sK hK8 (wp_ret (ret1 (.agg #[(.bool false), (.slice Aa na ca)]) Tryz.results45 (resB [(.bool false), (.slice Aa na ca)] agg25 sz25 rfl hB25) ?_))
      have hR26 := hE5.rx hU23
      have h27 := (ha.frmB hR26 q3)
      exact ⟨false, Aa, na, ca, da, rfl, (Frm.mono hR26 q4), h27, (by simp; omega), rfl, (by omega)⟩
theorem integer_From {w : World} {gn : Bool} {Sa : Nat → Prop} {Aa : Option Addr} {na ca : Nat} {da : List Nat} (ha : NatR w Sa Aa na ca da) (hna : na ≤ 1099511627776) : Calls Tryz.prog 44 #[(.bool gn), (.slice Aa na ca)] w (Ret fun v w' => ∃ (gr : Bool) (Ar : Option Addr) (nr : Nat) (cr : Nat) (dr : List Nat), v = (.agg #[(.bool gr), (.slice Ar nr cr)]) ∧ Ext w w' ∧ NatR w' (fun b => w.heap.size ≤ b) Ar nr cr dr ∧ (zval gr dr = zval gn da) ∧ (ICan gr dr) ∧ (nr ≤ na)) := by
  have ⟨la, ka, ma⟩ := ha.lkm
  replace ha := ha.low
  refine enter Tryz.func44 rfl Tryz.ntmps44 rfl (rS fun K1 hK1 => sO (oAlloc [(.bool false), (.slice none 0 0)] zero25 rfl (fun g2 w3 hg4 hE5 hz6 hB7 => sK hK1 (rS fun K8 hK8 => sMb rfl (sMs rfl ?_)))))
  have h9 := (ha.ext hE5)
  refine sO (oCall rfl call86 (natural_Normal h9 (by omega)) rfl ?_)
  rintro _ w11 ⟨Ar_10, nr_10, cr_10, dr_10, rfl, hE12, hr_10, e_10, le_10⟩
  have hz13 := hE12.size
  have ⟨lr_10, kr_10, mr_10⟩ := hr_10.lkm
  refine sO (oCall rfl call45 (integer_signed hr_10) rfl ?_)
  rintro _ w16 ⟨gr_15, Ar_15, nr_15, cr_15, dr_15, rfl, hE17, hr_15, e_15, d_15, ln_15⟩
  have hz18 := hE17.size
  have ⟨lr_15, kr_15, mr_15⟩ := hr_15.lkm
  have hR20 := hE12.trans hE17
  have hB21 := (hB7.ext hR20)
  refine sO (oStore [(.bool gr_15), (.slice Ar_15 nr_15 cr_15)] rfl rfl rfl sz25 rfl hB21 (Nat.le_of_ble_eq_true rfl) (fun w22 hU23 hz24 hB25 => ?_))
  replace hB25 : Blk w22 g2 25 [(.bool gr_15), (.slice Ar_15 nr_15 cr_15)] := hB25
  refine sK hK8 (wp_ret (ret1 (.agg #[(.bool gr_15), (.slice Ar_15 nr_15 cr_15)]) Tryz.results44 (resB [(.bool gr_15), (.slice Ar_15 nr_15 cr_15)] agg25 sz25 rfl hB25) ?_))
  have h26 := (hr_15.frmB hU23 q3)
  have hR27 := ((hE5.trans hE12).trans hE17).rx hU23
  exact ⟨gr_15, Ar_15, nr_15, cr_15, dr_15, rfl, (Frm.mono hR27 q4), (NatR.sub h26 q5), (by rw [signed_val e_15 d_15 lr_10, e_10, zval_trim]), (signed_can e_15 d_15 lr_10 (by rw [e_10]; exact canon_trim _ _)), (by omega)⟩
theorem integer_Of {w : World} {x1 : Int}  (hx : -9223372036854775808 ≤ x1 ∧ x1 ≤ 9223372036854775807) : Calls Tryz.prog 35 #[(.int .i64 (x1))] w (Ret fun v w' => ∃ (gr : Bool) (Ar : Option Addr) (nr : Nat) (cr : Nat) (dr : List Nat), v = (.agg #[(.bool gr), (.slice Ar nr cr)]) ∧ Ext w w' ∧ NatR w' (fun b => w.heap.size ≤ b) Ar nr cr dr ∧ (zval gr dr = x1) ∧ (ICan gr dr) ∧ (nr ≤ 2)) := by
  refine enter Tryz.func35 rfl Tryz.ntmps35 rfl (rS fun K1 hK1 => sO (oAlloc [(.bool false), (.slice none 0 0)] zero25 rfl (fun g2 w3 hg4 hE5 hz6 hB7 => sK hK1 (wp_seq_k fun K8 hK8 => rS fun K9 hK9 => sMi rfl ?_))))
  by_cases hc10 : x1 < 0
  · refine sV (evLss true rfl rfl (dT hc10)) (sK hK9 (cT rfl (rS fun K11 hK11 => sMi rfl (sV (evConv ((((x1 + 18446744073709551616).toNat : Nat) : Int)) Tryz.underlying2 Tryz.underlying100 rfl (wU64m (by omega))) (sV (evNeg ((((-x1).toNat : Nat) : Int)) rfl (wU64m (by omega))) (sO (oCall rfl call75 (natural_Of (x1 := (-x1).toNat) (by omega)) rfl ?_)))))))
    rintro _ w13 ⟨Ar_12, nr_12, cr_12, dr_12, rfl, hE14, hr_12, v_12, cn_12, le_12⟩
    have hz15 := hE14.size
    have ⟨lr_12, kr_12, mr_12⟩ := hr_12.lkm
    refine sV (v := (.agg #[(.bool true), (.slice Ar_12 nr_12 cr_12)])) (evK (by kernel_rfl)) ?_
    have hB17 := (hB7.ext hE14)
    refine sO (oStore [(.bool true), (.slice Ar_12 nr_12 cr_12)] rfl rfl rfl sz25 rfl hB17 (Nat.le_of_ble_eq_true rfl) (fun w18 hU19 hz20 hB21 => ?_))
    replace hB21 : Blk w18 g2 25 [(.bool true), (.slice Ar_12 nr_12 cr_12)] := hB21
    refine sK hK11 (wp_ret (xR (ret1 (.agg #[(.bool true), (.slice Ar_12 nr_12 cr_12)]) Tryz.results35 (resB [(.bool true), (.slice Ar_12 nr_12 cr_12)] agg25 sz25 rfl hB21) ?_)))
    have h22 := (hr_12.frmB hU19 q3)
    have hR23 := (hE5.trans hE14).rx hU19
    exact ⟨true, Ar_12, nr_12, cr_12, dr_12, rfl, (Frm.mono hR23 q4), (NatR.sub h22 q5), (of_neg v_12 (by omega)), (can_neg v_12 (by omega) cn_12), (by omega)⟩
  · refine sV (evLss false rfl rfl (dF hc10)) (sK hK9 (cF rfl (wp_skip (xN (hK8 _ _ (rS fun K24 hK24 => sMi rfl (sV (evConv (((x1.toNat : Nat) : Int)) Tryz.underlying2 Tryz.underlying100 rfl (wU64 (by omega))) (sO (oCall rfl call75 (natural_Of (x1 := x1.toNat) (by omega)) rfl ?_)))))))))
    rintro _ w26 ⟨Ar_25, nr_25, cr_25, dr_25, rfl, hE27, hr_25, v_25, cn_25, le_25⟩
    have hz28 := hE27.size
    have ⟨lr_25, kr_25, mr_25⟩ := hr_25.lkm
    refine sV (v := (.agg #[(.bool false), (.slice Ar_25 nr_25 cr_25)])) (evK (by kernel_rfl)) ?_
    have hB30 := (hB7.ext hE27)
    refine sO (oStore [(.bool false), (.slice Ar_25 nr_25 cr_25)] rfl rfl rfl sz25 rfl hB30 (Nat.le_of_ble_eq_true rfl) (fun w31 hU32 hz33 hB34 => ?_))
    replace hB34 : Blk w31 g2 25 [(.bool false), (.slice Ar_25 nr_25 cr_25)] := hB34
    refine sK hK24 (wp_ret (ret1 (.agg #[(.bool false), (.slice Ar_25 nr_25 cr_25)]) Tryz.results35 (resB [(.bool false), (.slice Ar_25 nr_25 cr_25)] agg25 sz25 rfl hB34) ?_))
    have h35 := (hr_25.frmB hU32 q3)
    have hR36 := (hE5.trans hE27).rx hU32
    exact ⟨false, Ar_25, nr_25, cr_25, dr_25, rfl, (Frm.mono hR36 q4), (NatR.sub h35 q5), (of_pos v_25 (by omega)), (can_pos cn_25), (by omega)⟩
theorem integer_Normal {w : World} {ga : Bool} {Sa : Nat → Prop} {Aa : Option Addr} {na ca : Nat} {da : List Nat} (ha : NatR w Sa Aa na ca da) (hna : na ≤ 1099511627776) : Calls Tryz.prog 85 #[(.agg #[(.bool ga), (.slice Aa na ca)])] w (Ret fun v w' => ∃ (gr : Bool) (Ar : Option Addr) (nr : Nat) (cr : Nat) (dr : List Nat), v = (.agg #[(.bool gr), (.slice Ar nr cr)]) ∧ Ext w w' ∧ NatR w' (fun b => w.heap.size ≤ b) Ar nr cr dr ∧ (zval gr dr = zval ga da) ∧ (ICan gr dr) ∧ (nr ≤ na)) := by
  have ⟨la, ka, ma⟩ := ha.lkm
  replace ha := ha.low
  refine enter Tryz.func85 rfl Tryz.ntmps85 rfl (rS fun K1 hK1 => sO (oBox [(.bool ga), (.slice Aa na ca)] rfl rfl (fun g2 w3 hg4 hE5 hz6 hB7 => sO (oAlloc [(.bool false), (.slice none 0 0)] zero25 rfl (fun g8 w9 hg10 hE11 hz12 hB13 => sK hK1 (rS fun K14 hK14 => sV (evFA 0 fa25_0 rfl rfl) ?_))))))
  have hB15 := (hB7.ext hE11)
  refine sV (evLoadB one4 rfl hB15 rfl) (sV (evFA 1 fa25_1 rfl rfl) (sV (evLoadB one23 rfl hB15 rfl) ?_))
  have hR16 := hE5.trans hE11
  have h17 := (ha.ext hR16)
  refine sO (oCall rfl call44 (integer_From h17 (by omega)) rfl ?_)
  rintro _ w19 ⟨gr_18, Ar_18, nr_18, cr_18, dr_18, rfl, hE20, hr_18, v_18, cn_18, le_18⟩
  have hz21 := hE20.size
  have ⟨lr_18, kr_18, mr_18⟩ := hr_18.lkm
  have hB23 := (hB13.ext hE20)
  refine sO (oStore [(.bool gr_18), (.slice Ar_18 nr_18 cr_18)] rfl rfl rfl sz25 rfl hB23 (Nat.le_of_ble_eq_true rfl) (fun w24 hU25 hz26 hB27 => ?_))
  replace hB27 : Blk w24 g8 25 [(.bool gr_18), (.slice Ar_18 nr_18 cr_18)] := hB27
  refine sK hK14 (wp_ret (ret1 (.agg #[(.bool gr_18), (.slice Ar_18 nr_18 cr_18)]) Tryz.results85 (resB [(.bool gr_18), (.slice Ar_18 nr_18 cr_18)] agg25 sz25 rfl hB27) ?_))
  have h28 := (hr_18.frmB hU25 q3)
  have hR29 := (hR16.trans hE20).rx hU25
  exact ⟨gr_18, Ar_18, nr_18, cr_18, dr_18, rfl, (Frm.mono hR29 q4), (NatR.sub h28 q5), v_18, cn_18, (by omega)⟩
theorem integer_Neg {w : World} {ga : Bool} {Sa : Nat → Prop} {Aa : Option Addr} {na ca : Nat} {da : List Nat} (ha : NatR w Sa Aa na ca da) (hna : na ≤ 1099511627776) : Calls Tryz.prog 123 #[(.agg #[(.bool ga), (.slice Aa na ca)])] w (Ret fun v w' => ∃ (gr : Bool) (Ar : Option Addr) (nr : Nat) (cr : Nat) (dr : List Nat), v = (.agg #[(.bool gr), (.slice Ar nr cr)]) ∧ Ext w w' ∧ NatR w' (fun b => w.heap.size ≤ b) Ar nr cr dr ∧ (zval gr dr = -zval ga da) ∧ (ICan gr dr) ∧ (nr ≤ na)) := by
  have ⟨la, ka, ma⟩ := ha.lkm
  replace ha := ha.low
  refine enter Tryz.func123 rfl Tryz.ntmps123 rfl (rS fun K1 hK1 => sO (oBox [(.bool ga), (.slice Aa na ca)] rfl rfl (fun g2 w3 hg4 hE5 hz6 hB7 => sO (oAlloc [(.bool false), (.slice none 0 0)] zero25 rfl (fun g8 w9 hg10 hE11 hz12 hB13 => sK hK1 (rS fun K14 hK14 => sV (evFA 0 fa25_0 rfl rfl) ?_))))))
  have hB15 := (hB7.ext hE11)
  refine sV (evLoadB one4 rfl hB15 rfl) (sV (evNot _ rfl rfl) (sV (evFA 1 fa25_1 rfl rfl) (sV (evLoadB one23 rfl hB15 rfl) ?_)))
  have hR16 := hE5.trans hE11
  have h17 := (ha.ext hR16)
  refine sO (oCall rfl call44 (integer_From h17 (by omega)) rfl ?_)
  rintro _ w19 ⟨gr_18, Ar_18, nr_18, cr_18, dr_18, rfl, hE20, hr_18, v_18, cn_18, le_18⟩
  have hz21 := hE20.size
  have ⟨lr_18, kr_18, mr_18⟩ := hr_18.lkm
  have hB23 := (hB13.ext hE20)
  refine sO (oStore [(.bool gr_18), (.slice Ar_18 nr_18 cr_18)] rfl rfl rfl sz25 rfl hB23 (Nat.le_of_ble_eq_true rfl) (fun w24 hU25 hz26 hB27 => ?_))
  replace hB27 : Blk w24 g8 25 [(.bool gr_18), (.slice Ar_18 nr_18 cr_18)] := hB27
  refine sK hK14 (wp_ret (ret1 (.agg #[(.bool gr_18), (.slice Ar_18 nr_18 cr_18)]) Tryz.results123 (resB [(.bool gr_18), (.slice Ar_18 nr_18 cr_18)] agg25 sz25 rfl hB27) ?_))
  have h28 := (hr_18.frmB hU25 q3)
  have hR29 := (hR16.trans hE20).rx hU25
  exact ⟨gr_18, Ar_18, nr_18, cr_18, dr_18, rfl, (Frm.mono hR29 q4), (NatR.sub h28 q5), (by rw [v_18, zval_not]), cn_18, (by omega)⟩
theorem integer_Abs {w : World} {ga : Bool} {Sa : Nat → Prop} {Aa : Option Addr} {na ca : Nat} {da : List Nat} (ha : NatR w Sa Aa na ca da) (hna : na ≤ 1099511627776) : Calls Tryz.prog 11 #[(.agg #[(.bool ga), (.slice Aa na ca)])] w (Ret fun v w' => ∃ (gr : Bool) (Ar : Option Addr) (nr : Nat) (cr : Nat) (dr : List Nat), v = (.agg #[(.bool gr), (.slice Ar nr cr)]) ∧ Ext w w' ∧ NatR w' (fun b => w.heap.size ≤ b) Ar nr cr dr ∧ (zval gr dr = (val da : Int)) ∧ (ICan gr dr) ∧ (nr ≤ na)) := by
  have ⟨la, ka, ma⟩ := ha.lkm
  replace ha := ha.low
  refine enter Tryz.func11 rfl Tryz.ntmps11 rfl (rS fun K1 hK1 => sO (oBox [(.bool ga), (.slice Aa na ca)] rfl rfl (fun g2 w3 hg4 hE5 hz6 hB7 => sO (oAlloc [(.bool false), (.slice none 0 0)] zero25 rfl (fun g8 w9 hg10 hE11 hz12 hB13 => sK hK1 (rS fun K14 hK14 => sV (evFA 1 fa25_1 rfl rfl) ?_))))))
  have hB15 := (hB7.ext hE11)
  refine sV (evLoadB one23 rfl hB15 rfl) ?_
  have hR16 := hE5.trans hE11
  have h17 := (ha.ext hR16)
  refine sO (oCall rfl call44 (integer_From h17 (by omega)) rfl ?_)
  rintro _ w19 ⟨gr_18, Ar_18, nr_18, cr_18, dr_18, rfl, hE20, hr_18, v_18, cn_18, le_18⟩
  have hz21 := hE20.size
  have ⟨lr_18, kr_18, mr_18⟩ := hr_18.lkm
  have hB23 := (hB13.ext hE20)
  refine sO (oStore [(.bool gr_18), (.slice Ar_18 nr_18 cr_18)] rfl rfl rfl sz25 rfl hB23 (Nat.le_of_ble_eq_true rfl) (fun w24 hU25 hz26 hB27 => ?_))
  replace hB27 : Blk w24 g8 25 [(.bool gr_18), (.slice Ar_18 nr_18 cr_18)] := hB27
  refine sK hK14 (wp_ret (ret1 (.agg #[(.bool gr_18), (.slice Ar_18 nr_18 cr_18)]) Tryz.results11 (resB [(.bool gr_18), (.slice Ar_18 nr_18 cr_18)] agg25 sz25 rfl hB27) ?_))
  have h28 := (hr_18.frmB hU25 q3)
  have hR29 := (hR16.trans hE20).rx hU25
  exact ⟨gr_18, Ar_18, nr_18, cr_18, dr_18, rfl, (Frm.mono hR29 q4), (NatR.sub h28 q5), (by rw [v_18, zval_false]), cn_18, (by omega)⟩
theorem integer_Sign {w : World} {ga : Bool} {Sa : Nat → Prop} {Aa : Option Addr} {na ca : Nat} {da : List Nat} (ha : NatR w Sa Aa na ca da)  : Calls Tryz.prog 29 #[(.agg #[(.bool ga), (.slice Aa na ca)])] w (Ret fun v w' => ∃ (xr : Int), v = (.int .i64 (xr)) ∧ Ext w w' ∧ (xr = (zval ga da).sign)) := by
  have ⟨la, ka, ma⟩ := ha.lkm
  replace ha := ha.low
  refine enter Tryz.func29 rfl Tryz.ntmps29 rfl (rS fun K1 hK1 => sO (oBox [(.bool ga), (.slice Aa na ca)] rfl rfl (fun g2 w3 hg4 hE5 hz6 hB7 => sAi rfl (sK hK1 (wp_seq_k fun K8 hK8 => wp_block (rS fun K9 hK9 => sV (evFA 1 fa25_1 rfl rfl) (sV (evLoadB one23 rfl hB7 rfl) ?_)))))))
  have h10 := (ha.ext hE5)
  refine sO (oCall rfl call69 (natural_IsZero h10) rfl ?_)
  rintro _ w12 ⟨gr_11, rfl, hE13, e_11⟩
  have hz14 := hE13.size
  refine sAb rfl (sK hK9 (cB gr_11 rfl ?_ ?_))
  · intro hc15
    subst hc15
    refine rS fun K16 hK16 => sAi rfl (sK hK16 (wp_ret (bR (xR (ret1 (.int .i64 (0)) Tryz.results29 (resT rfl) ?_)))))
    have hR17 := hE5.trans hE13
    exact ⟨(0), rfl, hR17, (sign_zero e_11)⟩
  · intro hc15
    subst hc15
    refine rS fun K18 hK18 => sV (evFA 0 fa25_0 rfl rfl) ?_
    have hB19 := (hB7.ext hE13)
    refine sV (evLoadB one4 rfl hB19 rfl) (sAb rfl (sK hK18 (cB ga rfl ?_ ?_)))
    · intro hc20
      subst hc20
      refine rS fun K21 hK21 => sAi rfl (sK hK21 (wp_ret (bR (xR (ret1 (.int .i64 ((-1))) Tryz.results29 (resT rfl) ?_)))))
      have hR22 := hE5.trans hE13
      exact ⟨((-1)), rfl, hR22, (sign_neg e_11)⟩
    · intro hc20
      subst hc20
      refine wp_skip (bN (xN (hK8 _ _ (rS fun K23 hK23 => sAi rfl (sK hK23 (wp_ret (ret1 (.int .i64 (1)) Tryz.results29 (resT rfl) ?_)))))))
      have hR24 := hE5.trans hE13
      exact ⟨(1), rfl, hR24, (sign_pos e_11)⟩
theorem integer_Cmp {w : World} {ga : Bool} {Sa : Nat → Prop} {Aa : Option Addr} {na ca : Nat} {da : List Nat} {gb : Bool} {Sb : Nat → Prop} {Ab : Option Addr} {nb cb : Nat} {db : List Nat} (ha : NatR w Sa Aa na ca da) (hb : NatR w Sb Ab nb cb db)  : Calls Tryz.prog 13 #[(.agg #[(.bool ga), (.slice Aa na ca)]), (.agg #[(.bool gb), (.slice Ab nb cb)])] w (Ret fun v w' => ∃ (xr : Int), v = (.int .i64 (xr)) ∧ Ext w w' ∧ (xr = cmpZ (zval ga da) (zval gb db))) := by
  have ⟨la, ka, ma⟩ := ha.lkm
  replace ha := ha.low
  have ⟨lb, kb, mb⟩ := hb.lkm
  replace hb := hb.low
  refine enter Tryz.func13 rfl Tryz.ntmps13 rfl (rS fun K1 hK1 => sO (oBox [(.bool ga), (.slice Aa na ca)] rfl rfl (fun g2 w3 hg4 hE5 hz6 hB7 => sO (oBox [(.bool gb), (.slice Ab nb cb)] rfl rfl (fun g8 w9 hg10 hE11 hz12 hB13 => sAi rfl (sK hK1 (wp_seq_k fun K14 hK14 => dBegin (fun _ => False) mixed (fun w15 hE16 hz17 => ?_))))))))
  have hR18 := hE11.trans hE16
  have hB19 := (hB7.ext hR18)
  refine dV 0 rfl (fun _ hf => evLoadAB [(.bool ga), (.slice Aa na ca)] agg25 sz25 rfl (hB19.ext hf) rfl) ?_
  have hB20 := (hB13.ext hE16)
  refine dV 2 rfl (fun _ hf => evLoadAB [(.bool gb), (.slice Ab nb cb)] agg25 sz25 rfl (hB20.ext hf) rfl) ?_
  have hR21 := (hE5.trans hE11).trans hE16
  have h22 := (ha.ext hR21)
  refine dOp 1 rfl rfl (by kernel_rfl) (oCall rfl call29 (integer_Sign h22) rfl ?_)
  rintro _ w24 ⟨xr_23, rfl, hE25, e_23⟩
  refine ⟨(Frm.of_ext hE25), ?_⟩
  have hz26 := hE25.size
  have hR27 := hR21.trans hE25
  have h28 := (hb.ext hR27)
  refine dOp 3 rfl rfl (by kernel_rfl) (oCall rfl call29 (integer_Sign h28) rfl ?_)
  rintro _ w30 ⟨xr_29, rfl, hE31, e_29⟩
  refine ⟨(Frm.of_ext hE31), ?_⟩
  have hz32 := hE31.size
  refine dAi 4 rfl rfl (dAi 5 rfl rfl (dDone (by kernel_rfl) (xN (hK14 _ _ (wp_seq_k fun K33 hK33 => wp_block (rS fun K34 hK34 => sMi rfl (sMi rfl ?_)))))))
  by_cases hc35 : xr_23 < xr_29
  · refine sV (evLss true rfl rfl (dT hc35)) (sAb rfl (sK hK34 (cT rfl (rS fun K36 hK36 => sAi rfl (sK hK36 (wp_ret (bR (xR (ret1 (.int .i64 ((-1))) Tryz.results13 (resT rfl) ?_)))))))))
    have hR37 := hR27.trans hE31
    exact ⟨((-1)), rfl, hR37, (icmp_lt e_23 e_29 hc35)⟩
  · refine sV (evLss false rfl rfl (dF hc35)) (sAb rfl (sK hK34 (cF rfl (rS fun K38 hK38 => sMi rfl (sMi rfl ?_)))))
    by_cases hc39 : xr_23 > xr_29
    · refine sV (evGtr true rfl rfl (dT hc39)) (sAb rfl (sK hK38 (cT rfl (rS fun K40 hK40 => sAi rfl (sK hK40 (wp_ret (bR (xR (ret1 (.int .i64 (1)) Tryz.results13 (resT rfl) ?_)))))))))
      have hR41 := hR27.trans hE31
      exact ⟨(1), rfl, hR41, (icmp_gt e_23 e_29 hc39)⟩
    · refine sV (evGtr false rfl rfl (dF hc39)) (sAb rfl (sK hK38 (cF rfl (rS fun K42 hK42 => sMi rfl ?_))))
      by_cases hc43 : xr_23 < 0
      · refine sV (evLss true rfl rfl (dT hc43)) (sAb rfl (sK hK42 (cT rfl (rS fun K44 hK44 => sV (evFA 1 fa25_1 rfl rfl) ?_))))
        have hR45 := hE25.trans hE31
        have hB46 := (hB20.ext hR45)
        refine sV (evLoadB one23 rfl hB46 rfl) (sV (evFA 1 fa25_1 rfl rfl) ?_)
        have hB47 := (hB19.ext hR45)
        refine sV (evLoadB one23 rfl hB47 rfl) ?_
        have h48 := (h28.ext hE31)
        have h49 := (h22.ext hR45)
        refine sO (oCall rfl call47 (natural_Cmp h48 h49) rfl ?_)
        rintro _ w51 ⟨xr_50, rfl, hE52, e_50⟩
        have hz53 := hE52.size
        refine sAi rfl (sK hK44 (wp_ret (bR (xR (ret1 (.int .i64 (xr_50)) Tryz.results13 (resT rfl) ?_)))))
        have hR54 := (hR27.trans hE31).trans hE52
        exact ⟨(xr_50), rfl, hR54, (icmp_neg e_23 e_29 hc35 hc39 hc43 e_50)⟩
      · refine sV (evLss false rfl rfl (dF hc43)) (sAb rfl (sK hK42 (cF rfl (wp_skip (bN (xN (hK33 _ _ (rS fun K55 hK55 => sV (evFA 1 fa25_1 rfl rfl) ?_))))))))
        have hR56 := hE25.trans hE31
        have hB57 := (hB19.ext hR56)
        refine sV (evLoadB one23 rfl hB57 rfl) (sV (evFA 1 fa25_1 rfl rfl) ?_)
        have hB58 := (hB20.ext hR56)
        refine sV (evLoadB one23 rfl hB58 rfl) ?_
        have h59 := (h22.ext hR56)
        have h60 := (h28.ext hE31)
        refine sO (oCall rfl call47 (natural_Cmp h59 h60) rfl ?_)
        rintro _ w62 ⟨xr_61, rfl, hE63, e_61⟩
        have hz64 := hE63.size
        refine sAi rfl (sK hK55 (wp_ret (ret1 (.int .i64 (xr_61)) Tryz.results13 (resT rfl) ?_)))
        have hR65 := (hR27.trans hE31).trans hE63
        exact ⟨(xr_61), rfl, hR65, (icmp_pos e_23 e_29 hc35 hc39 hc43 e_61)⟩
theorem integer_Add {w : World} {ga : Bool} {Sa : Nat → Prop} {Aa : Option Addr} {na ca : Nat} {da : List Nat} {gb : Bool} {Sb : Nat → Prop} {Ab : Option Addr} {nb cb : Nat} {db : List Nat} (ha : NatR w Sa Aa na ca da) (hb : NatR w Sb Ab nb cb db) (hna : na ≤ 1099511627776) (hnb : nb ≤ 1099511627776) : Calls Tryz.prog 12 #[(.agg #[(.bool ga), (.slice Aa na ca)]), (.agg #[(.bool gb), (.slice Ab nb cb)])] w (Ret fun v w' => ∃ (gr : Bool) (Ar : Option Addr) (nr : Nat) (cr : Nat) (dr : List Nat), v = (.agg #[(.bool gr), (.slice Ar nr cr)]) ∧ Ext w w' ∧ NatR w' (fun b => w.heap.size ≤ b) Ar nr cr dr ∧ (zval gr dr = zval ga da + zval gb db) ∧ (ICan gr dr) ∧ (nr ≤ na + 1 ∨ nr ≤ nb + 1)) := by
  have ⟨la, ka, ma⟩ := ha.lkm
  replace ha := ha.low
  have ⟨lb, kb, mb⟩ := hb.lkm
  replace hb := hb.low
  refine enter Tryz.func12 rfl Tryz.ntmps12 rfl (rS fun K1 hK1 => sO (oBox [(.bool ga), (.slice Aa na ca)] rfl rfl (fun g2 w3 hg4 hE5 hz6 hB7 => sO (oBox [(.bool gb), (.slice Ab nb cb)] rfl rfl (fun g8 w9 hg10 hE11 hz12 hB13 => sO (oAlloc [(.bool false), (.slice none 0 0)] zero25 rfl (fun g14 w15 hg16 hE17 hz18 hB19 => sK hK1 (wp_seq_k fun K20 hK20 => wp_block (rS fun K21 hK21 => sV (evFA 0 fa25_0 rfl rfl) ?_)))))))))
  have hR22 := hE11.trans hE17
  have hB23 := (hB7.ext hR22)
  refine sV (evLoadB one4 rfl hB23 rfl) (sV (evFA 0 fa25_0 rfl rfl) ?_)
  have hB24 := (hB13.ext hE17)
  refine sV (evLoadB one4 rfl hB24 rfl) (sV (evEqlB _ Tryz.underlying4 rfl rfl rfl) (sAb rfl (sK hK21 (cB (ga == gb) rfl ?_ ?_))))
  · intro hc25
    refine wp_seq_k fun K26 hK26 => dBegin (fun b => b = g14) mixed (fun w27 hE28 hz29 => dV 0 rfl (fun _ _ => evFA 0 fa25_0 rfl rfl) ?_)
    have hB30 := (hB23.ext hE28)
    refine dV 1 rfl (fun _ hf => evLoadB one4 rfl (hB30.frm hf q1) rfl) (dV 2 rfl (fun _ _ => evFA 1 fa25_1 rfl rfl) (dV 3 rfl (fun _ hf => evLoadB one23 rfl (hB30.frm hf q1) rfl) (dV 4 rfl (fun _ _ => evFA 1 fa25_1 rfl rfl) ?_)))
    have hB31 := (hB24.ext hE28)
    refine dV 5 rfl (fun _ hf => evLoadB one23 rfl (hB31.frm hf q1) rfl) ?_
    have hR32 := ((hE5.trans hE11).trans hE17).trans hE28
    have h33 := (ha.ext hR32)
    have h34 := (hb.ext hR32)
    refine dOp 6 rfl rfl (by kernel_rfl) (oCall rfl call46 (natural_Add h33 h34 (by omega) (by omega)) rfl ?_)
    rintro _ w36 ⟨Ar_35, nr_35, cr_35, dr_35, rfl, hE37, hr_35, v_35, cn_35, le_35⟩
    refine ⟨(Frm.of_ext hE37), ?_⟩
    have hz38 := hE37.size
    have ⟨lr_35, kr_35, mr_35⟩ := hr_35.lkm
    refine dOp 7 rfl rfl (by kernel_rfl) (oCall rfl call45 (integer_signed hr_35) rfl ?_)
    rintro _ w41 ⟨gr_40, Ar_40, nr_40, cr_40, dr_40, rfl, hE42, hr_40, e_40, d_40, ln_40⟩
    refine ⟨(Frm.of_ext hE42), ?_⟩
    have hz43 := hE42.size
    have ⟨lr_40, kr_40, mr_40⟩ := hr_40.lkm
    have hR45 := (hE28.trans hE37).trans hE42
    have hB46 := (hB19.ext hR45)
    refine dOp 8 rfl rfl (by kernel_rfl) (oStore [(.bool gr_40), (.slice Ar_40 nr_40 cr_40)] rfl rfl rfl sz25 rfl hB46 (Nat.le_of_ble_eq_true rfl) (fun w47 hU48 hz49 hB50 => ?_))
    replace hB50 : Blk w47 g14 25 [(.bool gr_40), (.slice Ar_40 nr_40 cr_40)] := hB50
    refine ⟨hU48, dDone (by kernel_rfl) (xN (hK26 _ _ (wp_ret (bR (xR (ret1 (.agg #[(.bool gr_40), (.slice Ar_40 nr_40 cr_40)]) Tryz.results12 (resB [(.bool gr_40), (.slice Ar_40 nr_40 cr_40)] agg25 sz25 rfl hB50) ?_))))))⟩
    have h51 := (hr_40.frmB hU48 q3)
    have hR52 := ((hR32.trans hE37).trans hE42).rx hU48
    exact ⟨gr_40, Ar_40, nr_40, cr_40, dr_40, rfl, (Frm.mono hR52 q4), (NatR.sub h51 q5), (by rw [signed_val e_40 d_40 lr_35]; exact iadd_same hc25 v_35), (signed_can e_40 d_40 lr_35 cn_35), (by omega)⟩
  · intro hc25
    refine rS fun K53 hK53 => sV (evFA 1 fa25_1 rfl rfl) (sV (evLoadB one23 rfl hB23 rfl) (sV (evFA 1 fa25_1 rfl rfl) (sV (evLoadB one23 rfl hB24 rfl) ?_)))
    have hR54 := (hE5.trans hE11).trans hE17
    have h55 := (ha.ext hR54)
    have h56 := (hb.ext hR54)
    refine sO (oCall rfl call47 (natural_Cmp h55 h56) rfl ?_)
    rintro _ w58 ⟨xr_57, rfl, hE59, e_57⟩
    have hz60 := hE59.size
    by_cases hc61 : xr_57 ≥ 0
    · refine sV (evGeq true rfl rfl (dT hc61)) (sAb rfl (sK hK53 (cT rfl (rS fun K62 hK62 => sV (evFA 1 fa25_1 rfl rfl) ?_))))
      have hB63 := (hB23.ext hE59)
      refine sV (evLoadB one23 rfl hB63 rfl) (sV (evFA 1 fa25_1 rfl rfl) ?_)
      have hB64 := (hB24.ext hE59)
      refine sV (evLoadB one23 rfl hB64 rfl) ?_
      have h65 := (h55.ext hE59)
      have h66 := (h56.ext hE59)
      refine sO (oCall rfl call48 (natural_Sub h65 h66 (by omega) (by omega)) rfl ?_)
      rintro _ w68 ⟨Ar_67, nr_67, cr_67, dr_67, gk_67, rfl, hE69, hr_67, k_67, v_67, cn_67, le_67⟩
      have hz70 := hE69.size
      have ⟨lr_67, kr_67, mr_67⟩ := hr_67.lkm
      refine sV (v := (.tuple #[(.slice Ar_67 nr_67 cr_67), (.bool gk_67)])) (rfl) (sV (v := (.slice Ar_67 nr_67 cr_67)) (rfl) (sV (v := (.bool gk_67)) (rfl) (sAs rfl (sAb rfl (sK hK62 (rS fun K72 hK72 => sV (evFA 0 fa25_0 rfl rfl) ?_))))))
      have hB73 := (hB63.ext hE69)
      refine sV (evLoadB one4 rfl hB73 rfl) (sMs rfl (sO (oCall rfl call45 (integer_signed hr_67) rfl ?_)))
      rintro _ w75 ⟨gr_74, Ar_74, nr_74, cr_74, dr_74, rfl, hE76, hr_74, e_74, d_74, ln_74⟩
      have hz77 := hE76.size
      have ⟨lr_74, kr_74, mr_74⟩ := hr_74.lkm
      have hR79 := (hE59.trans hE69).trans hE76
      have hB80 := (hB19.ext hR79)
      refine sO (oStore [(.bool gr_74), (.slice Ar_74 nr_74 cr_74)] rfl rfl rfl sz25 rfl hB80 (Nat.le_of_ble_eq_true rfl) (fun w81 hU82 hz83 hB84 => ?_))
      replace hB84 : Blk w81 g14 25 [(.bool gr_74), (.slice Ar_74 nr_74 cr_74)] := hB84
      refine sK hK72 (wp_ret (bR (xR (ret1 (.agg #[(.bool gr_74), (.slice Ar_74 nr_74 cr_74)]) Tryz.results12 (resB [(.bool gr_74), (.slice Ar_74 nr_74 cr_74)] agg25 sz25 rfl hB84) ?_))))
      have h85 := (hr_74.frmB hU82 q3)
      have hR86 := (((hR54.trans hE59).trans hE69).trans hE76).rx hU82
      exact ⟨gr_74, Ar_74, nr_74, cr_74, dr_74, rfl, (Frm.mono hR86 q4), (NatR.sub h85 q5), (by rw [signed_val e_74 d_74 lr_67]; exact iadd_ge hc25 e_57 hc61 v_67), (signed_can e_74 d_74 lr_67 cn_67), (by omega)⟩
    · refine sV (evGeq false rfl rfl (dF hc61)) (sAb rfl (sK hK53 (cF rfl (wp_skip (bN (xN (hK20 _ _ (rS fun K87 hK87 => sV (evFA 1 fa25_1 rfl rfl) ?_))))))))
      have hB88 := (hB24.ext hE59)
      refine sV (evLoadB one23 rfl hB88 rfl) (sV (evFA 1 fa25_1 rfl rfl) ?_)
      have hB89 := (hB23.ext hE59)
      refine sV (evLoadB one23 rfl hB89 rfl) ?_
      have h90 := (h56.ext hE59)
      have h91 := (h55.ext hE59)
      refine sO (oCall rfl call48 (natural_Sub h90 h91 (by omega) (by omega)) rfl ?_)
      rintro _ w93 ⟨Ar_92, nr_92, cr_92, dr_92, gk_92, rfl, hE94, hr_92, k_92, v_92, cn_92, le_92⟩
      have hz95 := hE94.size
      have ⟨lr_92, kr_92, mr_92⟩ := hr_92.lkm
      refine sV (v := (.tuple #[(.slice Ar_92 nr_92 cr_92), (.bool gk_92)])) (rfl) (sV (v := (.slice Ar_92 nr_92 cr_92)) (rfl) (sV (v := (.bool gk_92)) (rfl) (sAs rfl (sAb rfl (sK hK87 (rS fun K97 hK97 => sV (evFA 0 fa25_0 rfl rfl) ?_))))))
      have hB98 := (hB88.ext hE94)
      refine sV (evLoadB one4 rfl hB98 rfl) (sMs rfl (sO (oCall rfl call45 (integer_signed hr_92) rfl ?_)))
      rintro _ w100 ⟨gr_99, Ar_99, nr_99, cr_99, dr_99, rfl, hE101, hr_99, e_99, d_99, ln_99⟩
      have hz102 := hE101.size
      have ⟨lr_99, kr_99, mr_99⟩ := hr_99.lkm
      have hR104 := (hE59.trans hE94).trans hE101
      have hB105 := (hB19.ext hR104)
      refine sO (oStore [(.bool gr_99), (.slice Ar_99 nr_99 cr_99)] rfl rfl rfl sz25 rfl hB105 (Nat.le_of_ble_eq_true rfl) (fun w106 hU107 hz108 hB109 => ?_))
      replace hB109 : Blk w106 g14 25 [(.bool gr_99), (.slice Ar_99 nr_99 cr_99)] := hB109
      refine sK hK97 (wp_ret (ret1 (.agg #[(.bool gr_99), (.slice Ar_99 nr_99 cr_99)]) Tryz.results12 (resB [(.bool gr_99), (.slice Ar_99 nr_99 cr_99)] agg25 sz25 rfl hB109) ?_))
      have h110 := (hr_99.frmB hU107 q3)
      have hR111 := (((hR54.trans hE59).trans hE94).trans hE101).rx hU107
      exact ⟨gr_99, Ar_99, nr_99, cr_99, dr_99, rfl, (Frm.mono hR111 q4), (NatR.sub h110 q5), (by rw [signed_val e_99 d_99 lr_92]; exact iadd_lt hc25 e_57 hc61 v_92), (signed_can e_99 d_99 lr_92 cn_92), (by omega)⟩
theorem integer_Sub {w : World} {ga : Bool} {Sa : Nat → Prop} {Aa : Option Addr} {na ca : Nat} {da : List Nat} {gb : Bool} {Sb : Nat → Prop} {Ab : Option Addr} {nb cb : Nat} {db : List Nat} (ha : NatR w Sa Aa na ca da) (hb : NatR w Sb Ab nb cb db) (hna : na ≤ 1099511627776) (hnb : nb ≤ 1099511627776) : Calls Tryz.prog 106 #[(.agg #[(.bool ga), (.slice Aa na ca)]), (.agg #[(.bool gb), (.slice Ab nb cb)])] w (Ret fun v w' => ∃ (gr : Bool) (Ar : Option Addr) (nr : Nat) (cr : Nat) (dr : List Nat), v = (.agg #[(.bool gr), (.slice Ar nr cr)]) ∧ Ext w w' ∧ NatR w' (fun b => w.heap.size ≤ b) Ar nr cr dr ∧ (zval gr dr = zval ga da - zval gb db) ∧ (ICan gr dr) ∧ (nr ≤ na + 1 ∨ nr ≤ nb + 1)) := by
  have ⟨la, ka, ma⟩ := ha.lkm
  replace ha := ha.low
  have ⟨lb, kb, mb⟩ := hb.lkm
  replace hb := hb.low
  refine enter Tryz.func106 rfl Tryz.ntmps106 rfl (rS fun K1 hK1 => sO (oBox [(.bool ga), (.slice Aa na ca)] rfl rfl (fun g2 w3 hg4 hE5 hz6 hB7 => sO (oBox [(.bool gb), (.slice Ab nb cb)] rfl rfl (fun g8 w9 hg10 hE11 hz12 hB13 => sO (oAlloc [(.bool false), (.slice none 0 0)] zero25 rfl (fun g14 w15 hg16 hE17 hz18 hB19 => sK hK1 (rS fun K20 hK20 => ?_))))))))
  have hR21 := hE11.trans hE17
  have hB22 := (hB7.ext hR21)
  refine sV (evLoadAB [(.bool ga), (.slice Aa na ca)] agg25 sz25 rfl hB22 rfl) (sV (evFA 0 fa25_0 rfl rfl) ?_)
  have hB23 := (hB13.ext hE17)
  refine sV (evLoadB one4 rfl hB23 rfl) (sV (evNot _ rfl rfl) (sV (evFA 1 fa25_1 rfl rfl) (sV (evLoadB one23 rfl hB23 rfl) (sV (v := (.agg #[(.bool (!gb)), (.slice Ab nb cb)])) (evK (by kernel_rfl)) ?_))))
  have hR24 := (hE5.trans hE11).trans hE17
  have h25 := (ha.ext hR24)
  have h26 := (hb.ext hR24)
  refine sO (oCall rfl call12 (integer_Add h25 h26 (by omega) (by omega)) rfl ?_)
  rintro _ w28 ⟨gr_27, Ar_27, nr_27, cr_27, dr_27, rfl, hE29, hr_27, v_27, cn_27, le_27⟩
  have hz30 := hE29.size
  have ⟨lr_27, kr_27, mr_27⟩ := hr_27.lkm
  have hB32 := (hB19.ext hE29)
  refine sO (oStore [(.bool gr_27), (.slice Ar_27 nr_27 cr_27)] rfl rfl rfl sz25 rfl hB32 (Nat.le_of_ble_eq_true rfl) (fun w33 hU34 hz35 hB36 => ?_))
  replace hB36 : Blk w33 g14 25 [(.bool gr_27), (.slice Ar_27 nr_27 cr_27)] := hB36
  refine sK hK20 (wp_ret (ret1 (.agg #[(.bool gr_27), (.slice Ar_27 nr_27 cr_27)]) Tryz.results106 (resB [(.bool gr_27), (.slice Ar_27 nr_27 cr_27)] agg25 sz25 rfl hB36) ?_))
  have h37 := (hr_27.frmB hU34 q3)
  have hR38 := (hR24.trans hE29).rx hU34
  exact ⟨gr_27, Ar_27, nr_27, cr_27, dr_27, rfl, (Frm.mono hR38 q4), (NatR.sub h37 q5), (by rw [v_27, zval_not]; omega), cn_27, (by omega)⟩
theorem integer_Mul {w : World} {ga : Bool} {Sa : Nat → Prop} {Aa : Option Addr} {na ca : Nat} {da : List Nat} {gb : Bool} {Sb : Nat → Prop} {Ab : Option Addr} {nb cb : Nat} {db : List Nat} (ha : NatR w Sa Aa na ca da) (hb : NatR w Sb Ab nb cb db) (hna : na + nb ≤ 1099511627776) : Calls Tryz.prog 33 #[(.agg #[(.bool ga), (.slice Aa na ca)]), (.agg #[(.bool gb), (.slice Ab nb cb)])] w (Ret fun v w' => ∃ (gr : Bool) (Ar : Option Addr) (nr : Nat) (cr : Nat) (dr : List Nat), v = (.agg #[(.bool gr), (.slice Ar nr cr)]) ∧ Ext w w' ∧ NatR w' (fun b => w.heap.size ≤ b) Ar nr cr dr ∧ (zval gr dr = zval ga da * zval gb db) ∧ (ICan gr dr) ∧ (nr ≤ na + nb)) := by
  have ⟨la, ka, ma⟩ := ha.lkm
  replace ha := ha.low
  have ⟨lb, kb, mb⟩ := hb.lkm
  replace hb := hb.low
  refine enter Tryz.func33 rfl Tryz.ntmps33 rfl (rS fun K1 hK1 => sO (oBox [(.bool ga), (.slice Aa na ca)] rfl rfl (fun g2 w3 hg4 hE5 hz6 hB7 => sO (oBox [(.bool gb), (.slice Ab nb cb)] rfl rfl (fun g8 w9 hg10 hE11 hz12 hB13 => sO (oAlloc [(.bool false), (.slice none 0 0)] zero25 rfl (fun g14 w15 hg16 hE17 hz18 hB19 => sK hK1 (wp_seq_k fun K20 hK20 => dBegin (fun b => b = g14) mixed (fun w21 hE22 hz23 => dV 0 rfl (fun _ _ => evFA 0 fa25_0 rfl rfl) ?_)))))))))
  have hR24 := (hE11.trans hE17).trans hE22
  have hB25 := (hB7.ext hR24)
  refine dV 1 rfl (fun _ hf => evLoadB one4 rfl (hB25.frm hf q1) rfl) (dV 2 rfl (fun _ _ => evFA 0 fa25_0 rfl rfl) ?_)
  have hR26 := hE17.trans hE22
  have hB27 := (hB13.ext hR26)
  refine dV 3 rfl (fun _ hf => evLoadB one4 rfl (hB27.frm hf q1) rfl) (dV 4 rfl (fun _ _ => evNeqB _ Tryz.underlying4 rfl rfl rfl) (dV 5 rfl (fun _ _ => evFA 1 fa25_1 rfl rfl) (dV 6 rfl (fun _ hf => evLoadB one23 rfl (hB25.frm hf q1) rfl) (dV 7 rfl (fun _ _ => evFA 1 fa25_1 rfl rfl) (dV 8 rfl (fun _ hf => evLoadB one23 rfl (hB27.frm hf q1) rfl) ?_)))))
  have hR28 := ((hE5.trans hE11).trans hE17).trans hE22
  have h29 := (ha.ext hR28)
  have h30 := (hb.ext hR28)
  refine dOp 9 rfl rfl (by kernel_rfl) (oCall rfl call73 (natural_Mul h29 h30 (by omega)) rfl ?_)
  rintro _ w32 ⟨Ar_31, nr_31, cr_31, dr_31, rfl, hE33, hr_31, v_31, cn_31, le_31⟩
  refine ⟨(Frm.of_ext hE33), ?_⟩
  have hz34 := hE33.size
  have ⟨lr_31, kr_31, mr_31⟩ := hr_31.lkm
  refine dOp 10 rfl rfl (by kernel_rfl) (oCall rfl call45 (integer_signed hr_31) rfl ?_)
  rintro _ w37 ⟨gr_36, Ar_36, nr_36, cr_36, dr_36, rfl, hE38, hr_36, e_36, d_36, ln_36⟩
  refine ⟨(Frm.of_ext hE38), ?_⟩
  have hz39 := hE38.size
  have ⟨lr_36, kr_36, mr_36⟩ := hr_36.lkm
  have hR41 := (hE22.trans hE33).trans hE38
  have hB42 := (hB19.ext hR41)
  refine dOp 11 rfl rfl (by kernel_rfl) (oStore [(.bool gr_36), (.slice Ar_36 nr_36 cr_36)] rfl rfl rfl sz25 rfl hB42 (Nat.le_of_ble_eq_true rfl) (fun w43 hU44 hz45 hB46 => ?_))
  replace hB46 : Blk w43 g14 25 [(.bool gr_36), (.slice Ar_36 nr_36 cr_36)] := hB46
  refine ⟨hU44, dDone (by kernel_rfl) (xN (hK20 _ _ (wp_ret (ret1 (.agg #[(.bool gr_36), (.slice Ar_36 nr_36 cr_36)]) Tryz.results33 (resB [(.bool gr_36), (.slice Ar_36 nr_36 cr_36)] agg25 sz25 rfl hB46) ?_))))⟩
  have h47 := (hr_36.frmB hU44 q3)
  have hR48 := ((hR28.trans hE33).trans hE38).rx hU44
  exact ⟨gr_36, Ar_36, nr_36, cr_36, dr_36, rfl, (Frm.mono hR48 q4), (NatR.sub h47 q5), (by rw [signed_val e_36 d_36 lr_31]; exact imul_val v_31), (signed_can e_36 d_36 lr_31 cn_31), (by omega)⟩
end Go.Proofs.YtneolcopompkaaaGreatDoor
