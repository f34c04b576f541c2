/-
  Walks of package modular: remainders, inverses, the small primes.
-/
import Derived.Test.YtneolcopompkaaaGreatDoorInt1
import Derived.Test.YtneolcopompkaaaGreatDoorNat5
import Derived.Test.YtneolcopompkaaaGreatDoorLibA
import Derived.Test.YtneolcopompkaaaGreatDoorLibB
namespace Go.Proofs.YtneolcopompkaaaGreatDoor
open Go.RowKit Go.Gx
theorem modular_modulus {w : World} {xm : Nat} (bm : xm < 4294967296) (hm : 0 < xm) : Calls Tryz.prog 65 #[(.int .u32 ((xm : Int)))] w (Ret fun v w' => ∃ (xr : Nat), v = (.int .u64 ((xr : Int))) ∧ Ext w w' ∧ xr < 18446744073709551616 ∧ (xr = xm)) := by
  refine enter Tryz.func65 rfl Tryz.ntmps65 rfl (rS fun K1 hK1 => sAi rfl (sK hK1 (rS fun K2 hK2 => sMi rfl (sV (evMax ((xm : Int)) rfl rfl (by split <;> omega)) (sV (evConv ((xm : Int)) Tryz.underlying26 Tryz.underlying100 rfl (wU64 (by omega))) (sAi rfl (sK hK2 (wp_ret (ret1 (.int .u64 ((xm : Int))) Tryz.results65 (resT rfl) ?_)))))))))
  exact ⟨(xm), rfl, (Frm.refl _ _), (by omega), rfl⟩
theorem modular_Neg {w : World} {xa : Nat} {xm : Nat} (ba : xa < 4294967296) (bm : xm < 4294967296) (hm : 0 < xm) : Calls Tryz.prog 66 #[(.int .u32 ((xa : Int))), (.int .u32 ((xm : Int)))] w (Ret fun v w' => ∃ (xr : Nat), v = (.int .u32 ((xr : Int))) ∧ Ext w w' ∧ xr < 4294967296 ∧ (xr = (xm - xa % xm) % xm)) := by
  refine enter Tryz.func66 rfl Tryz.ntmps66 rfl (rS fun K1 hK1 => sAi rfl (sK hK1 (rS fun K2 hK2 => sMi rfl (sO (oCall rfl call65 (modular_modulus (xm := xm) (by omega) (by omega)) rfl ?_)))))
  rintro _ w4 ⟨xr_3, rfl, hE5, br_3, e_3⟩
  have hz6 := hE5.size
  refine sAi rfl (sK hK2 (rS fun K7 hK7 => sMi rfl (sMi rfl (sV (evConv ((xa : Int)) Tryz.underlying26 Tryz.underlying100 rfl (wU64 (by omega))) (sMi rfl (sV (evRem (((xa % xr_3 : Nat) : Int)) rfl rfl (by omega) (remE (by omega) (by omega))) (sV (evSub (((xr_3 - xa % xr_3 : Nat) : Int)) rfl rfl (wU64 ⟨by have h9 := Nat.mod_lt xa (show 0 < xr_3 by omega); omega, by omega, by omega⟩)) (sMi rfl (sV (evRem ((((xr_3 - xa % xr_3) % xr_3 : Nat) : Int)) rfl rfl (by omega) (remE (by omega) (by omega))) (sV (evConv ((((xr_3 - xa % xr_3) % xr_3 : Nat) : Int)) Tryz.underlying100 Tryz.underlying26 rfl (wU32 ⟨rfl, by omega, by have h9 := Nat.mod_lt ((xr_3 - xa % xr_3)) (show 0 < xr_3 by omega); omega⟩)) (sAi rfl (sK hK7 (wp_ret (ret1 (.int .u32 ((((xr_3 - xa % xr_3) % xr_3 : Nat) : Int))) Tryz.results66 (resT rfl) ?_))))))))))))))
  have hlt9 := Nat.mod_lt ((xr_3 - xa % xr_3)) (show 0 < xr_3 by omega)
  exact ⟨((xr_3 - xa % xr_3) % xr_3), rfl, hE5, (by omega), (by rw [e_3])⟩
theorem modular_Add {w : World} {xa : Nat} {xb : Nat} {xm : Nat} (ba : xa < 4294967296) (bb : xb < 4294967296) (bm : xm < 4294967296) (hm : 0 < xm) : Calls Tryz.prog 153 #[(.int .u32 ((xa : Int))), (.int .u32 ((xb : Int))), (.int .u32 ((xm : Int)))] w (Ret fun v w' => ∃ (xr : Nat), v = (.int .u32 ((xr : Int))) ∧ Ext w w' ∧ xr < 4294967296 ∧ (xr = (xa + xb) % xm)) := by
  refine enter Tryz.func153 rfl Tryz.ntmps153 rfl (rS fun K1 hK1 => sAi rfl (sK hK1 (rS fun K2 hK2 => sMi rfl (sV (evConv ((xa : Int)) Tryz.underlying26 Tryz.underlying100 rfl (wU64 (by omega))) (sMi rfl (sV (evConv ((xb : Int)) Tryz.underlying26 Tryz.underlying100 rfl (wU64 (by omega))) (sV (evAdd (((xa + xb : Nat) : Int)) rfl rfl (wU64 (by omega))) (sMi rfl (sO (oCall rfl call65 (modular_modulus (xm := xm) (by omega) (by omega)) rfl ?_))))))))))
  rintro _ w4 ⟨xr_3, rfl, hE5, br_3, e_3⟩
  have hz6 := hE5.size
  refine sV (evRem ((((xa + xb) % xr_3 : Nat) : Int)) rfl rfl (by omega) (remE (by omega) (by omega))) (sV (evConv ((((xa + xb) % xr_3 : Nat) : Int)) Tryz.underlying100 Tryz.underlying26 rfl (wU32 ⟨rfl, by omega, by have h9 := Nat.mod_lt ((xa + xb)) (show 0 < xr_3 by omega); omega⟩)) (sAi rfl (sK hK2 (wp_ret (ret1 (.int .u32 ((((xa + xb) % xr_3 : Nat) : Int))) Tryz.results153 (resT rfl) ?_)))))
  have hlt9 := Nat.mod_lt ((xa + xb)) (show 0 < xr_3 by omega)
  exact ⟨((xa + xb) % xr_3), rfl, hE5, (by omega), (by rw [e_3])⟩
theorem modular_Mul {w : World} {xa : Nat} {xb : Nat} {xm : Nat} (ba : xa < 4294967296) (bb : xb < 4294967296) (bm : xm < 4294967296) (hm : 0 < xm) : Calls Tryz.prog 84 #[(.int .u32 ((xa : Int))), (.int .u32 ((xb : Int))), (.int .u32 ((xm : Int)))] w (Ret fun v w' => ∃ (xr : Nat), v = (.int .u32 ((xr : Int))) ∧ Ext w w' ∧ xr < 4294967296 ∧ (xr = xa * xb % xm)) := by
  refine enter Tryz.func84 rfl Tryz.ntmps84 rfl (rS fun K1 hK1 => sAi rfl (sK hK1 (rS fun K2 hK2 => sMi rfl (sV (evConv ((xa : Int)) Tryz.underlying26 Tryz.underlying100 rfl (wU64 (by omega))) (sMi rfl (sV (evConv ((xb : Int)) Tryz.underlying26 Tryz.underlying100 rfl (wU64 (by omega))) (sV (evMul (((xa * xb : Nat) : Int)) rfl rfl (mulU64 (mul32_le (by omega) (by omega)))) (sMi rfl (sO (oCall rfl call65 (modular_modulus (xm := xm) (by omega) (by omega)) rfl ?_))))))))))
  rintro _ w4 ⟨xr_3, rfl, hE5, br_3, e_3⟩
  have hz6 := hE5.size
  refine sV (evRem ((((xa * xb) % xr_3 : Nat) : Int)) rfl rfl (by omega) (remE (by omega) (by omega))) (sV (evConv ((((xa * xb) % xr_3 : Nat) : Int)) Tryz.underlying100 Tryz.underlying26 rfl (wU32 ⟨rfl, by omega, by have h9 := Nat.mod_lt ((xa * xb)) (show 0 < xr_3 by omega); omega⟩)) (sAi rfl (sK hK2 (wp_ret (ret1 (.int .u32 ((((xa * xb) % xr_3 : Nat) : Int))) Tryz.results84 (resT rfl) ?_)))))
  have hlt9 := Nat.mod_lt ((xa * xb)) (show 0 < xr_3 by omega)
  exact ⟨((xa * xb) % xr_3), rfl, hE5, (by omega), (by rw [e_3])⟩
theorem modular_Sub {w : World} {xa : Nat} {xb : Nat} {xm : Nat} (ba : xa < 4294967296) (bb : xb < 4294967296) (bm : xm < 4294967296) (hm : 0 < xm) : Calls Tryz.prog 129 #[(.int .u32 ((xa : Int))), (.int .u32 ((xb : Int))), (.int .u32 ((xm : Int)))] w (Ret fun v w' => ∃ (xr : Nat), v = (.int .u32 ((xr : Int))) ∧ Ext w w' ∧ xr < 4294967296 ∧ (xr = (xa + (xm - xb % xm) % xm) % xm)) := by
  refine enter Tryz.func129 rfl Tryz.ntmps129 rfl (rS fun K1 hK1 => sAi rfl (sK hK1 (rS fun K2 hK2 => sMi rfl (sMi rfl (sMi rfl (sO (oCall rfl call66 (modular_Neg (xa := xb) (by omega) (xm := xm) (by omega) (by omega)) rfl ?_)))))))
  rintro _ w4 ⟨xr_3, rfl, hE5, br_3, e_3⟩
  have hz6 := hE5.size
  refine sMi rfl (sO (oCall rfl call153 (modular_Add (xa := xa) (by omega) (xb := xr_3) (by omega) (xm := xm) (by omega) (by omega)) rfl ?_))
  rintro _ w8 ⟨xr_7, rfl, hE9, br_7, e_7⟩
  have hz10 := hE9.size
  refine sAi rfl (sK hK2 (wp_ret (ret1 (.int .u32 ((xr_7 : Int))) Tryz.results129 (resT rfl) ?_)))
  have hR11 := hE5.trans hE9
  exact ⟨(xr_7), rfl, hR11, (by omega), (by rw [e_7, e_3])⟩
theorem modular_Reduce {w : World} {ga : Bool} {Sa : Nat → Prop} {Aa : Option Addr} {na ca : Nat} {da : List Nat} {xm : Nat} (ha : NatR w Sa Aa na ca da) (bm : xm < 4294967296) (hna : na ≤ 268435456) (hm : 0 < xm) : Calls Tryz.prog 24 #[(.agg #[(.bool ga), (.slice Aa na ca)]), (.int .u32 ((xm : Int)))] w (Ret fun v w' => ∃ (xr : Nat), v = (.int .u32 ((xr : Int))) ∧ Ext w w' ∧ xr < 4294967296 ∧ (xr = md xm (zval ga da))) := by
  have ⟨la, ka, ma⟩ := ha.lkm
  replace ha := ha.low
  refine enter Tryz.func24 rfl Tryz.ntmps24 rfl (rS fun K1 hK1 => sO (oBox [(.bool ga), (.slice Aa na ca)] rfl rfl (fun g2 w3 hg4 hE5 hz6 hB7 => sAi rfl (sK hK1 (wp_seq_k fun K8 hK8 => dBegin (fun _ => False) mixed (fun w9 hE10 hz11 => dV 0 rfl (fun _ _ => evFA 1 fa25_1 rfl rfl) ?_))))))
  have hB12 := (hB7.ext hE10)
  refine dV 1 rfl (fun _ hf => evLoadB one23 rfl (hB12.ext hf) rfl) (dMi 2 rfl rfl (dOp 3 rfl rfl (by kernel_rfl) (oCall rfl call65 (modular_modulus (xm := xm) (by omega) (by omega)) rfl ?_)))
  rintro _ w14 ⟨xr_13, rfl, hE15, br_13, e_13⟩
  refine ⟨(Frm.of_ext hE15), ?_⟩
  have hz16 := hE15.size
  refine dV 4 rfl (fun _ _ => evConv ((xr_13 : Int)) Tryz.underlying100 Tryz.underlying26 rfl (wU32 ⟨rfl, by omega, by omega⟩)) ?_
  have hR17 := (hE5.trans hE10).trans hE15
  have h18 := (ha.ext hR17)
  refine dOp 5 rfl rfl (by kernel_rfl) (oCall rfl call64 (natural_DivSmall h18 (xd := xr_13) (by omega) (by omega) (by omega)) rfl ?_)
  rintro _ w20 ⟨Aq_19, nq_19, cq_19, dq_19, xm_19, gk_19, rfl, hE21, hq_19, bm_19, e_19, lt_19, cn_19, le_19⟩
  refine ⟨(Frm.of_ext hE21), ?_⟩
  have hz22 := hE21.size
  have ⟨lq_19, kq_19, mq_19⟩ := hq_19.lkm
  refine dV 6 rfl (v := (.tuple #[(.slice Aq_19 nq_19 cq_19), (.int .u32 ((xm_19 : Int))), (.bool gk_19)])) (fun _ _ => rfl) (dV 7 rfl (v := (.slice Aq_19 nq_19 cq_19)) (fun _ _ => rfl) (dV 8 rfl (v := (.int .u32 ((xm_19 : Int)))) (fun _ _ => rfl) (dV 9 rfl (v := (.bool gk_19)) (fun _ _ => rfl) (dAs 10 rfl rfl (dAi 11 rfl rfl (dAb 12 rfl rfl (dDone (by kernel_rfl) (xN (hK8 _ _ (wp_seq_k fun K24 hK24 => rS fun K25 hK25 => sV (evFA 0 fa25_0 rfl rfl) ?_))))))))))
  have hR26 := hE15.trans hE21
  have hB27 := (hB12.ext hR26)
  refine sV (evLoadB one4 rfl hB27 rfl) (sK hK25 (cB ga rfl ?_ ?_))
  · intro hc28
    subst hc28
    refine rS fun K29 hK29 => sMi rfl (sMi rfl (sO (oCall rfl call66 (modular_Neg (xa := xm_19) (by omega) (xm := xm) (by omega) (by omega)) rfl ?_)))
    rintro _ w31 ⟨xr_30, rfl, hE32, br_30, e_30⟩
    have hz33 := hE32.size
    refine sAi rfl (sK hK29 (wp_ret (xR (ret1 (.int .u32 ((xr_30 : Int))) Tryz.results24 (resT rfl) ?_))))
    have hR34 := (hR17.trans hE21).trans hE32
    exact ⟨(xr_30), rfl, hR34, (by omega), (by rw [zval_true]; rw [e_13] at e_19; exact md_negr e_19 (by omega) e_30)⟩
  · intro hc28
    subst hc28
    refine wp_skip (xN (hK24 _ _ (rS fun K35 hK35 => sMi rfl (sAi rfl (sK hK35 (wp_ret (ret1 (.int .u32 ((xm_19 : Int))) Tryz.results24 (resT rfl) ?_)))))))
    have hR36 := hR17.trans hE21
    exact ⟨(xm_19), rfl, hR36, (by omega), (by rw [zval_false]; rw [e_13] at e_19; exact md_rest e_19 (by omega))⟩
theorem modular_Symmetric {w : World} {xa : Nat} {xm : Nat} (ba : xa < 4294967296) (bm : xm < 4294967296) (hm : 0 < xm) : Calls Tryz.prog 96 #[(.int .u32 ((xa : Int))), (.int .u32 ((xm : Int)))] w (Ret fun v w' => ∃ (xr : Int), v = (.int .i64 (xr)) ∧ Ext w w' ∧ (xr = symN xm xa) ∧ (-4294967296 ≤ xr ∧ xr ≤ 4294967296)) := by
  refine enter Tryz.func96 rfl Tryz.ntmps96 rfl (rS fun K1 hK1 => sAi rfl (sK hK1 (rS fun K2 hK2 => sMi rfl (sO (oCall rfl call65 (modular_modulus (xm := xm) (by omega) (by omega)) rfl ?_)))))
  rintro _ w4 ⟨xr_3, rfl, hE5, br_3, e_3⟩
  have hz6 := hE5.size
  refine sV (evConv ((xr_3 : Int)) Tryz.underlying100 Tryz.underlying2 rfl (wI64 (by omega))) (sAi rfl (sK hK2 (wp_seq_k fun K7 hK7 => ?_)))
  have hlt := Nat.mod_lt xa hm; obtain rfl : xm = xr_3 := e_3.symm
  refine wp_region_lit (sMi rfl (sV (evConv ((xa : Int)) Tryz.underlying26 Tryz.underlying2 rfl (wI64 (by omega))) (sMi rfl (sV (evRem (((xa % xm : Nat) : Int)) rfl rfl (by omega) (remE (by omega) (by omega))) (sAi rfl (sK hK7 (wp_seq_k fun K8 hK8 => rS fun K9 hK9 => sMi rfl (sV (evMul (2 * (((xa % xm : Nat) : Int))) rfl rfl wI) (sMi rfl ?_)))))))))
  by_cases hc10 : (2 * (((xa % xm : Nat) : Int))) > ((xm : Int))
  · refine sV (evGtr true rfl rfl (dT hc10)) (sK hK9 (cT rfl (wp_region_lit (sMi rfl (sMi rfl (sV (evSub ((((xa % xm : Nat) : Int)) - ((xm : Int))) rfl rfl wI) (sAi rfl (sK hK8 (rS fun K11 hK11 => sMi rfl (sAi rfl (sK hK11 (wp_ret (ret1 (.int .i64 ((((xa % xm : Nat) : Int)) - ((xm : Int)))) Tryz.results96 (resT rfl) ?_)))))))))))))
    exact ⟨((((xa % xm : Nat) : Int)) - ((xm : Int))), rfl, hE5, (by unfold symN; split <;> omega), (by omega)⟩
  · refine sV (evGtr false rfl rfl (dF hc10)) (sK hK9 (cF rfl (wp_skip (xN (hK8 _ _ (rS fun K12 hK12 => sMi rfl (sAi rfl (sK hK12 (wp_ret (ret1 (.int .i64 (((xa % xm : Nat) : Int))) Tryz.results96 (resT rfl) ?_))))))))))
    exact ⟨(((xa % xm : Nat) : Int)), rfl, hE5, (by unfold symN; split <;> omega), (by omega)⟩
theorem modular_Inverse {w : World} {xa : Nat} {xm : Nat} (ba : xa < 4294967296) (bm : xm < 4294967296) (hm : 0 < xm) (hco : Nat.gcd xa xm = 1) : Calls Tryz.prog 118 #[(.int .u32 ((xa : Int))), (.int .u32 ((xm : Int)))] w (Ret fun v w' => ∃ (xr : Nat) (xo : Int), v = (.tuple #[(.int .u32 ((xr : Int))), (.int .i64 (xo))]) ∧ Ext w w' ∧ xr < 4294967296 ∧ (xo = 0) ∧ (xr = invN xm xa) ∧ (xr < xm)) := by
  refine enter Tryz.func118 rfl Tryz.ntmps118 rfl (rS fun K1 hK1 => sAi rfl (sAi rfl (sK hK1 (rS fun K2 hK2 => sMi rfl (sO (oCall rfl call65 (modular_modulus (xm := xm) (by omega) (by omega)) rfl ?_))))))
  rintro _ w4 ⟨xr_3, rfl, hE5, br_3, e_3⟩
  have hz6 := hE5.size
  refine sV (evConv ((xr_3 : Int)) Tryz.underlying100 Tryz.underlying2 rfl (wI64 (by omega))) (sAi rfl (sK hK2 (wp_seq_k fun K7 hK7 => ?_)))
  obtain rfl : xm = xr_3 := e_3.symm
  refine wp_region_lit (sMi rfl (sV (evConv ((xa : Int)) Tryz.underlying26 Tryz.underlying2 rfl (wI64 (by omega))) (sMi rfl (sV (evRem (((xa % xm : Nat) : Int)) rfl rfl (by omega) (remE (by omega) (by omega))) (sMi rfl (sAi rfl (sAi rfl (sK hK7 (rS fun K8 hK8 => sAi rfl (sAi rfl (sK hK8 (wp_seq_k fun K9 hK9 => wp_block ?_))))))))))))
  refine lLoop (fun m e w_ => ∃ (r : Nat) (s : Nat) (x : Int) (y : Int), m = s ∧ e 6 = (.int .i64 ((xm : Int))) ∧ e 7 = (.int .i64 ((r : Int))) ∧ e 8 = (.int .i64 ((s : Int))) ∧ e 9 = (.int .i64 (x)) ∧ e 10 = (.int .i64 (y)) ∧ Frm (fun b => False) w4 w_ ∧ (InvI xm xa r s x y)) ((xm)) ?_ ?_
  · refine ⟨(xa % xm), (xm), (1), (0), rfl, rfl, cI, cI, cI, cI, (Frm.refl _ _), ?_⟩
    · exact InvI.start hm hco
  · rintro m10 e19 w11 ⟨r, s, x, y, hm18, hs12, hs13, hs14, hs15, hs16, hF17, hI⟩
    obtain ⟨r20, rfl⟩ := sq (e := e19) (t := 6) hs12
    obtain ⟨r21, rfl⟩ := sq (e := r20) (t := 7) hs13
    obtain ⟨r22, rfl⟩ := sq (e := r21) (t := 8) hs14
    obtain ⟨r23, rfl⟩ := sq (e := r22) (t := 9) hs15
    obtain ⟨r24, rfl⟩ := sq (e := r23) (t := 10) hs16
    have hz25 := hF17.size
    have ⟨hrm, hsm, hxm, hym⟩ : r ≤ xm ∧ s ≤ xm ∧ x.natAbs ≤ xm ∧ y.natAbs ≤ xm := ⟨hI.rm, hI.sm, hI.bx, hI.by_⟩
    refine wp_seq_k fun K26 hK26 => rS fun K27 hK27 => sMi rfl ?_
    by_cases hc28 : ((s : Int)) ≠ 0
    · refine sV (evNeq true rfl rfl (dT hc28)) (sK hK27 (cT rfl (wp_skip (xN (hK26 _ _ (wp_block (rS fun K29 hK29 => sMi rfl (sMi rfl (sV (evQuo (((r / s : Nat) : Int)) rfl rfl (by omega) (quoEi64 (by omega) (by omega) (by omega))) ?_)))))))))
      have hq1 : r / s * s ≤ r := Nat.div_mul_le_self r s; have hq2 : r / s ≤ r := Nat.div_le_self r s; have hms := Nat.mod_lt r (show 0 < s by omega); have hqb := hI.qb (show 0 < s by omega); have hnb := hI.nb (show 0 < s by omega); have hnx := hI.nx; have hdm : r - r / s * s = r % s := by have h9 := Nat.div_add_mod r s; rw [Nat.mul_comm] at h9; omega
      refine sAi rfl (sK hK29 (rS fun K30 hK30 => sMi rfl (sMi rfl (sMi rfl (sMi rfl (sV (evMul (((r / s * s : Nat) : Int)) rfl rfl (wI64 ⟨by rw [Int.natCast_mul], by omega, by omega⟩)) (sV (evSub (((r % s : Nat) : Int)) rfl rfl (wI64 ⟨by omega, by omega, by omega⟩)) (sAi rfl (sAi rfl (sK hK30 (wp_region_lit (sMi rfl (sMi rfl (sMi rfl (sMi rfl (sV (evMul (((r / s : Nat) : Int) * y) rfl rfl (wI64 ⟨rfl, by omega, by omega⟩)) (sV (evSub (x - ((r / s : Nat) : Int) * y) rfl rfl (wI64 ⟨rfl, by omega, by omega⟩)) (sAi rfl (sAi rfl (sDone (bN (again ((r % s)) (by omega) ⟨(s), (r % s), (y), (x - ((r / s : Nat) : Int) * y), rfl, rfl, cI, cI, cI, cI, hF17, ?_⟩))))))))))))))))))))))
      · exact hI.step (by omega)
    · refine sV (evNeq false rfl rfl (dF hc28)) (sK hK27 (cF rfl (wp_exit (xE (xE (bE (xN (hK9 _ _ (wp_seq_k fun K31 hK31 => wp_seq_k fun K32 hK32 => ?_)))))))))
      obtain rfl : s = 0 := by omega
      have ⟨hr1, hxi⟩ := hI.done hm; have ⟨ht1, ht2, ht3⟩ := tmod_md hm x; have hml := md_lt hm x
      refine wp_region_lit (sMi rfl (sV (evNeq false rfl rfl (dF (by omega))) (sK hK32 (cF rfl (wp_skip (xN (hK31 _ _ (rS fun K33 hK33 => sMi rfl (sMi rfl (sV (evRem (x.tmod (xm : Int)) rfl rfl (by omega) (rfl)) (sMi rfl (sV (evAdd (x.tmod (xm : Int) + xm) rfl rfl (wI64 ⟨rfl, by omega, by omega⟩)) (sMi rfl (sV (evRem (((md xm x : Nat) : Int)) rfl rfl (by omega) (ht1)) (sV (evConv (((md xm x : Nat) : Int)) Tryz.underlying2 Tryz.underlying26 rfl (wU32 ⟨rfl, by omega, by omega⟩)) (sAi rfl (sAi rfl (sK hK33 (wp_ret (ret2 (.int .u32 (((md xm x : Nat) : Int))) (.int .i64 (0)) Tryz.results118 (resT rfl) (resT rfl) ?_))))))))))))))))))))
      have hR34 := hE5.trans hF17
      exact ⟨(md xm x), (0), rfl, hR34, (by omega), rfl, hxi, hml⟩
theorem modular_IsPrime {w : World} {xn : Nat} (bn : xn < 4294967296) (hp : xn = 2 ∨ xn = 3 ∨ xn = 5 ∨ xn = 7) : Calls Tryz.prog 54 #[(.int .u32 ((xn : Int)))] w (Ret fun v w' => ∃ (gr : Bool), v = (.bool gr) ∧ Ext w w' ∧ (gr = true)) := by
  refine enter Tryz.func54 rfl Tryz.ntmps54 rfl (rS fun K1 hK1 => sAb rfl (sK hK1 (wp_seq_k fun K2 hK2 => rS fun K3 hK3 => sMi rfl (sV (evLss false rfl rfl (dF (by omega))) (sK hK3 (cF rfl (wp_skip (xN (hK2 _ _ (wp_seq_k fun K4 hK4 => rS fun K5 hK5 => sV (v := (.agg #[(.int .u32 (2)), (.int .u32 (3)), (.int .u32 (5)), (.int .u32 (7)), (.int .u32 (61))])) (evK (by kernel_rfl)) (sMi rfl (sK hK5 (wp_block ?_)))))))))))))
  refine lLoop (fun m e w_ => ∃ (i : Nat), m = 5 - i ∧ e 0 = (.int .u32 ((xn : Int))) ∧ e 10 = (.agg #[(.int .u32 (2)), (.int .u32 (3)), (.int .u32 (5)), (.int .u32 (7)), (.int .u32 (61))]) ∧ e 11 = (.int .i64 ((i : Int))) ∧ Frm (fun b => False) w w_ ∧ (i ≤ 5) ∧ (∀ j, j < i → xn % [2, 3, 5, 7, 61].getD j 0 ≠ 0)) (5 - (0)) ?_ ?_
  · refine ⟨(0), rfl, rfl, rfl, cI, (Frm.refl _ _), ?_, ?_⟩
    · omega
    · intro j hj; omega
  · rintro m6 e13 w7 ⟨i, hm12, hs8, hs9, hs10, hF11, hi, hj⟩
    obtain ⟨r14, rfl⟩ := sq (e := e13) (t := 0) hs8
    obtain ⟨r15, rfl⟩ := sq (e := r14) (t := 10) hs9
    obtain ⟨r16, rfl⟩ := sq (e := r15) (t := 11) hs10
    have hz17 := hF11.size
    refine rS fun K18 hK18 => ?_
    by_cases hc19 : ((i : Int)) < 5
    · refine sV (evLss true rfl rfl (dT hc19)) (sK hK18 (wp_seq_k fun K20 hK20 => cT rfl (wp_skip (xN (hK20 _ _ (wp_seq_k fun K21 hK21 => wp_block (rS fun K22 hK22 => sV (evIdxA i Tryz.underlying121 one26 sz26 rfl rfl (by omega) (by omega) (idx_u32 (l := [2, 3, 5, 7, 61]) rfl (by exact lq))) ?_)))))))
      have hnz : [2, 3, 5, 7, 61].getD i 0 ≠ 0 := nz5 (by omega); have hlt5 : [2, 3, 5, 7, 61].getD i 0 < 62 := lt5 i
      refine sAi rfl (sK hK22 (rS fun K23 hK23 => sMi rfl (sMi rfl (sV (evRem (((xn % ([2, 3, 5, 7, 61].getD i 0) : Nat) : Int)) rfl rfl (by omega) (remE (by omega) (by omega))) ?_))))
      by_cases hc24 : (((xn % ([2, 3, 5, 7, 61].getD i 0) : Nat) : Int)) = 0
      · refine sV (evEql true rfl rfl (dT hc24)) (sK hK23 (cT rfl (rS fun K25 hK25 => sMi rfl (sMi rfl (sV (evEql true rfl rfl (dT (by have h9 := prime4 hp (by omega) (by omega) hj; omega))) (sAb rfl (sK hK25 (wp_ret (bR (xR (xR (bR (xR (ret1 (.bool true) Tryz.results54 (resT rfl) ?_))))))))))))))
        exact ⟨(true), rfl, hF11, rfl⟩
      · refine sV (evEql false rfl rfl (dF hc24)) (sK hK23 (cF rfl (wp_skip (bN (xN (hK21 _ _ (wp_region_lit (sV (evAdd (((i : Int)) + 1) rfl rfl wI) (sMi rfl (sDone (again (5 - (i + 1)) (by omega) ⟨(i + 1), rfl, rfl, rfl, cI, hF11, ?_, ?_⟩)))))))))))
        · omega
        · exact prime4_next hj (by omega)
    · exact (prime4_dead hp (by omega) hj).elim
end Go.Proofs.YtneolcopompkaaaGreatDoor
