/-
  Walks of package modular: remainders, inverses, the small primes.
-/
import Derived.Test.YtneolcopompkaaaGreatDoorInt1
import Derived.Test.YtneolcopompkaaaGreatDoorNat5
import Derived.Test.YtneolcopompkaaaGreatDoorLibA
import Derived.Test.YtneolcopompkaaaGreatDoorLibB
namespace Go.Proofs.YtneolcopompkaaaGreatDoor
open Go.RowKit Go.Gx Tryz
theorem modular_modulus {w : World} {xm : Nat} (bm : xm < 4294967296) (hm : 0 < xm) : Calls Tryz.prog 65 #[(.int .u32 xm)] w (Ret fun v w' => ∃ (xr : Nat), v = (.int .u64 xr) ∧ Ext w w' ∧ xr < 18446744073709551616 ∧ (xr = xm)) := by
 refine enter func65 rfl ntmps65 rfl (rS fun c a => sAi rfl (sK a (rS fun d b => sMi rfl (sV (evMax ((xm : Int)) rfl rfl (by split <;> omega)) (sV (evConv ((xm : Int)) underlying26 underlying100 rfl (wU64 Qo)) (sAi rfl (sK b (wp_ret (ret1 (.int .u64 xm) results65 (resT rfl) ?_)))))))))
 exact ⟨(xm), rfl, (Frm.refl _ _), Qo, rfl⟩
theorem modular_Neg {w : World} {xa : Nat} {xm : Nat} (ba : xa < 4294967296) (bm : xm < 4294967296) (hm : 0 < xm) : Calls Tryz.prog 66 #[(.int .u32 xa), (.int .u32 xm)] w (Ret fun v w' => ∃ (xr : Nat), v = (.int .u32 xr) ∧ Ext w w' ∧ xr < 4294967296 ∧ (xr = (xm - xa % xm) % xm)) := by
 refine enter func66 rfl ntmps66 rfl (rS fun k c => sAi rfl (sK c (rS fun l d => sMi rfl (sO (oCall rfl call65 (modular_modulus (xm := xm) Qo Qo) rfl ?_)))))
 rintro _ m ⟨a, rfl, b, g, e⟩
 have j := b.size
 refine sAi rfl (sK d (rS fun n f => sMi rfl (sMi rfl (sV (evConv ((xa : Int)) underlying26 underlying100 rfl (wU64 Qo)) (sMi rfl (sV (evRem (((xa % a : Nat) : Int)) rfl rfl Qo (remE Qo Qo)) (sV (evSub (((a - xa % a : Nat) : Int)) rfl rfl (wU64 ⟨by have h := Nat.mod_lt xa (show 0 < a by omega); omega, by omega, by omega⟩)) (sMi rfl (sV (evRem ((((a - xa % a) % a : Nat) : Int)) rfl rfl Qo (remE Qo Qo)) (sV (evConv ((((a - xa % a) % a : Nat) : Int)) underlying100 underlying26 rfl (wU32 ⟨rfl, by omega, by have h := Nat.mod_lt ((a - xa % a)) (show 0 < a by omega); omega⟩)) (sAi rfl (sK f (wp_ret (ret1 (.int .u32 ((((a - xa % a) % a : Nat) : Int))) results66 (resT rfl) ?_))))))))))))))
 have i := Nat.mod_lt ((a - xa % a)) (show 0 < a by omega)
 exact ⟨((a - xa % a) % a), rfl, b, (by omega), (by rw [e])⟩
theorem modular_Add {w : World} {xa : Nat} {xb : Nat} {xm : Nat} (ba : xa < 4294967296) (bb : xb < 4294967296) (bm : xm < 4294967296) (hm : 0 < xm) : Calls Tryz.prog 153 #[(.int .u32 xa), (.int .u32 xb), (.int .u32 xm)] w (Ret fun v w' => ∃ (xr : Nat), v = (.int .u32 xr) ∧ Ext w w' ∧ xr < 4294967296 ∧ (xr = (xa + xb) % xm)) := by
 refine enter func153 rfl ntmps153 rfl (rS fun i c => sAi rfl (sK c (rS fun j d => sMi rfl (sV (evConv ((xa : Int)) underlying26 underlying100 rfl (wU64 Qo)) (sMi rfl (sV (evConv ((xb : Int)) underlying26 underlying100 rfl (wU64 Qo)) (sV (evAdd (((xa + xb : Nat) : Int)) rfl rfl (wU64 Qo)) (sMi rfl (sO (oCall rfl call65 (modular_modulus (xm := xm) Qo Qo) rfl ?_))))))))))
 rintro _ k ⟨a, rfl, b, f, e⟩
 have h := b.size
 refine sV (evRem ((((xa + xb) % a : Nat) : Int)) rfl rfl Qo (remE Qo Qo)) (sV (evConv ((((xa + xb) % a : Nat) : Int)) underlying100 underlying26 rfl (wU32 ⟨rfl, by omega, by have l := Nat.mod_lt ((xa + xb)) (show 0 < a by omega); omega⟩)) (sAi rfl (sK d (wp_ret (ret1 (.int .u32 ((((xa + xb) % a : Nat) : Int))) results153 (resT rfl) ?_)))))
 have g := Nat.mod_lt ((xa + xb)) (show 0 < a by omega)
 exact ⟨((xa + xb) % a), rfl, b, (by omega), (by rw [e])⟩
theorem modular_Mul {w : World} {xa : Nat} {xb : Nat} {xm : Nat} (ba : xa < 4294967296) (bb : xb < 4294967296) (bm : xm < 4294967296) (hm : 0 < xm) : Calls Tryz.prog 84 #[(.int .u32 xa), (.int .u32 xb), (.int .u32 xm)] w (Ret fun v w' => ∃ (xr : Nat), v = (.int .u32 xr) ∧ Ext w w' ∧ xr < 4294967296 ∧ (xr = xa * xb % xm)) := by
 refine enter func84 rfl ntmps84 rfl (rS fun i c => sAi rfl (sK c (rS fun j d => sMi rfl (sV (evConv ((xa : Int)) underlying26 underlying100 rfl (wU64 Qo)) (sMi rfl (sV (evConv ((xb : Int)) underlying26 underlying100 rfl (wU64 Qo)) (sV (evMul (((xa * xb : Nat) : Int)) rfl rfl (mulU64 (mul32_le Qo Qo))) (sMi rfl (sO (oCall rfl call65 (modular_modulus (xm := xm) Qo Qo) rfl ?_))))))))))
 rintro _ k ⟨a, rfl, b, f, e⟩
 have h := b.size
 refine sV (evRem ((((xa * xb) % a : Nat) : Int)) rfl rfl Qo (remE Qo Qo)) (sV (evConv ((((xa * xb) % a : Nat) : Int)) underlying100 underlying26 rfl (wU32 ⟨rfl, by omega, by have l := Nat.mod_lt ((xa * xb)) (show 0 < a by omega); omega⟩)) (sAi rfl (sK d (wp_ret (ret1 (.int .u32 ((((xa * xb) % a : Nat) : Int))) results84 (resT rfl) ?_)))))
 have g := Nat.mod_lt ((xa * xb)) (show 0 < a by omega)
 exact ⟨((xa * xb) % a), rfl, b, (by omega), (by rw [e])⟩
theorem modular_Sub {w : World} {xa : Nat} {xb : Nat} {xm : Nat} (ba : xa < 4294967296) (bb : xb < 4294967296) (bm : xm < 4294967296) (hm : 0 < xm) : Calls Tryz.prog 129 #[(.int .u32 xa), (.int .u32 xb), (.int .u32 xm)] w (Ret fun v w' => ∃ (xr : Nat), v = (.int .u32 xr) ∧ Ext w w' ∧ xr < 4294967296 ∧ (xr = (xa + (xm - xb % xm) % xm) % xm)) := by
 refine enter func129 rfl ntmps129 rfl (rS fun n f => sAi rfl (sK f (rS fun o g => sMi rfl (sMi rfl (sMi rfl (sO (oCall rfl call66 (modular_Neg (xa := xb) Qo (xm := xm) Qo Qo) rfl ?_)))))))
 rintro _ p ⟨d, rfl, b, j, h⟩
 have m := b.size
 refine sMi rfl (sO (oCall rfl call153 (modular_Add (xa := xa) Qo (xb := d) Qo (xm := xm) Qo Qo) rfl ?_))
 rintro _ q ⟨a, rfl, c, k, i⟩
 have l := c.size
 refine sAi rfl (sK g (wp_ret (ret1 (.int .u32 a) results129 (resT rfl) ?_)))
 have e := b.trans c
 exact ⟨(a), rfl, e, (by omega), (by rw [i, h])⟩
theorem modular_Reduce {w : World} {ga : Bool} {Sa : Nat → Prop} {Aa : Option Addr} {na ca : Nat} {da : List Nat} {xm : Nat} (ha : NatR w Sa Aa na ca da) (bm : xm < 4294967296) (hna : na ≤ 268435456) (hm : 0 < xm) : Calls Tryz.prog 24 #[(.agg #[(.bool ga), (.slice Aa na ca)]), (.int .u32 xm)] w (Ret fun v w' => ∃ (xr : Nat), v = (.int .u32 xr) ∧ Ext w w' ∧ xr < 4294967296 ∧ (xr = md xm (zval ga da))) := by
 have ⟨la, ka, ma⟩ := ha.lkm
 replace ha := ha.low
 refine enter func24 rfl ntmps24 rfl (rS fun K1 C => sO (oBox [(.bool ga), (.slice Aa na ca)] rfl rfl (fun g2 w3 V D W E => sAi rfl (sK C (wp_seq_k fun K8 F => dBegin (fun _ => False) mixed (fun w9 m R => dV 0 rfl (fun _ _ => evFA 1 fa25_1 rfl rfl) ?_))))))
 have n := (E.ext m)
 refine dV 1 rfl (fun _ hf => evLoadB one23 rfl (n.ext hf) rfl) (dMi 2 rfl rfl (dOp 3 rfl rfl (by kernel_rfl) (oCall rfl call65 (modular_modulus (xm := xm) Qo Qo) rfl ?_)))
 rintro _ X ⟨g, rfl, c, H, o⟩
 refine ⟨(Frm.of_ext c), ?_⟩
 have S := c.size
 refine dV 4 rfl (fun _ _ => evConv ((g : Int)) underlying100 underlying26 rfl (wU32 ⟨rfl, by omega, by omega⟩)) ?_
 have e := (D.trans m).trans c
 have G := (ha.ext e)
 refine dOp 5 rfl rfl (by kernel_rfl) (oCall rfl call64 (natural_DivSmall G (xd := g) Qo Qo Qo) rfl ?_)
 rintro _ Y ⟨h, i, j, I, a, k, rfl, b, q, J, d, K, L, M⟩
 refine ⟨(Frm.of_ext b), ?_⟩
 have T := b.size
 have ⟨N, O, P⟩ := q.lkm
 refine dV 6 rfl (v := (.tuple #[(.slice h i j), (.int .u32 a), (.bool k)])) (fun _ _ => rfl) (dV 7 rfl (v := (.slice h i j)) (fun _ _ => rfl) (dV 8 rfl (v := (.int .u32 a)) (fun _ _ => rfl) (dV 9 rfl (v := (.bool k)) (fun _ _ => rfl) (dAs 10 rfl rfl (dAi 11 rfl rfl (dAb 12 rfl rfl (dDone (by kernel_rfl) (xN (F _ _ (wp_seq_k fun Z r => rS fun a0 s => sV (evFA 0 fa25_0 rfl rfl) ?_))))))))))
 have t := c.trans b
 have u := (n.ext t)
 refine sV (evLoadB one4 rfl u rfl) (sK s (cB ga rfl ?_ ?_))
 ·intro f
  subst f
  refine rS fun a1 x => sMi rfl (sMi rfl (sO (oCall rfl call66 (modular_Neg (xa := a) Qo (xm := xm) Qo Qo) rfl ?_)))
  rintro _ a2 ⟨l, rfl, p, Q, y⟩
  have U := p.size
  refine sAi rfl (sK x (wp_ret (xR (ret1 (.int .u32 l) results24 (resT rfl) ?_))))
  have z := (e.trans b).trans p
  exact ⟨(l), rfl, z, (by omega), (by rw [zval_true]; rw [o] at d; exact md_negr d (by omega) y)⟩
 ·intro f
  subst f
  refine wp_skip (xN (r _ _ (rS fun a3 A => sMi rfl (sAi rfl (sK A (wp_ret (ret1 (.int .u32 a) results24 (resT rfl) ?_)))))))
  have B := e.trans b
  exact ⟨(a), rfl, B, (by omega), (by rw [zval_false]; rw [o] at d; exact md_rest d (by omega))⟩
theorem modular_Symmetric {w : World} {xa : Nat} {xm : Nat} (ba : xa < 4294967296) (bm : xm < 4294967296) (hm : 0 < xm) : Calls Tryz.prog 96 #[(.int .u32 xa), (.int .u32 xm)] w (Ret fun v w' => ∃ (xr : Int), v = (.int .i64 (xr)) ∧ Ext w w' ∧ (xr = symN xm xa) ∧ (-4294967296 ≤ xr ∧ xr ≤ 4294967296)) := by
 refine enter func96 rfl ntmps96 rfl (rS fun p h => sAi rfl (sK h (rS fun q i => sMi rfl (sO (oCall rfl call65 (modular_modulus (xm := xm) Qo Qo) rfl ?_)))))
 rintro _ r ⟨a, rfl, b, l, j⟩
 have m := b.size
 refine sV (evConv ((a : Int)) underlying100 underlying2 rfl (wI64 Qo)) (sAi rfl (sK i (wp_seq_k fun s k => ?_)))
 have hlt := Nat.mod_lt xa hm; obtain rfl : xm = a := j.symm
 refine wp_region_lit (sMi rfl (sV (evConv ((xa : Int)) underlying26 underlying2 rfl (wI64 Qo)) (sMi rfl (sV (evRem (((xa % xm : Nat) : Int)) rfl rfl Qo (remE Qo Qo)) (sAi rfl (sK k (wp_seq_k fun t d => rS fun u e => sMi rfl (sV (evMul (2 * (((xa % xm : Nat) : Int))) rfl rfl wI) (sMi rfl ?_)))))))))
 by_cases c : (2 * (((xa % xm : Nat) : Int))) > ((xm : Int))
 ·refine sV (evGtr true rfl rfl (dT c)) (sK e (cT rfl (wp_region_lit (sMi rfl (sMi rfl (sV (evSub ((((xa % xm : Nat) : Int)) - ((xm : Int))) rfl rfl wI) (sAi rfl (sK d (rS fun n f => sMi rfl (sAi rfl (sK f (wp_ret (ret1 (.int .i64 ((((xa % xm : Nat) : Int)) - ((xm : Int)))) results96 (resT rfl) ?_)))))))))))))
  exact ⟨((((xa % xm : Nat) : Int)) - ((xm : Int))), rfl, b, (by unfold symN; split <;> omega), Qo⟩
 ·refine sV (evGtr false rfl rfl (dF c)) (sK e (cF rfl (wp_skip (xN (d _ _ (rS fun o g => sMi rfl (sAi rfl (sK g (wp_ret (ret1 (.int .i64 (((xa % xm : Nat) : Int))) results96 (resT rfl) ?_))))))))))
  exact ⟨(((xa % xm : Nat) : Int)), rfl, b, (by unfold symN; split <;> omega), Qo⟩
theorem modular_Inverse {w : World} {xa : Nat} {xm : Nat} (ba : xa < 4294967296) (bm : xm < 4294967296) (hm : 0 < xm) (hco : Nat.gcd xa xm = 1) : Calls Tryz.prog 118 #[(.int .u32 xa), (.int .u32 xm)] w (Ret fun v w' => ∃ (xr : Nat) (xo : Int), v = (.tuple #[(.int .u32 xr), (.int .i64 (xo))]) ∧ Ext w w' ∧ xr < 4294967296 ∧ (xo = 0) ∧ (xr = invN xm xa) ∧ (xr < xm)) := by
 refine enter func118 rfl ntmps118 rfl (rS fun K1 A => sAi rfl (sAi rfl (sK A (rS fun K2 B => sMi rfl (sO (oCall rfl call65 (modular_modulus (xm := xm) Qo Qo) rfl ?_))))))
 rintro _ H ⟨c, rfl, g, I, C⟩
 have M := g.size
 refine sV (evConv ((c : Int)) underlying100 underlying2 rfl (wI64 Qo)) (sAi rfl (sK B (wp_seq_k fun K7 D => ?_)))
 obtain rfl : xm = c := C.symm
 refine wp_region_lit (sMi rfl (sV (evConv ((xa : Int)) underlying26 underlying2 rfl (wI64 Qo)) (sMi rfl (sV (evRem (((xa % xm : Nat) : Int)) rfl rfl Qo (remE Qo Qo)) (sMi rfl (sAi rfl (sAi rfl (sK D (rS fun K8 E => sAi rfl (sAi rfl (sK E (wp_seq_k fun K9 F => wp_block ?_))))))))))))
 refine lLoop (fun m e w_ => ∃ (r : Nat) (s : Nat) (x : Int) (y : Int), m = s ∧ e 6 = (.int .i64 xm) ∧ e 7 = (.int .i64 r) ∧ e 8 = (.int .i64 s) ∧ e 9 = (.int .i64 (x)) ∧ e 10 = (.int .i64 (y)) ∧ Frm (fun b => False) H w_ ∧ (InvI xm xa r s x y)) ((xm)) ?_ ?_
 ·refine ⟨(xa % xm), (xm), (1), (0), rfl, rfl, cI, cI, cI, cI, (Frm.refl _ _), ?_⟩
  ·exact InvI.start hm hco
 ·rintro N O P ⟨r, s, x, y, J, h, i, j, k, l, a, hI⟩
  obtain ⟨Q, rfl⟩ := sq5 h i j k l
  have K := a.size
  have ⟨hrm, hsm, hxm, hym⟩ : r ≤ xm ∧ s ≤ xm ∧ x.natAbs ≤ xm ∧ y.natAbs ≤ xm := ⟨hI.rm, hI.sm, hI.bx, hI.by_⟩
  refine wp_seq_k fun R n => rS fun S d => sMi rfl ?_
  by_cases f : ((s : Int)) ≠ 0
  ·refine sV (evNeq true rfl rfl (dT f)) (sK d (cT rfl (wp_skip (xN (n _ _ (wp_block (rS fun T o => sMi rfl (sMi rfl (sV (evQuo (((r / s : Nat) : Int)) rfl rfl Qo (quoEi64 Qo Qo Qo)) ?_)))))))))
   have U : r / s * s ≤ r := Nat.div_mul_le_self r s; have V : r / s ≤ r := Nat.div_le_self r s; have hms := Nat.mod_lt r (show 0 < s by omega); have hqb := hI.qb (show 0 < s by omega); have hnb := hI.nb (show 0 < s by omega); have hnx := hI.nx; have hdm : r - r / s * s = r % s := by have L := Nat.div_add_mod r s; rw [Nat.mul_comm] at L; omega
   refine sAi rfl (sK o (rS fun W p => sMi rfl (sMi rfl (sMi rfl (sMi rfl (sV (evMul (((r / s * s : Nat) : Int)) rfl rfl (wI64 ⟨by rw [Int.natCast_mul], by omega, by omega⟩)) (sV (evSub (((r % s : Nat) : Int)) rfl rfl (wI64 ⟨by omega, by omega, by omega⟩)) (sAi rfl (sAi rfl (sK p (wp_region_lit (sMi rfl (sMi rfl (sMi rfl (sMi rfl (sV (evMul (((r / s : Nat) : Int) * y) rfl rfl (wI64 ⟨rfl, by omega, by omega⟩)) (sV (evSub (x - ((r / s : Nat) : Int) * y) rfl rfl (wI64 ⟨rfl, by omega, by omega⟩)) (sAi rfl (sAi rfl (sDone (bN (again ((r % s)) (by omega) ⟨(s), (r % s), (y), (x - ((r / s : Nat) : Int) * y), rfl, rfl, cI, cI, cI, cI, a, ?_⟩))))))))))))))))))))))
   ·exact hI.step Qo
  ·refine sV (evNeq false rfl rfl (dF f)) (sK d (cF rfl (wp_exit (xE (xE (bE (xN (F _ _ (wp_seq_k fun X q => wp_seq_k fun Y t => ?_)))))))))
   obtain rfl : s = 0 := by omega
   have ⟨Z, hxi⟩ := hI.done hm; have ⟨G, a0, a1⟩ := tmod_md hm x; have hml := md_lt hm x
   refine wp_region_lit (sMi rfl (sV (evNeq false rfl rfl (dF Qo)) (sK t (cF rfl (wp_skip (xN (q _ _ (rS fun a2 u => sMi rfl (sMi rfl (sV (evRem (x.tmod (xm : Int)) rfl rfl Qo (rfl)) (sMi rfl (sV (evAdd (x.tmod (xm : Int) + xm) rfl rfl (wI64 ⟨rfl, by omega, by omega⟩)) (sMi rfl (sV (evRem (((md xm x : Nat) : Int)) rfl rfl Qo (G)) (sV (evConv (((md xm x : Nat) : Int)) underlying2 underlying26 rfl (wU32 ⟨rfl, by omega, by omega⟩)) (sAi rfl (sAi rfl (sK u (wp_ret (ret2 (.int .u32 (((md xm x : Nat) : Int))) (.int .i64 (0)) results118 (resT rfl) (resT rfl) ?_))))))))))))))))))))
   have z := g.trans a
   exact ⟨(md xm x), (0), rfl, z, Qo, rfl, hxi, hml⟩
theorem bits_TrailingZeros32 {w : World} {xn : Nat} (bn : xn < 4294967296) (hT : TabR w) (h2 : xn = 10 ∨ xn = 12) : Calls Tryz.prog 92 #[(.int .u32 xn)] w (Ret fun v w' => ∃ (xr : Nat), v = (.int .i64 xr) ∧ Ext w w' ∧ xr ≤ 9223372036854775807 ∧ (xr = tzN xn)) := by
 have ltT := hT.lt0
 refine enter func92 rfl ntmps92 rfl ?_
 have ⟨a, g, h, i, b, j, k⟩ := tz_facts h2
 refine rS fun l c => sAi rfl (sK c (wp_seq_k fun m d => rS fun n e => sMi rfl (sV (evEql false rfl rfl (dF Qo)) (sK e (cF rfl (wp_skip (xN (d _ _ (rS fun o f => sMi rfl (sMi rfl (sV (evNeg (((4294967296 - xn : Nat) : Int)) rfl (wU32m Qo)) (sV (v := (.int .u32 ((((BitVec.ofNat 32 xn &&& BitVec.ofNat 32 (4294967296 - xn)).toNat : Nat) : Int)))) (evAnd32 rfl rfl) ?_))))))))))))
 rw [a]
 refine sV (evMul (((tzB xn : Nat) : Int)) rfl rfl (wU32m Qo)) (sV (evShr ((((tzB xn) / 2 ^ 27 : Nat) : Int)) rfl rfl Qo (shrE (x := tzB xn) (s := 27) Qo Qo (by show _ ≤ 32; omega))) (sV (evArr ((tzB xn) / 2 ^ 27) underlying149 sz5 rfl rfl ((tzB xn) / 2 ^ 27)) (sV (evLoad one5 rfl (hT.cell b)) (sV (evConv (((tzN xn : Nat) : Int)) underlying5 underlying3 rfl (wI64 Qo)) (sAi rfl (sK f (wp_ret (ret1 (.int .i64 (((tzN xn : Nat) : Int))) results92 (resT rfl) ?_))))))))
 exact ⟨(tzN xn), rfl, (Frm.refl _ _), Qo, rfl⟩
theorem modular_Pow {w : World} {xa : Nat} {xn : Nat} {xm : Nat} (ba : xa < 4294967296) (bn : xn < 18446744073709551616) (bm : xm < 4294967296) (hm : 2 ≤ xm) : Calls Tryz.prog 121 #[(.int .u32 xa), (.int .u64 xn), (.int .u32 xm)] w (Ret fun v w' => ∃ (xr : Nat), v = (.int .u32 xr) ∧ Ext w w' ∧ xr < 4294967296 ∧ (xr = xa ^ xn % xm)) := by
 refine enter func121 rfl ntmps121 rfl (rS fun K1 L => sAi rfl (sK L (rS fun K2 M => sMi rfl (sO (oCall rfl call65 (modular_modulus (xm := xm) Qo Qo) rfl ?_)))))
 rintro _ R ⟨d, rfl, A, S, Y⟩
 have Z := A.size
 refine sV (evRem (((1 % d : Nat) : Int)) rfl rfl Qo (remE Qo Qo)) ?_
 have a0 : 1 % d = 1 := Nat.mod_eq_of_lt Qo
 refine sV (evConv 1 underlying100 underlying26 rfl (wU32m Qo)) (sAi rfl (sK M (wp_seq_k fun K7 N => wp_block ?_)))
 refine lLoop (fun m e w_ => ∃ (r : Nat) (a : Nat) (n : Nat), m = n ∧ e 0 = (.int .u32 a) ∧ e 1 = (.int .u64 n) ∧ e 2 = (.int .u32 xm) ∧ e 7 = (.int .u32 r) ∧ Frm (fun b => False) R w_ ∧ (a < 4294967296 ∧ n < 18446744073709551616) ∧ (r < xm) ∧ (r * a ^ n % xm = xa ^ xn % xm)) ((xn)) ?_ ?_
 ·refine ⟨(1), (xa), (xn), rfl, cI, cI, rfl, cI, (Frm.refl _ _), ?_, ?_, ?_⟩
  ·exact ⟨by omega, by omega⟩
  ·omega
  ·rw [Nat.one_mul]
 ·rintro m8 a1 w9 ⟨r, a, n, T, B, C, D, E, c, hra, hrm, hP⟩
  obtain ⟨a2, rfl⟩ := sq4 B C D E
  have U := c.size
  refine wp_seq_k fun a3 F => rS fun a4 f => sMi rfl ?_
  by_cases g : ((n : Int)) > 0
  ·refine sV (evGtr true rfl rfl (dT g)) (sK f (cT rfl (wp_skip (xN (F _ _ (wp_seq_k fun a5 h => wp_block (wp_seq_k fun a6 i => rS fun a7 j => sMi rfl (sV (v := (.int .u64 (((n % 2 : Nat) : Int)))) (evAndOneU rfl rfl Qo) ?_))))))))
   by_cases k : (((n % 2 : Nat) : Int)) ≠ 0
   ·refine sV (evNeq true rfl rfl (dT k)) ?_
    have l :  n % 2 ≠ 0 := by omega
    refine sK j (cT rfl (wp_region_lit (sMi rfl (sMi rfl (sMi rfl (sO (oCall rfl call84 (modular_Mul (xa := r) Qo (xb := a) Qo (xm := xm) Qo Qo) rfl ?_)))))))
    rintro _ a8 ⟨u, rfl, o, O, p⟩
    have V := o.size
    refine sAi rfl (sK i (wp_region_lit (sMi rfl (sMi rfl (sMi rfl (sO (oCall rfl call84 (modular_Mul (xa := a) Qo (xb := a) Qo (xm := xm) Qo Qo) rfl ?_)))))))
    rintro _ a9 ⟨y, rfl, q, P, G⟩
    have W := q.size
    refine sAi rfl (sDone (bN (xN (h _ _ (wp_region_lit (sMi rfl (sV (evShr (((n / 2 ^ 1 : Nat) : Int)) rfl rfl Qo (shrE (x := n) (s := 1) Qo Qo (by show _ ≤ 64; omega))) (sAi rfl (sDone ?_)))))))))
    have H := o.trans q
    refine again ((n / 2 ^ 1)) Qo ⟨(u), (y), (n / 2 ^ 1), rfl, cI, cI, rfl, cI, (c.trans H), ?_, ?_, ?_⟩
    ·exact ⟨by omega, by omega⟩
    ·rw [p]; exact Nat.mod_lt _ (by omega)
    ·exact powm_odd hP l p G
   ·refine sV (evNeq false rfl rfl (dF k)) ?_
    have l : ¬ n % 2 ≠ 0 := by omega
    refine sK j (cF rfl (wp_skip (xN (i _ _ (wp_region_lit (sMi rfl (sMi rfl (sMi rfl (sO (oCall rfl call84 (modular_Mul (xa := a) Qo (xb := a) Qo (xm := xm) Qo Qo) rfl ?_))))))))))
    rintro _ b0 ⟨z, rfl, t, Q, I⟩
    have X := t.size
    refine sAi rfl (sDone (bN (xN (h _ _ (wp_region_lit (sMi rfl (sV (evShr (((n / 2 ^ 1 : Nat) : Int)) rfl rfl Qo (shrE (x := n) (s := 1) Qo Qo (by show _ ≤ 64; omega))) (sAi rfl (sDone (again ((n / 2 ^ 1)) Qo ⟨(r), (z), (n / 2 ^ 1), rfl, cI, cI, rfl, cI, (c.trans t), ?_, ?_, ?_⟩))))))))))
    ·exact ⟨by omega, by omega⟩
    ·exact hrm
    ·exact powm_even hP l I
  ·refine sV (evGtr false rfl rfl (dF g)) (sK f (cF rfl (wp_exit (xE (xE (bE (xN (N _ _ (rS fun b1 J => sMi rfl (sAi rfl (sK J (wp_ret (ret1 (.int .u32 r) results121 (resT rfl) ?_)))))))))))))
   have K := A.trans c
   exact ⟨(r), rfl, K, (by omega), (by rw [← hP, show n = 0 by omega, Nat.pow_zero, Nat.mul_one, Nat.mod_eq_of_lt hrm])⟩
theorem modular_probable {w : World} {xn : Nat} {xb : Nat} {xt : Nat} (bn : xn < 4294967296) (bb : xb < 4294967296) (bt : xt ≤ 9223372036854775807) (hnt : xn = 11 ∧ xt = 1 ∨ xn = 13 ∧ xt = 2) (hb : xb = 2 ∨ xb = 7 ∨ xb = 61) : Calls Tryz.prog 93 #[(.int .u32 xn), (.int .u32 xb), (.int .i64 xt)] w (Ret fun v w' => ∃ (gr : Bool), v = (.bool gr) ∧ Ext w w' ∧ (gr = true)) := by
 refine enter func93 rfl ntmps93 rfl (rS fun K1 F => sAb rfl (sK F (rS fun K2 G => sMi rfl (sMi rfl (sV (evSub (((xn - 1 : Nat) : Int)) rfl rfl (wU32 Qo)) (sV (evConv (((xn - 1 : Nat) : Int)) underlying26 underlying100 rfl (wU64 Qo)) (sMi rfl (sV (evConv ((xt : Int)) underlying3 underlying139 rfl (wU64 Qo)) (sV (evShr ((((xn - 1) / 2 ^ xt : Nat) : Int)) rfl rfl Qo (shrE (x := xn - 1) (s := xt) Qo Qo (by show _ ≤ 64; omega))) ?_)))))))))
 have T : (xn - 1) / 2 ^ xt ≤ xn - 1 := Nat.div_le_self _ _
 refine sMi rfl (sO (oCall rfl call121 (modular_Pow (xa := xb) Qo (xn := (xn - 1) / 2 ^ xt) Qo (xm := xn) Qo Qo) rfl ?_))
 rintro _ L ⟨a, rfl, c, M, H⟩
 have U := c.size
 have hpk := prob_ok hnt hb H
 refine sAi rfl (sK G (wp_seq_k fun K7 I => rS fun K8 d => sMi rfl ?_))
 by_cases k : ((a : Int)) = 1
 ·refine sV (evEql true rfl rfl (dT k)) (sMb rfl (sSkip rfl rfl (sSkip rfl rfl (sSkip rfl rfl (sSkip rfl rfl (sV (v := (.bool true)) (rfl) (sK d (cT rfl (rS fun V l => sAb rfl (sK l (wp_ret (xR (ret1 (.bool true) results93 (resT rfl) ?_)))))))))))))
  exact ⟨(true), rfl, c, rfl⟩
 ·refine sV (evEql false rfl rfl (dF k)) (sMb rfl (sEv (v := (.int .u32 a)) (rfl) rfl rfl (sEv (v := (.int .u32 xn)) (rfl) rfl rfl (sEv (v := (.int .u32 (((xn - 1 : Nat) : Int)))) (evSub (((xn - 1 : Nat) : Int)) rfl rfl (wU32 Qo)) rfl rfl ?_))))
  by_cases f : ((a : Int)) = (((xn - 1 : Nat) : Int))
  ·refine sEv (v := (.bool true)) (evEql true rfl rfl (dT f)) rfl rfl (sV (v := (.bool true)) (rfl) (sK d (cT rfl (rS fun W n => sAb rfl (sK n (wp_ret (xR (ret1 (.bool true) results93 (resT rfl) ?_))))))))
   exact ⟨(true), rfl, c, rfl⟩
  ·refine sEv (v := (.bool false)) (evEql false rfl rfl (dF f)) rfl rfl (sV (v := (.bool false)) (rfl) (sK d (cF rfl (wp_skip (xN (I _ _ (wp_seq_k fun X N => rS fun Y o => sAi rfl (sK o (wp_block ?_)))))))))
   have hsq : xn = 13 ∧ xt = 2 ∧ a * a % 13 = 12 := by omega
   refine lLoop (fun m e w_ => ∃ (i : Nat) (x : Nat), m = xt - i ∧ e 0 = (.int .u32 xn) ∧ e 2 = (.int .i64 xt) ∧ e 7 = (.int .u32 x) ∧ e 8 = (.int .i64 i) ∧ Frm (fun b => False) L w_ ∧ (i = 1 ∧ x = a)) (xt - (1)) ?_ ?_
   ·refine ⟨(1), (a), rfl, rfl, rfl, cI, cI, (Frm.refl _ _), ?_⟩
    ·exact ⟨rfl, rfl⟩
   ·rintro Z a0 a1 ⟨i, x, O, p, q, r, t, g, hix⟩
    obtain ⟨a2, rfl⟩ := sq4 p q r t
    have P := g.size
    refine wp_seq_k fun a3 u => rS fun a4 y => sMi rfl (sMi rfl ?_)
    by_cases z : ((i : Int)) < ((xt : Int))
    ·refine sV (evLss true rfl rfl (dT z)) (sK y (cT rfl (wp_skip (xN (u _ _ (wp_seq_k fun a5 Q => wp_block (rS fun a6 A => sMi rfl (sMi rfl (sMi rfl (sO (oCall rfl call84 (modular_Mul (xa := x) Qo (xb := x) Qo (xm := xn) Qo Qo) rfl ?_)))))))))))
     rintro _ a7 ⟨j, rfl, h, K, B⟩
     have R := h.size
     have S : j = 12 := by have J := B; rw [hix.2, hsq.1, hsq.2.2] at J; exact J
     refine sAi rfl (sK A (rS fun a8 C => sMi rfl (sMi rfl (sV (evSub (((xn - 1 : Nat) : Int)) rfl rfl (wU32 Qo)) (sV (evEql true rfl rfl (dT Qo)) (sK C (cT rfl (rS fun a9 D => sAb rfl (sK D (wp_ret (bR (xR (xR (bR (xR (ret1 (.bool true) results93 (resT rfl) ?_))))))))))))))))
     have E := (c.trans g).trans h
     exact ⟨(true), rfl, E, rfl⟩
    ·exfalso; omega
theorem modular_IsPrime {w : World} {xn : Nat} (bn : xn < 4294967296) (hT : TabR w) (hp : xn = 2 ∨ xn = 3 ∨ xn = 5 ∨ xn = 7 ∨ xn = 11 ∨ xn = 13) : Calls Tryz.prog 54 #[(.int .u32 xn)] w (Ret fun v w' => ∃ (gr : Bool), v = (.bool gr) ∧ Ext w w' ∧ (gr = true)) := by
 have ltT := hT.lt0
 refine enter func54 rfl ntmps54 rfl (rS fun K1 P => sAb rfl (sK P (wp_seq_k fun K2 Q => rS fun K3 R => sMi rfl (sV (evLss false rfl rfl (dF Qo)) (sK R (cF rfl (wp_skip (xN (Q _ _ (wp_seq_k fun K4 S => rS fun K5 T => sV (v := (.agg #[(.int .u32 (2)), (.int .u32 (3)), (.int .u32 (5)), (.int .u32 (7)), (.int .u32 (61))])) (evK (by kernel_rfl)) (sMi rfl (sK T (wp_block ?_)))))))))))))
 refine lLoop (fun m e w_ => ∃ (i : Nat), m = 5 - i ∧ e 0 = (.int .u32 xn) ∧ e 10 = (.agg #[(.int .u32 (2)), (.int .u32 (3)), (.int .u32 (5)), (.int .u32 (7)), (.int .u32 (61))]) ∧ e 11 = (.int .i64 i) ∧ Frm (fun b => False) w w_ ∧ (i ≤ 5) ∧ (∀ j, j < i → xn % [2, 3, 5, 7, 61].getD j 0 ≠ 0)) (5 - (0)) ?_ ?_
 ·refine ⟨(0), rfl, rfl, rfl, cI, (Frm.refl _ _), ?_, ?_⟩
  ·omega
  ·intro j hj; omega
 ·rintro m6 a9 w7 ⟨i, Z, U, V, t, c, hi, hj⟩
  obtain ⟨b0, rfl⟩ := sq3 U V t
  have a0 := c.size
  refine rS fun b1 f => ?_
  by_cases g : ((i : Int)) < 5
  ·refine sV (evLss true rfl rfl (dT g)) (sK f (wp_seq_k fun b2 u => cT rfl (wp_skip (xN (u _ _ (wp_seq_k fun b3 x => wp_block (rS fun b4 y => sV (evIdxA i underlying121 one26 sz26 rfl rfl Qo Qo (idx_u32 (l := [2, 3, 5, 7, 61]) rfl (by exact lq))) ?_)))))))
   have hnz : [2, 3, 5, 7, 61].getD i 0 ≠ 0 := nz5 Qo; have a1 : [2, 3, 5, 7, 61].getD i 0 < 62 := lt5 i
   refine sAi rfl (sK y (rS fun b5 h => sMi rfl (sMi rfl (sV (evRem (((xn % ([2, 3, 5, 7, 61].getD i 0) : Nat) : Int)) rfl rfl Qo (remE Qo Qo)) ?_))))
   by_cases n : (((xn % ([2, 3, 5, 7, 61].getD i 0) : Nat) : Int)) = 0
   ·refine sV (evEql true rfl rfl (dT n)) (sK h (cT rfl (rS fun b6 z => sMi rfl (sMi rfl (sV (evEql true rfl rfl (dT (by have h9 := prime6 (i := i) hp Qo Qo; omega))) (sAb rfl (sK z (wp_ret (bR (xR (xR (bR (xR (ret1 (.bool true) results54 (resT rfl) ?_))))))))))))))
    exact ⟨(true), rfl, c, rfl⟩
   ·refine sV (evEql false rfl rfl (dF n)) (sK h (cF rfl (wp_skip (bN (xN (x _ _ (wp_region_lit (sV (evAdd (((i : Int)) + 1) rfl rfl wI) (sMi rfl (sDone (again (5 - (i + 1)) Qo ⟨(i + 1), rfl, rfl, rfl, cI, c, ?_, ?_⟩)))))))))))
    ·omega
    ·exact prime4_next hj Qo
  ·refine sV (evLss false rfl rfl (dF g)) (sK f (wp_seq_k fun b7 a2 => cF rfl (wp_exit (xE (xE (bE (xN (S _ _ (wp_seq_k fun b8 A => ?_)))))))))
   have hlf := prime6_left hp Qo hj
   refine wp_region_lit (sMi rfl (sV (evSub (((xn - 1 : Nat) : Int)) rfl rfl (wU32 Qo)) ?_))
   have W := (hT.ext c)
   refine sO (oCall rfl call92 (bits_TrailingZeros32 (xn := xn - 1) Qo W Qo) rfl ?_)
   rintro _ X ⟨a, rfl, o, Y, B⟩
   have a3 := o.size
   have htz : xn = 11 ∧ a = 1 ∨ xn = 13 ∧ a = 2 := by rw [B]; rcases hlf with rfl | rfl; exact .inl ⟨rfl, rfl⟩; exact .inr ⟨rfl, rfl⟩
   refine sAi rfl (sK A (wp_seq_k fun b9 C => rS fun c0 D => sV (v := (.agg #[(.int .u32 (2)), (.int .u32 (7)), (.int .u32 (61))])) (evK (by kernel_rfl)) (sMi rfl (sK D (wp_block ?_)))))
   refine lLoop (fun m e w_ => ∃ (k : Nat), m = 3 - k ∧ e 0 = (.int .u32 xn) ∧ e 5 = (.int .i64 a) ∧ e 25 = (.agg #[(.int .u32 (2)), (.int .u32 (7)), (.int .u32 (61))]) ∧ e 26 = (.int .i64 k) ∧ Frm (fun b => False) X w_ ∧ (k ≤ 3)) (3 - (0)) ?_ ?_
   ·refine ⟨(0), rfl, rfl, rfl, rfl, cI, (Frm.refl _ _), ?_⟩
    ·omega
   ·rintro c1 c2 c3 ⟨k, a4, E, F, G, H, d, hk⟩
    obtain ⟨c4, rfl⟩ := sq4 E F G H
    have a5 := d.size
    refine rS fun c5 p => ?_
    by_cases q : ((k : Int)) < 3
    ·refine sV (evLss true rfl rfl (dT q)) (sK p (wp_seq_k fun c6 I => cT rfl (wp_skip (xN (I _ _ (wp_seq_k fun c7 J => wp_block (rS fun c8 K => sV (evIdxA k underlying123 one26 sz26 rfl rfl Qo Qo (idx_u32 (l := [2, 7, 61]) rfl (by exact lq))) ?_)))))))
     have c9 := base3 (i := k) Qo; have a6 : [2, 7, 61].getD k 0 < 62 := by omega
     refine sAi rfl (sK K (rS fun d0 L => sMi rfl (sMi rfl (sMi rfl (sO (oCall rfl call93 (modular_probable (xn := xn) Qo (xb := [2, 7, 61].getD k 0) Qo (xt := a) Qo Qo Qo) rfl ?_))))))
     rintro _ d1 ⟨s, rfl, r, M⟩
     have a7 := r.size
     obtain rfl : s = true := M
     refine sV (evNot _ rfl rfl) (sK L (cF rfl (wp_skip (bN (xN (J _ _ (wp_region_lit (sV (evAdd (((k : Int)) + 1) rfl rfl wI) (sMi rfl (sDone (again (3 - (k + 1)) Qo ⟨(k + 1), rfl, rfl, rfl, rfl, cI, (d.trans r), ?_⟩)))))))))))
     ·omega
    ·refine sV (evLss false rfl rfl (dF q)) (sK p (wp_seq_k fun d2 a8 => cF rfl (wp_exit (xE (xE (bE (xN (C _ _ (rS fun d3 N => sAb rfl (sK N (wp_ret (ret1 (.bool true) results54 (resT rfl) ?_))))))))))))
     have O := (c.trans o).trans d
     exact ⟨(true), rfl, O, rfl⟩
end Go.Proofs.YtneolcopompkaaaGreatDoor
