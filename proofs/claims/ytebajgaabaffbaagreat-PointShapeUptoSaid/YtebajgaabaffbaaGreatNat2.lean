/-
  Walks of package natural: comparison, sums and differences.
-/
import Derived.Test.YtebajgaabaffbaaGreatNat1
import Derived.Test.YtebajgaabaffbaaGreatLibA
namespace Go.Proofs.YtebajgaabaffbaaGreat
open Go.RowKit Go.Gx Tryz
theorem bits_Sub32 {w : World} {x1 : Nat} {x2 : Nat} {x3 : Nat} (b1 : x1 < 4294967296) (b2 : x2 < 4294967296) (b3 : x3 < 4294967296) (hc : x3 ≤ 1) : Calls Tryz.prog 114 #[(.int .u32 x1), (.int .u32 x2), (.int .u32 x3)] w (Ret fun v w' => ∃ (xs : Nat) (xc : Nat), v = (.tuple #[(.int .u32 xs), (.int .u32 xc)]) ∧ Ext w w' ∧ xs < 4294967296 ∧ xc < 4294967296 ∧ (xs + x2 + x3 = x1 + 4294967296 * xc) ∧ (xc ≤ 1)) := by
 refine enter func114 rfl ntmps114 rfl (rS fun d a => sAi rfl (sAi rfl (sK a (rS fun e b => sMi rfl (sMi rfl (sV (evSub ((((x1 + 4294967296 - x2) % 4294967296 : Nat) : Int)) rfl rfl (wU32m Qo)) (sMi rfl (sV (evSub ((((x1 + 8589934592 - x2 - x3) % 4294967296 : Nat) : Int)) rfl rfl (wU32m Qo)) (sAi rfl (sK b (rS fun f c => sMi rfl (sV (v := (.int .u32 ((((~~~ BitVec.ofNat 32 x1).toNat : Nat) : Int)))) (evNot32 rfl) (sMi rfl (sV (v := (.int .u32 ((((BitVec.ofNat 32 ((~~~ BitVec.ofNat 32 x1).toNat) &&& BitVec.ofNat 32 x2).toNat : Nat) : Int)))) (evAnd32 rfl rfl) (sMi rfl (sMi rfl (sV (v := (.int .u32 ((((BitVec.ofNat 32 x1 ^^^ BitVec.ofNat 32 x2).toNat : Nat) : Int)))) (evXor32 rfl rfl) ?_)))))))))))))))));refine sV (v := (.int .u32 ((((~~~ BitVec.ofNat 32 ((BitVec.ofNat 32 x1 ^^^ BitVec.ofNat 32 x2).toNat)).toNat : Nat) : Int)))) (evNot32 rfl) (sMi rfl (sV (v := (.int .u32 ((((BitVec.ofNat 32 ((~~~ BitVec.ofNat 32 ((BitVec.ofNat 32 x1 ^^^ BitVec.ofNat 32 x2).toNat)).toNat) &&& BitVec.ofNat 32 ((x1 + 8589934592 - x2 - x3) % 4294967296)).toNat : Nat) : Int)))) (evAnd32 rfl rfl) (sV (v := (.int .u32 ((((BitVec.ofNat 32 ((BitVec.ofNat 32 ((~~~ BitVec.ofNat 32 x1).toNat) &&& BitVec.ofNat 32 x2).toNat) ||| BitVec.ofNat 32 ((BitVec.ofNat 32 ((~~~ BitVec.ofNat 32 ((BitVec.ofNat 32 x1 ^^^ BitVec.ofNat 32 x2).toNat)).toNat) &&& BitVec.ofNat 32 ((x1 + 8589934592 - x2 - x3) % 4294967296)).toNat)).toNat : Nat) : Int)))) (evOr32 rfl rfl) ?_)))
 generalize ht : (BitVec.ofNat 32 ((BitVec.ofNat 32 ((~~~ BitVec.ofNat 32 x1).toNat) &&& BitVec.ofNat 32 x2).toNat) ||| BitVec.ofNat 32 ((BitVec.ofNat 32 ((~~~ BitVec.ofNat 32 ((BitVec.ofNat 32 x1 ^^^ BitVec.ofNat 32 x2).toNat)).toNat) &&& BitVec.ofNat 32 ((x1 + 8589934592 - x2 - x3) % 4294967296)).toNat)).toNat = t
 have hbw := borrow32 b1 b2 hc rfl t ht.symm;refine sV (evShr (((t / 2147483648 : Nat) : Int)) rfl rfl (by omega) (by rw [shr_div 31 rfl 2147483648 rfl (by omega)]; omega)) (sAi rfl (sK c (wp_ret (ret2 (.int .u32 ((((x1 + 8589934592 - x2 - x3) % 4294967296 : Nat) : Int))) (.int .u32 (((t / 2147483648 : Nat) : Int))) results114 (resT rfl) (resT rfl) ?_))));exact ⟨((x1 + 8589934592 - x2 - x3) % 4294967296), (t / 2147483648), rfl, (Frm.refl _ _), Qo, Qo, Qo, Qo⟩
theorem bits_Mul32 {w : World} {x1 : Nat} {x2 : Nat} (b1 : x1 < 4294967296) (b2 : x2 < 4294967296)  : Calls Tryz.prog 127 #[(.int .u32 x1), (.int .u32 x2)] w (Ret fun v w' => ∃ (xh : Nat) (xl : Nat), v = (.tuple #[(.int .u32 xh), (.int .u32 xl)]) ∧ Ext w w' ∧ xh < 4294967296 ∧ xl < 4294967296 ∧ (xl + 4294967296 * xh = x1 * x2)) := by
 refine enter func127 rfl ntmps127 rfl ?_;have a : x1 * x2 ≤ 18446744065119617025 := mul32_le b1 b2;refine rS fun e b => sAi rfl (sAi rfl (sK b (rS fun f c => sMi rfl (sV (evConv ((x1 : Int)) underlying138 underlying128 rfl (wU64 Qo)) (sMi rfl (sV (evConv ((x2 : Int)) underlying138 underlying128 rfl (wU64 Qo)) (sV (evMul (((x1 * x2 : Nat) : Int)) rfl rfl (mulU64 a)) ?_)))))))
 generalize hq : x1 * x2 = q at *
 refine sAi rfl (sK c (rS fun g d => sMi rfl (sV (evShr (((q / 4294967296 : Nat) : Int)) rfl rfl (by omega) (by rw [shr_div 32 rfl 4294967296 rfl (by omega)]; omega)) (sV (evConv ((((q / 4294967296) % 4294967296 : Nat) : Int)) underlying128 underlying138 rfl (wU32m (by omega))) (sMi rfl (sV (evConv (((q % 4294967296 : Nat) : Int)) underlying128 underlying138 rfl (wU32m (by omega))) (sAi rfl (sAi rfl (sK d (wp_ret (ret2 (.int .u32 ((((q / 4294967296) % 4294967296 : Nat) : Int))) (.int .u32 (((q % 4294967296 : Nat) : Int))) results127 (resT rfl) (resT rfl) ?_)))))))))));exact ⟨((q / 4294967296) % 4294967296), (q % 4294967296), rfl, (Frm.refl _ _), Qo, Qo, Qo⟩
theorem natural_Cmp {w : World} {Sa : Nat → Prop} {Aa : Option Addr} {na ca : Nat} {da : List Nat} {Sb : Nat → Prop} {Ab : Option Addr} {nb cb : Nat} {db : List Nat} (ha : NatR w Sa Aa na ca da) (hb : NatR w Sb Ab nb cb db)  : Calls Tryz.prog 79 #[(.slice Aa na ca), (.slice Ab nb cb)] w (Ret fun v w' => ∃ (xr : Int), v = (.int .i64 (xr)) ∧ Ext w w' ∧ (xr = cmpN (val da) (val db))) := by
 have ⟨la, ka, ma⟩ := ha.lkm;replace ha := ha.low;have ⟨lb, kb, mb⟩ := hb.lkm;replace hb := hb.low;refine enter func79 rfl ntmps79 rfl (rS fun K1 a9 => sAi rfl (sK a9 (rS fun K2 b0 => sMs rfl (sO (oCall rfl call100 (natural_trim ha) rfl ?_)))));rintro _ w4 ⟨K, a, L, p, rfl, f, l, h, b2⟩;have d0 := f.size;have ⟨b3, b4, b5⟩ := l.lkm;refine sMs rfl ?_;have h8 := (hb.ext f);refine sO (oCall rfl call100 (natural_trim h8) rfl ?_);rintro _ b1 ⟨M, q, N, r, rfl, c, n, i, b7⟩;have b8 := c.size;have ⟨b9, c0, c1⟩ := n.lkm;refine sAs rfl (sAs rfl (sK b0 (wp_seq_k fun d1 O => wp_block (rS fun d2 u => sMs rfl (sV (evLen underlying32 rfl) (sMs rfl (sV (evLen underlying32 rfl) ?_)))))))
 by_cases x : ((a : Int)) < ((q : Int))
 ·refine sV (evLss true rfl rfl (dT x)) (sAb rfl (sK u (cT rfl (rS fun d3 P => sAi rfl (sK P (wp_ret (bR (xR (ret1 (.int .i64 ((-1))) results79 (resT rfl) ?_)))))))))
  have Q := f.trans c;exact ⟨((-1)), rfl, Q, (cmp_lt h i (canon_len_lt l.2 (by rw [i]; exact canon_trim _ _) (by omega)))⟩
 ·refine sV (evLss false rfl rfl (dF x)) (sAb rfl (sK u (cF rfl (rS fun d4 y => sMs rfl (sV (evLen underlying32 rfl) (sMs rfl (sV (evLen underlying32 rfl) ?_)))))))
  by_cases z : ((a : Int)) > ((q : Int))
  ·refine sV (evGtr true rfl rfl (dT z)) (sAb rfl (sK y (cT rfl (rS fun d5 R => sAi rfl (sK R (wp_ret (bR (xR (ret1 (.int .i64 (1)) results79 (resT rfl) ?_)))))))))
   have S := f.trans c;exact ⟨(1), rfl, S, (cmp_gt h i (canon_len_lt n.2 (by rw [h]; exact canon_trim _ _) (by omega)))⟩
  ·refine sV (evGtr false rfl rfl (dF z)) (sAb rfl (sK y (cF rfl (wp_skip (bN (xN (O _ _ (wp_seq_k fun d6 T => rS fun d7 U => sMs rfl (sV (evLen underlying32 rfl) (sV (evSub (((a : Int)) - 1) rfl rfl wI) (sAi rfl (sK U (wp_block ?_)))))))))))))
   refine lLoop (fun m e w_ => ∃ (k : Nat), m = k ∧ e 0 = (.slice K a L) ∧ e 1 = (.slice M q N) ∧ e 5 = (.int .i64 ((k : Int) - 1)) ∧ Frm (fun b => False) b1 w_ ∧ (k ≤ a) ∧ (∀ j, k ≤ j → p.getD j 0 = r.getD j 0)) ((a)) ?_ ?_
   ·refine ⟨(a), rfl, rfl, rfl, cI, (Frm.refl _ _), ?_, ?_⟩
    ·omega
    ·exact eq_top Qo Qo
   ·rintro d8 d9 e0 ⟨k, c2, V, W, X, d, hk, heq⟩
    obtain ⟨e1, rfl⟩ := sq3 V W X;have c3 := d.size;refine wp_seq_k fun e2 Y => rS fun e3 A => sMi rfl ?_
    by_cases B : ((k : Int) - 1) ≥ 0
    ·refine sV (evGeq true rfl rfl (dT B)) (sK A (cT rfl (wp_skip (xN (Y _ _ (wp_seq_k fun e4 Z => wp_block (wp_block (wp_seq_k fun e5 C => dBegin (fun _ => False) mixed (fun e6 g c4 => dMs 0 rfl rfl (dMi 1 rfl rfl ?_))))))))))
     have a0 := (c.trans d).trans g;have s := (l.ext a0);obtain ⟨e7, G, rfl⟩ := s.base Qo;refine dV 2 rfl (fun _ _ => evIx (k - 1) underlying32 sz138 rfl rfl (G + (k - 1))) ?_;have c5 := s.lt (k - 1);refine dV 3 rfl (fun _ hf => evLoad one138 rfl ((s.ext hf).cell Qo)) (dMs 4 rfl rfl (dMi 5 rfl rfl ?_));have a1 := d.trans g;have t := (n.ext a1);obtain ⟨e8, H, rfl⟩ := t.base Qo;refine dV 6 rfl (fun _ _ => evIx (k - 1) underlying32 sz138 rfl rfl (H + (k - 1))) ?_;have c6 := t.lt (k - 1);refine dV 7 rfl (fun _ hf => evLoad one138 rfl ((t.ext hf).cell Qo)) ?_
     by_cases D : (((p.getD (k - 1) 0 : Nat) : Int)) < (((r.getD (k - 1) 0 : Nat) : Int))
     ·refine dV 8 rfl (fun _ _ => evLss true rfl rfl (dT D)) (dAb 9 rfl rfl (dDone (by kernel_rfl) (xN (C _ _ (cT rfl (rS fun e9 a2 => sAi rfl (sK a2 (wp_ret (bR (bR (xR (xR (bR (xR (ret1 (.int .i64 ((-1))) results79 (resT rfl) ?_)))))))))))))))
      have a3 := ((f.trans c).trans d).trans g;exact ⟨((-1)), rfl, a3, (cmp_lt h i (val_lt_top (k := k) Qo l.2 heq Qo Qo Qo))⟩
     ·refine dV 8 rfl (fun _ _ => evLss false rfl rfl (dF D)) (dAb 9 rfl rfl (dDone (by kernel_rfl) (xN (C _ _ (cF rfl (wp_seq_k fun f0 E => dBegin (fun _ => False) mixed (fun f1 o c7 => dMs 0 rfl rfl (dMi 1 rfl rfl (dV 2 rfl (fun _ _ => evIx (k - 1) underlying32 sz138 rfl rfl (G + (k - 1))) ?_)))))))))
      have I := (s.ext o);have c8 := I.lt (k - 1);refine dV 3 rfl (fun _ hf => evLoad one138 rfl ((I.ext hf).cell Qo)) (dMs 4 rfl rfl (dMi 5 rfl rfl (dV 6 rfl (fun _ _ => evIx (k - 1) underlying32 sz138 rfl rfl (H + (k - 1))) ?_)));have J := (t.ext o);have c9 := J.lt (k - 1);refine dV 7 rfl (fun _ hf => evLoad one138 rfl ((J.ext hf).cell Qo)) ?_
      by_cases F : (((p.getD (k - 1) 0 : Nat) : Int)) > (((r.getD (k - 1) 0 : Nat) : Int))
      ·refine dV 8 rfl (fun _ _ => evGtr true rfl rfl (dT F)) (dAb 9 rfl rfl (dDone (by kernel_rfl) (xN (E _ _ (cT rfl (rS fun f2 a4 => sAi rfl (sK a4 (wp_ret (bR (bR (xR (xR (bR (xR (ret1 (.int .i64 (1)) results79 (resT rfl) ?_)))))))))))))))
       have a5 := (((f.trans c).trans d).trans g).trans o;exact ⟨(1), rfl, a5, (cmp_gt h i (val_lt_top (k := k) Qo n.2 (fun j hj => (heq j hj).symm) Qo Qo Qo))⟩
      ·refine dV 8 rfl (fun _ _ => evGtr false rfl rfl (dF F)) (dAb 9 rfl rfl (dDone (by kernel_rfl) (xN (E _ _ (cF rfl (wp_skip (bN (bN (xN (Z _ _ (wp_region_lit (sMi rfl (sV (evSub (((k : Int) - 1) - 1) rfl rfl wI) (sAi rfl (sDone ?_)))))))))))))))
       have a6 := g.trans o;refine again ((k - 1)) Qo ⟨(k - 1), rfl, rfl, rfl, cI, (d.trans a6), ?_, ?_⟩
       ·omega
       ·exact eq_down heq Qo
    ·refine sV (evGeq false rfl rfl (dF B)) (sK A (cF rfl (wp_exit (xE (xE (bE (xN (T _ _ (rS fun f3 a7 => sAi rfl (sK a7 (wp_ret (ret1 (.int .i64 (0)) results79 (resT rfl) ?_))))))))))))
     have a8 := (f.trans c).trans d;exact ⟨(0), rfl, a8, (cmp_eq h i (getD_ext Qo (fun j => heq j Qo)))⟩
theorem natural_Of {w : World} {x1 : Nat} (b1 : x1 < 18446744073709551616)  : Calls Tryz.prog 74 #[(.int .u64 x1)] w (Ret fun v w' => ∃ (Ar : Option Addr) (nr : Nat) (cr : Nat) (dr : List Nat), v = (.slice Ar nr cr) ∧ Ext w w' ∧ NatR w' (fun b => w.heap.size ≤ b) Ar nr cr dr ∧ (val dr = x1) ∧ (Canon isZ dr) ∧ (nr ≤ 2)) := by
 refine enter func74 rfl ntmps74 rfl (rS fun A l => sAs rfl (sK l (rS fun B m => sMi rfl (sV (evConv (((x1 % 4294967296 : Nat) : Int)) underlying128 underlying138 rfl (wU32m (by omega))) (sMi rfl (sV (evShr (((x1 / 4294967296 : Nat) : Int)) rfl rfl (by omega) (by rw [shr_div 32 rfl 4294967296 rfl (by omega)]; omega)) (sV (evConv ((((x1 / 4294967296) % 4294967296 : Nat) : Int)) underlying128 underlying138 rfl (wU32m (by omega))) (sO (oBuildSlice [(.int .u32 (((x1 % 4294967296 : Nat) : Int))), (.int .u32 ((((x1 / 4294967296) % 4294967296 : Nat) : Int)))] [[(.int .u32 (((x1 % 4294967296 : Nat) : Int)))], [(.int .u32 ((((x1 / 4294967296) % 4294967296 : Nat) : Int)))]] underlying32 inf138 rfl rfl rfl rfl rfl ?_)))))))));intro j n x o y f;replace f : Blk n j 138 [(.int .u32 (((x1 % 4294967296 : Nat) : Int))), (.int .u32 ((((x1 / 4294967296) % 4294967296 : Nat) : Int)))] := f;have t : NatR n (fun b => b = j) (some ⟨j, 0, none⟩) 2 2 ([x1 % 4294967296, (x1 / 4294967296) % 4294967296]) := NatR.of_blk f rfl (by simp [BS]; omega) (by exact lq) (by omega) (by unfold CapMax; omega);refine sO (oCall rfl call96 (natural_Normal t Qo) rfl ?_);rintro _ z ⟨a, c, d, i, rfl, g, e, h, p⟩;have u := g.size;have ⟨q, r, s⟩ := e.lkm;refine sAs rfl (sK m (wp_ret (ret1 (.slice a c d) results74 (resT rfl) ?_)));have k := o.trans g;exact ⟨a, c, d, i, rfl, k, (NatR.sub e q5), (of_val h (by omega)), (by rw [h]; exact canon_trim _ _), (by omega)⟩
theorem natural_Add {w : World} {Sa : Nat → Prop} {Aa : Option Addr} {na ca : Nat} {da : List Nat} {Sb : Nat → Prop} {Ab : Option Addr} {nb cb : Nat} {db : List Nat} (ha : NatR w Sa Aa na ca da) (hb : NatR w Sb Ab nb cb db) (hna : na ≤ 1099511627776) (hnb : nb ≤ 1099511627776) : Calls Tryz.prog 97 #[(.slice Aa na ca), (.slice Ab nb cb)] w (Ret fun v w' => ∃ (Ar : Option Addr) (nr : Nat) (cr : Nat) (dr : List Nat), v = (.slice Ar nr cr) ∧ Ext w w' ∧ NatR w' (fun b => w.heap.size ≤ b) Ar nr cr dr ∧ (val dr = val da + val db) ∧ (Canon isZ dr) ∧ (nr ≤ na + 1 ∨ nr ≤ nb + 1)) := by
 have ⟨la, ka, ma⟩ := ha.lkm;replace ha := ha.low;have ⟨lb, kb, mb⟩ := hb.lkm;replace hb := hb.low;refine enter func97 rfl ntmps97 rfl (rS fun K1 p5 => sAs rfl (sK p5 (rS fun K2 p6 => sMs rfl (sO (oCall rfl call100 (natural_trim ha) rfl ?_)))));rintro _ w4 ⟨G, a, H, p, rfl, b2, I, k8, u9⟩;have B7 := b2.size;have ⟨v0, v1, v2⟩ := I.lkm;refine sMs rfl ?_;have h8 := (hb.ext b2);refine sO (oCall rfl call100 (natural_trim h8) rfl ?_);rintro _ B8 ⟨J, c, K, q, rfl, z, L, k9, v4⟩;have v5 := z.size;have ⟨v6, v7, v8⟩ := L.lkm;refine sAs rfl (sAs rfl (sK p6 (wp_seq_k fun B9 d0 => rS fun C0 d1 => sMs rfl (sV (evLen underlying32 rfl) (sMs rfl (sV (evLen underlying32 rfl) ?_))))))
 by_cases d2 : ((a : Int)) < ((c : Int))
 ·refine sV (evLss true rfl rfl (dT d2)) (sK d1 (cT rfl (wp_region_lit (sMs rfl (sMs rfl (sAs rfl (sAs rfl (sK d0 (rS fun C1 l1 => sO (oAlloc [(.int .u32 (0))] zero138 rfl (fun l C2 v9 M w0 l2 => sK l1 (rS fun C3 l3 => sV (v := (.func (.func 111) #[] #[(.pointer (some ⟨l, 0, none⟩))])) (evK (by kernel_rfl)) (sV (v := (.func (.func 111) #[] #[(.pointer (some ⟨l, 0, none⟩))])) (rfl) (sK l3 (rS fun C4 l4 => sMs rfl (sV (evLen underlying32 rfl) (sV (evAdd (((c : Int)) + 1) rfl rfl wI) (sO (oMake1 (c + 1) underlying32 inf138 rfl cI cI Qo Qo (fun o l0 w1 E w2 l5 => ?_))))))))))))))))))))
  have l6 : Blk l0 o 138 (((List.replicate (c + 1) 0)).map u32) := by rw [List.map_replicate]; exact l5
  refine sAs rfl (sK l4 (wp_seq_k fun C5 l7 => rS fun C6 l8 => sMs rfl (sV (evLen underlying32 rfl) (sMi rfl (sK l8 (wp_block ?_))))));have l9 := (l2.ext E);refine lLoop (fun m e w_ => ∃ (k : Nat) (P : List Nat) (cy : Nat), m = a - k ∧ e 0 = (.slice J c K) ∧ e 1 = (.slice G a H) ∧ e 5 = (.pointer (some ⟨l, 0, none⟩)) ∧ e 6 = (.func (.func 111) #[] #[(.pointer (some ⟨l, 0, none⟩))]) ∧ e 7 = (.slice (some ⟨o, 0, none⟩) (c + 1) (c + 1)) ∧ e 27 = (.slice G a H) ∧ e 28 = (.int .i64 a) ∧ e 29 = (.int .i64 k) ∧ Frm (fun b => b = l ∨ b = o) l0 w_ ∧ Blk w_ l 138 ([.int .u32 (cy : Int)]) ∧ Blk w_ o 138 ((P ++ List.replicate (c + 1 - k) 0).map u32) ∧ (k ≤ a) ∧ (0 ≤ k) ∧ (P.length = k) ∧ (∀ d ∈ P, d < BS) ∧ (cy ≤ 1) ∧ (val P + BS ^ k * cy = val (q.take k) + val (p.take k))) (a - (0)) ?_ ?_
  ·refine ⟨(0), ([]), (0), rfl, rfl, rfl, rfl, rfl, rfl, rfl, rfl, cI, (Frm.refl _ _), ?_, ?_, ?_, ?_, ?_, ?_, ?_, ?_⟩
   ·exact l9
   ·simpa using l6
   ·omega
   ·omega
   ·rfl
   ·simp
   ·omega
   ·simp [val]
  ·rintro C7 C8 p7 ⟨k, P, cy, w3, m0, m1, m2, m3, m4, m5, m6, m7, A, d3, d4, hk, hl, hP, hlt, hcy, hv⟩
   obtain ⟨C9, rfl⟩ := sq8 m0 m1 m2 m3 m4 m5 m6 m7;have w5 := A.size;refine rS fun D0 d5 => ?_
   by_cases d6 : ((k : Int)) < ((a : Int))
   ·refine sV (evLss true rfl rfl (dT d6)) (sK d5 (wp_seq_k fun D1 m8 => cT rfl (wp_skip (xN (m8 _ _ (wp_seq_k fun D2 m9 => wp_block (rS fun D3 n0 => sMi rfl ?_)))))))
    have n1 := ((z.trans M).trans E).rx A;have d7 := (I.frmB n1 q3);obtain ⟨D4, p8, rfl⟩ := d7.base Qo;refine sV (evIx k underlying32 sz138 rfl rfl (p8 + k)) ?_;have w6 := d7.lt k;refine sV (evLoad one138 rfl (d7.cell Qo)) (sAi rfl (sAi rfl (sK n0 (wp_region_lit (sMs rfl (sMi rfl (sV (v := (.func (.func 111) #[] #[(.pointer (some ⟨l, 0, none⟩))])) (rfl) (sMs rfl (sMi rfl ?_)))))))));have n2 := (M.trans E).rx A;have d8 := (L.frmB n2 q3);obtain ⟨D5, p9, rfl⟩ := d8.base Qo;refine sV (evIx k underlying32 sz138 rfl rfl (p9 + k)) ?_;have w7 := d8.lt k;refine sV (evLoad one138 rfl (d8.cell Qo)) (sMi rfl (sO (oCall rfl call111 (natural_Add_1 (x1 := q.getD k 0) Qo (x2 := p.getD k 0) Qo (xc := cy) d3 Qo Qo) rfl ?_)));rintro _ D6 ⟨B, f0, rfl, a6, r8, n3, w8, w9⟩;have x0 := a6.size;refine sV (evIx k underlying32 sz138 rfl rfl k) ?_;have n4 := (d4.frm a6 q1);refine sO (oStore1 rfl rfl rfl sz138 n4 (by exact lq) (fun q0 d9 x3 a7 => ?_));replace a7 : Blk q0 o 138 (((P ++ [B]) ++ List.replicate (c + 1 - (k + 1)) 0).map u32) := by rw [← (fill_set2 hP (by omega) : (P ++ List.replicate (c + 1 - k) 0).set k B = (P ++ [B]) ++ List.replicate (c + 1 - (k + 1)) 0), List.map_set]; exact a7
    refine sDone (bN (xN (m9 _ _ (wp_region_lit (sV (evAdd (((k : Int)) + 1) rfl rfl wI) (sMi rfl (sDone ?_)))))));have n5 := a6.tr d9;have n6 := (n3.frm d9 q1);refine again (a - (k + 1)) Qo ⟨(k + 1), (P ++ [B]), (f0), rfl, rfl, rfl, rfl, rfl, rfl, rfl, rfl, cI, (Frm.mono (A.tr n5) q4), ?_, ?_, ?_, ?_, ?_, ?_, ?_, ?_⟩
    ·exact n6
    ·exact a7
    ·omega
    ·omega
    ·simp [hP]
    ·exact lt_snoc hlt Qo
    ·omega
    ·exact add_step hv hP Qo
   ·refine sV (evLss false rfl rfl (dF d6)) (sK d5 (wp_seq_k fun D7 x4 => cF rfl (wp_exit (xE (xE (bE (xN (l7 _ _ (wp_seq_k fun D8 n7 => rS fun D9 n8 => sMs rfl (sV (evLen underlying32 rfl) (sAi rfl (sK n8 (wp_block ?_)))))))))))))
    refine lLoop (fun m e w_ => ∃ (f : Nat) (h : List Nat) (g : Nat), m = c - f ∧ e 0 = (.slice J c K) ∧ e 5 = (.pointer (some ⟨l, 0, none⟩)) ∧ e 6 = (.func (.func 111) #[] #[(.pointer (some ⟨l, 0, none⟩))]) ∧ e 7 = (.slice (some ⟨o, 0, none⟩) (c + 1) (c + 1)) ∧ e 10 = (.int .i64 f) ∧ Frm (fun b => b = l ∨ b = o) p7 w_ ∧ Blk w_ l 138 ([.int .u32 (g : Int)]) ∧ Blk w_ o 138 ((h ++ List.replicate (c + 1 - f) 0).map u32) ∧ (f ≤ c) ∧ (a ≤ f) ∧ (h.length = f) ∧ (∀ d ∈ h, d < BS) ∧ (g ≤ 1) ∧ (val h + BS ^ f * g = val (q.take f) + val (p.take f))) (c - (k)) ?_ ?_
    ·refine ⟨(k), (P), (cy), rfl, rfl, rfl, rfl, rfl, cI, (Frm.refl _ _), ?_, ?_, ?_, ?_, ?_, ?_, ?_, ?_⟩
     ·exact d3
     ·exact d4
     ·omega
     ·omega
     ·exact hP
     ·exact hlt
     ·omega
     ·exact hv
    ·rintro E0 x5 E1 ⟨f, h, g, x6, n9, o0, o1, o2, o3, N, e0, e1, q2, q6, r, F, o4, X⟩
     obtain ⟨x7, rfl⟩ := sq5 n9 o0 o1 o2 o3;have r9 := N.size;refine wp_seq_k fun x8 f1 => rS fun x9 b3 => sMi rfl (sMs rfl (sV (evLen underlying32 rfl) ?_))
     by_cases b4 : ((f : Int)) < ((c : Int))
     ·refine sV (evLss true rfl rfl (dT b4)) (sK b3 (cT rfl (wp_skip (xN (f1 _ _ (wp_seq_k fun y0 f2 => wp_block (wp_region_lit (sMs rfl (sMi rfl (sV (v := (.func (.func 111) #[] #[(.pointer (some ⟨l, 0, none⟩))])) (rfl) (sMs rfl (sMi rfl ?_))))))))))))
      have f3 := ((M.trans E).rx A).trans N;have a8 := (L.frmB f3 q3);obtain ⟨y1, o5, rfl⟩ := a8.base Qo;refine sV (evIx f underlying32 sz138 rfl rfl (o5 + f)) ?_;have s0 := a8.lt f;refine sV (evLoad one138 rfl (a8.cell Qo)) (sO (oCall rfl call111 (natural_Add_1 (x1 := q.getD f 0) Qo (x2 := 0) Qo (xc := g) e0 Qo Qo) rfl ?_));rintro _ y2 ⟨t, e2, rfl, O, q7, f4, s1, s2⟩;have s3 := O.size;refine sV (evIx f underlying32 sz138 rfl rfl f) ?_;have f5 := (e1.frm O q1);refine sO (oStore1 rfl rfl rfl sz138 f5 (by exact lq) (fun o6 b5 s4 Q => ?_));replace Q : Blk o6 o 138 (((h ++ [t]) ++ List.replicate (c + 1 - (f + 1)) 0).map u32) := by rw [← (fill_set2 r (by omega) : (h ++ List.replicate (c + 1 - f) 0).set f t = (h ++ [t]) ++ List.replicate (c + 1 - (f + 1)) 0), List.map_set]; exact Q
      refine sDone (bN (xN (f2 _ _ (wp_region_lit (sMi rfl (sV (evAdd (((f : Int)) + 1) rfl rfl wI) (sAi rfl (sDone ?_))))))));have f6 := O.tr b5;have f7 := (f4.frm b5 q1);refine again (c - (f + 1)) Qo ⟨(f + 1), (h ++ [t]), (e2), rfl, rfl, rfl, rfl, rfl, cI, (Frm.mono (N.tr f6) q4), ?_, ?_, ?_, ?_, ?_, ?_, ?_, ?_⟩
      ·exact f7
      ·exact Q
      ·omega
      ·omega
      ·simp [r]
      ·exact lt_snoc F Qo
      ·omega
      ·exact add_step X r (by rw [getD_ge (ds := p) (n := a) (by omega) f (by omega)]; omega)
     ·refine sV (evLss false rfl rfl (dF b4)) (sK b3 (cF rfl (wp_exit (xE (xE (bE (xN (n7 _ _ (rS fun y3 f8 => sMs rfl (sMs rfl (sV (evLen underlying32 rfl) (sV (evLoadB one138 rfl e0 rfl) (sV (evIx c underlying32 sz138 rfl rfl c) (sO (oStore1 rfl rfl rfl sz138 e1 (by exact lq) (fun e3 f9 s5 R => ?_))))))))))))))))
      replace R : Blk e3 o 138 ((h ++ [g]).map u32) := by rw [← (last_set (r.trans (by omega)) (by omega) : (h ++ List.replicate (c + 1 - f) 0).set c g = h ++ [g]), List.map_set]; exact R
      refine sK f8 (rS fun y4 g0 => sMs rfl ?_);have o7 : NatR e3 (fun b => b = o) (some ⟨o, 0, none⟩) (c + 1) (c + 1) (h ++ [g]) := NatR.of_blk R rfl (lt_snoc F Qo) (by exact lq) Qo (by unfold CapMax; omega);refine sO (oCall rfl call100 (natural_trim o7) rfl ?_);rintro _ y5 ⟨Y, Z, a0, e4, rfl, b6, a1, b7, q8⟩;have s6 := b6.size;have ⟨q9, r0, r1⟩ := a1.lkm;refine sAs rfl (sK g0 (wp_ret (ret1 (.slice Y Z a0) results97 (resT rfl) ?_)));have g1 := ((((((b2.trans z).trans M).trans E).rx A).trans N).tr f9).xr b6;exact ⟨Y, Z, a0, e4, rfl, (Frm.mono g1 q4), (NatR.sub a1 q5), (add_fin b7 (add_end X r (by omega) (by omega)) k9 k8 (Nat.add_comm _ _)), (by rw [b7]; exact canon_trim _ _), (by omega)⟩
 ·refine sV (evLss false rfl rfl (dF d2)) (sK d1 (cF rfl (wp_skip (xN (d0 _ _ (rS fun y6 g2 => sO (oAlloc [(.int .u32 (0))] zero138 rfl (fun i y7 s7 C s8 g3 => sK g2 (rS fun y8 g4 => sV (v := (.func (.func 111) #[] #[(.pointer (some ⟨i, 0, none⟩))])) (evK (by kernel_rfl)) (sV (v := (.func (.func 111) #[] #[(.pointer (some ⟨i, 0, none⟩))])) (rfl) (sK g4 (rS fun y9 g5 => sMs rfl (sV (evLen underlying32 rfl) (sV (evAdd (((a : Int)) + 1) rfl rfl wI) (sO (oMake1 (a + 1) underlying32 inf138 rfl cI cI Qo Qo (fun j e5 s9 u t0 g6 => ?_)))))))))))))))))
  have g7 : Blk e5 j 138 (((List.replicate (a + 1) 0)).map u32) := by rw [List.map_replicate]; exact g6
  refine sAs rfl (sK g5 (wp_seq_k fun z0 g8 => rS fun z1 g9 => sMs rfl (sV (evLen underlying32 rfl) (sMi rfl (sK g9 (wp_block ?_))))));have h0 := (g3.ext u);refine lLoop (fun m e w_ => ∃ (k : Nat) (P : List Nat) (cy : Nat), m = c - k ∧ e 0 = (.slice G a H) ∧ e 1 = (.slice J c K) ∧ e 5 = (.pointer (some ⟨i, 0, none⟩)) ∧ e 6 = (.func (.func 111) #[] #[(.pointer (some ⟨i, 0, none⟩))]) ∧ e 7 = (.slice (some ⟨j, 0, none⟩) (a + 1) (a + 1)) ∧ e 27 = (.slice J c K) ∧ e 28 = (.int .i64 c) ∧ e 29 = (.int .i64 k) ∧ Frm (fun b => b = i ∨ b = j) e5 w_ ∧ Blk w_ i 138 ([.int .u32 (cy : Int)]) ∧ Blk w_ j 138 ((P ++ List.replicate (a + 1 - k) 0).map u32) ∧ (k ≤ c) ∧ (0 ≤ k) ∧ (P.length = k) ∧ (∀ d ∈ P, d < BS) ∧ (cy ≤ 1) ∧ (val P + BS ^ k * cy = val (p.take k) + val (q.take k))) (c - (0)) ?_ ?_
  ·refine ⟨(0), ([]), (0), rfl, rfl, rfl, rfl, rfl, rfl, rfl, rfl, cI, (Frm.refl _ _), ?_, ?_, ?_, ?_, ?_, ?_, ?_, ?_⟩
   ·exact h0
   ·simpa using g7
   ·omega
   ·omega
   ·rfl
   ·simp
   ·omega
   ·simp [val]
  ·rintro z2 z3 o8 ⟨k, P, cy, t1, h1, h2, h3, h4, h5, h6, h7, h9, s, b8, b9, hk, hl, hP, hlt, hcy, hv⟩
   obtain ⟨z4, rfl⟩ := sq8 h1 h2 h3 h4 h5 h6 h7 h9;have t2 := s.size;refine rS fun z5 c0 => ?_
   by_cases c1 : ((k : Int)) < ((c : Int))
   ·refine sV (evLss true rfl rfl (dT c1)) (sK c0 (wp_seq_k fun z6 i0 => cT rfl (wp_skip (xN (i0 _ _ (wp_seq_k fun z7 i1 => wp_block (rS fun z8 i2 => sMi rfl ?_)))))))
    have i3 := (C.trans u).rx s;have a9 := (L.frmB i3 q3);obtain ⟨z9, o9, rfl⟩ := a9.base Qo;refine sV (evIx k underlying32 sz138 rfl rfl (o9 + k)) ?_;have t3 := a9.lt k;refine sV (evLoad one138 rfl (a9.cell Qo)) (sAi rfl (sAi rfl (sK i2 (wp_region_lit (sMs rfl (sMi rfl (sV (v := (.func (.func 111) #[] #[(.pointer (some ⟨i, 0, none⟩))])) (rfl) (sMs rfl (sMi rfl ?_)))))))));have i4 := ((z.trans C).trans u).rx s;have b0 := (I.frmB i4 q3);obtain ⟨A0, p0, rfl⟩ := b0.base Qo;refine sV (evIx k underlying32 sz138 rfl rfl (p0 + k)) ?_;have t4 := b0.lt k;refine sV (evLoad one138 rfl (b0.cell Qo)) (sMi rfl (sO (oCall rfl call111 (natural_Add_1 (x1 := p.getD k 0) Qo (x2 := q.getD k 0) Qo (xc := cy) b8 Qo Qo) rfl ?_)));rintro _ A1 ⟨x, e6, rfl, S, r2, i5, t5, t6⟩;have t7 := S.size;refine sV (evIx k underlying32 sz138 rfl rfl k) ?_;have i6 := (b9.frm S q1);refine sO (oStore1 rfl rfl rfl sz138 i6 (by exact lq) (fun p1 c2 t8 T => ?_));replace T : Blk p1 j 138 (((P ++ [x]) ++ List.replicate (a + 1 - (k + 1)) 0).map u32) := by rw [← (fill_set2 hP (by omega) : (P ++ List.replicate (a + 1 - k) 0).set k x = (P ++ [x]) ++ List.replicate (a + 1 - (k + 1)) 0), List.map_set]; exact T
    refine sDone (bN (xN (i1 _ _ (wp_region_lit (sV (evAdd (((k : Int)) + 1) rfl rfl wI) (sMi rfl (sDone ?_)))))));have i7 := S.tr c2;have i8 := (i5.frm c2 q1);refine again (c - (k + 1)) Qo ⟨(k + 1), (P ++ [x]), (e6), rfl, rfl, rfl, rfl, rfl, rfl, rfl, rfl, cI, (Frm.mono (s.tr i7) q4), ?_, ?_, ?_, ?_, ?_, ?_, ?_, ?_⟩
    ·exact i8
    ·exact T
    ·omega
    ·omega
    ·simp [hP]
    ·exact lt_snoc hlt Qo
    ·omega
    ·exact add_step hv hP Qo
   ·refine sV (evLss false rfl rfl (dF c1)) (sK c0 (wp_seq_k fun A2 t9 => cF rfl (wp_exit (xE (xE (bE (xN (g8 _ _ (wp_seq_k fun A3 i9 => rS fun A4 j0 => sMs rfl (sV (evLen underlying32 rfl) (sAi rfl (sK j0 (wp_block ?_)))))))))))))
    refine lLoop (fun m e w_ => ∃ (f : Nat) (h : List Nat) (g : Nat), m = a - f ∧ e 0 = (.slice G a H) ∧ e 5 = (.pointer (some ⟨i, 0, none⟩)) ∧ e 6 = (.func (.func 111) #[] #[(.pointer (some ⟨i, 0, none⟩))]) ∧ e 7 = (.slice (some ⟨j, 0, none⟩) (a + 1) (a + 1)) ∧ e 10 = (.int .i64 f) ∧ Frm (fun b => b = i ∨ b = j) o8 w_ ∧ Blk w_ i 138 ([.int .u32 (g : Int)]) ∧ Blk w_ j 138 ((h ++ List.replicate (a + 1 - f) 0).map u32) ∧ (f ≤ a) ∧ (c ≤ f) ∧ (h.length = f) ∧ (∀ d ∈ h, d < BS) ∧ (g ≤ 1) ∧ (val h + BS ^ f * g = val (p.take f) + val (q.take f))) (a - (k)) ?_ ?_
    ·refine ⟨(k), (P), (cy), rfl, rfl, rfl, rfl, rfl, cI, (Frm.refl _ _), ?_, ?_, ?_, ?_, ?_, ?_, ?_, ?_⟩
     ·exact b8
     ·exact b9
     ·omega
     ·omega
     ·exact hP
     ·exact hlt
     ·omega
     ·exact hv
    ·rintro A5 A6 A7 ⟨f, h, g, u0, j1, j2, j3, j4, j5, D, c3, c4, q2, q6, r, F, o4, X⟩
     obtain ⟨A8, rfl⟩ := sq5 j1 j2 j3 j4 j5;have u1 := D.size;refine wp_seq_k fun A9 j6 => rS fun B0 c5 => sMi rfl (sMs rfl (sV (evLen underlying32 rfl) ?_))
     by_cases c6 : ((f : Int)) < ((a : Int))
     ·refine sV (evLss true rfl rfl (dT c6)) (sK c5 (cT rfl (wp_skip (xN (j6 _ _ (wp_seq_k fun B1 j7 => wp_block (wp_region_lit (sMs rfl (sMi rfl (sV (v := (.func (.func 111) #[] #[(.pointer (some ⟨i, 0, none⟩))])) (rfl) (sMs rfl (sMi rfl ?_))))))))))))
      have j8 := (((z.trans C).trans u).rx s).trans D;have b1 := (I.frmB j8 q3);obtain ⟨B2, p2, rfl⟩ := b1.base Qo;refine sV (evIx f underlying32 sz138 rfl rfl (p2 + f)) ?_;have u2 := b1.lt f;refine sV (evLoad one138 rfl (b1.cell Qo)) (sO (oCall rfl call111 (natural_Add_1 (x1 := p.getD f 0) Qo (x2 := 0) Qo (xc := g) c3 Qo Qo) rfl ?_));rintro _ B3 ⟨y, e7, rfl, U, r3, j9, u3, u4⟩;have u5 := U.size;refine sV (evIx f underlying32 sz138 rfl rfl f) ?_;have k0 := (c4.frm U q1);refine sO (oStore1 rfl rfl rfl sz138 k0 (by exact lq) (fun p3 c7 u6 V => ?_));replace V : Blk p3 j 138 (((h ++ [y]) ++ List.replicate (a + 1 - (f + 1)) 0).map u32) := by rw [← (fill_set2 r (by omega) : (h ++ List.replicate (a + 1 - f) 0).set f y = (h ++ [y]) ++ List.replicate (a + 1 - (f + 1)) 0), List.map_set]; exact V
      refine sDone (bN (xN (j7 _ _ (wp_region_lit (sMi rfl (sV (evAdd (((f : Int)) + 1) rfl rfl wI) (sAi rfl (sDone ?_))))))));have k1 := U.tr c7;have k3 := (j9.frm c7 q1);refine again (a - (f + 1)) Qo ⟨(f + 1), (h ++ [y]), (e7), rfl, rfl, rfl, rfl, rfl, cI, (Frm.mono (D.tr k1) q4), ?_, ?_, ?_, ?_, ?_, ?_, ?_, ?_⟩
      ·exact k3
      ·exact V
      ·omega
      ·omega
      ·simp [r]
      ·exact lt_snoc F Qo
      ·omega
      ·exact add_step X r (by rw [getD_ge (ds := q) (n := c) (by omega) f (by omega)]; omega)
     ·refine sV (evLss false rfl rfl (dF c6)) (sK c5 (cF rfl (wp_exit (xE (xE (bE (xN (i9 _ _ (rS fun B4 k4 => sMs rfl (sMs rfl (sV (evLen underlying32 rfl) (sV (evLoadB one138 rfl c3 rfl) (sV (evIx a underlying32 sz138 rfl rfl a) (sO (oStore1 rfl rfl rfl sz138 c4 (by exact lq) (fun e8 k5 u7 W => ?_))))))))))))))))
      replace W : Blk e8 j 138 ((h ++ [g]).map u32) := by rw [← (last_set (r.trans (by omega)) (by omega) : (h ++ List.replicate (a + 1 - f) 0).set a g = h ++ [g]), List.map_set]; exact W
      refine sK k4 (rS fun B5 k6 => sMs rfl ?_);have p4 : NatR e8 (fun b => b = j) (some ⟨j, 0, none⟩) (a + 1) (a + 1) (h ++ [g]) := NatR.of_blk W rfl (lt_snoc F Qo) (by exact lq) Qo (by unfold CapMax; omega);refine sO (oCall rfl call100 (natural_trim p4) rfl ?_);rintro _ B6 ⟨a2, a3, a4, e9, rfl, c8, a5, c9, r4⟩;have u8 := c8.size;have ⟨r5, r6, r7⟩ := a5.lkm;refine sAs rfl (sK k6 (wp_ret (ret1 (.slice a2 a3 a4) results97 (resT rfl) ?_)));have k7 := ((((((b2.trans z).trans C).trans u).rx s).trans D).tr k5).xr c8;exact ⟨a2, a3, a4, e9, rfl, (Frm.mono k7 q4), (NatR.sub a5 q5), (add_fin c9 (add_end X r (by omega) (by omega)) k8 k9 rfl), (by rw [c9]; exact canon_trim _ _), (by omega)⟩
end Go.Proofs.YtebajgaabaffbaaGreat
