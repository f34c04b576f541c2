/-
  More laws for walks: literals of slices, operations on bits. No program in sight.
-/
import Derived.Test.YteiagkehhlpidaaPreds
namespace Go.Gx
open Go.RowKit
variable {dfs : List Deferred}

/-- Filling a row of cells part by part. -/
theorem foldl_set_from (c : List Value) : ∀ (off k : Nat) (arr : Array Value), k + c.length ≤ arr.size - off → off ≤ arr.size →
    ((c.zipIdx k).foldl (fun cs (p : Value × Nat) => cs.setIfInBounds (off + p.2) p.1) arr) = (arr.toList.take (off + k) ++ c ++ arr.toList.drop (off + k + c.length)).toArray := by
  induction c with
  | nil => intro off k arr _ _; simp
  | cons v c ih =>
    intro off k arr h1 h2
    simp only [List.zipIdx_cons, List.foldl_cons]
    simp only [List.length_cons] at h1
    rw [ih off (k + 1) _ (by simp; omega) (by simp; omega)]
    congr 1
    apply List.ext_getElem?
    intro i
    simp only [Array.toList_setIfInBounds, List.getElem?_append, List.length_take, List.length_append, List.length_set, Array.length_toList, List.getElem?_take, List.getElem?_set, List.getElem?_drop, List.length_cons]
    by_cases hi : i < off + k
    · have c1 : i < min (off + (k + 1)) arr.size := by omega
      have c2 : i < min (off + k) arr.size := by omega
      have c3 : i < min (off + (k + 1)) arr.size + c.length := by omega
      have c4 : i < min (off + k) arr.size + (c.length + 1) := by omega
      simp [c1, c2, c3, c4, show ¬ off + k = i by omega, show i < off + (k + 1) by omega, hi]
    · by_cases hi2 : i = off + k
      · subst hi2
        have c1 : off + k < min (off + (k + 1)) arr.size := by omega
        have c2 : ¬ off + k < min (off + k) arr.size := by omega
        have c3 : off + k < min (off + (k + 1)) arr.size + c.length := by omega
        have c4 : off + k < min (off + k) arr.size + (c.length + 1) := by omega
        simp [c1, c2, c3, c4, show off + k < off + (k + 1) by omega, show off + k < arr.size by omega, show off + k - min (off + k) arr.size = 0 by omega]
      · have m1 : min (off + (k + 1)) arr.size = off + (k + 1) := by omega
        have m2 : min (off + k) arr.size = off + k := by omega
        rw [m1, m2]
        have c1 : ¬ i < off + (k + 1) := by omega
        by_cases hi3 : i < off + k + (c.length + 1)
        · simp [c1, hi, hi3, show i < off + (k + 1) + c.length by omega, show i - (off + k) = (i - (off + (k + 1))) + 1 by omega]
        · simp [c1, hi, hi3, show ¬ i < off + (k + 1) + c.length by omega]
          rw [if_neg (by omega)]
          congr 1
          omega

theorem fill_rows (size : Nat) : ∀ (vs : List Value) (css : List (List Value)) (k : Nat) (arr : Array Value), vs.map Value.cells = css.map List.toArray → css.all (fun c => c.length == size) = true → arr.size = (k + vs.length) * size →
    Instr.fill (fun i => some (i * size, size)) arr ((vs.zipIdx k).map fun (v, i) => (i, v)) = some (arr.toList.take (k * size) ++ css.flatten).toArray
  | [], css, k, arr, h, _, ha => by
    have : css = [] := by cases css with | nil => rfl | cons a b => simp at h
    subst this
    simp [Instr.fill]
    rw [List.take_of_length_le (by simp [ha])]
  | v :: vs, [], k, arr, h, _, _ => by simp at h
  | v :: vs, c :: css, k, arr, h, h2, ha => by
    simp only [List.map_cons, List.cons.injEq] at h
    simp only [List.all_cons, Bool.and_eq_true, beq_iff_eq] at h2
    simp only [List.length_cons] at ha
    have hk : (k + 1) * size ≤ arr.size := by rw [ha]; exact Nat.mul_le_mul_right _ (by omega)
    have hks : k * size + size = (k + 1) * size := by rw [Nat.add_mul, Nat.one_mul]
    have hcs : v.cells.size = size := by rw [h.1]; simp [h2.1]
    simp only [List.zipIdx_cons, List.map_cons, Instr.fill]
    rw [if_neg (by simp [hcs]; omega)]
    have hf : (v.cells.zipIdx.foldl (fun cs x => cs.setIfInBounds (k * size + x.2) x.1) arr) = (arr.toList.take (k * size) ++ c ++ arr.toList.drop (k * size + size)).toArray := by
      rw [h.1]
      have := foldl_set_from c (k * size) 0 arr (by omega) (by omega)
      simpa [h2.1] using this
    have hf' : (v.cells.zipIdx.foldl (fun cs (x : Value × Nat) => match x with | (c, j) => cs.setIfInBounds (k * size + j) c) arr) = (arr.toList.take (k * size) ++ c ++ arr.toList.drop (k * size + size)).toArray := hf
    rw [hf']
    rw [fill_rows size vs css (k + 1) _ h.2 h2.2 (by
      simp [h2.1]
      rw [ha] at hk ⊢
      have : (k + (vs.length + 1)) * size = (k + 1 + vs.length) * size := by congr 1; omega
      omega)]
    congr 2
    rw [← hks]
    simp only [List.flatten_cons]
    rw [← List.append_assoc]
    congr 1
    rw [List.take_append_of_le_length (by simp [h2.1]; omega)]
    rw [List.take_of_length_le (by simp [h2.1]; omega)]

section
variable {P : Program} {n : Nat} {e : Nat → Value} {w : World} {K : Act → World → Prop} {Q : Exit → Act → World → Prop} {ty : TypeId} {pos : String} {af : Array Edge} {gd : Option (Nat × Bool)}
/-- A literal of a slice type. -/
theorem oBuildSlice {d : Nat} {t el : TypeId} {size bytes : Nat} {z : Value} {len : Nat} {ps : List (Nat × Operand)} (vs : List Value) (css : List (List Value)) (ht : P.underlying t = some (.slice el))
    (hi : (P.info? el).map (fun i => (i.zero, i.size, i.bytes)) = some (some z, size, bytes)) (hp : ps.map (fun p => (p.1, ev n e p.2)) = vs.zipIdx.map (fun p => (p.2, p.1))) (hc : vs.map Value.cells = css.map List.toArray)
    (hs : css.all (fun c => c.length == size) = true) (hl : vs.length = len) (hm : Nat.ble (len * size) 16777216 = true)
    (k : ∀ g w', g = w.heap.size → Ext w w' → w'.heap.size = g + 1 → Blk w' g el css.flatten → K (mkA dfs n (upd e d (.slice (some ⟨g, 0, none⟩) len len))) w') :
    OpW P ⟨some d, .buildSlice t len ps.toArray, ty, pos, af, gd⟩ (mkA dfs n e) w K Q := by
  obtain ⟨i, hi', hz, hsz, hby⟩ := info_parts hi
  have hle : ¬ len * size > 2 ^ 24 := by have := Nat.le_of_ble_eq_true hm; omega
  have hsize : (sizeOf el).run P w = .ok size w := by simp [sizeOf, typeInfo, program, Sem.run, hi', hsz]
  have hzero : (zeroValue el).run P w = .ok z w := by simp [zeroValue, typeInfo, program, Sem.run, hi', hz]
  have hfill : ∀ arr : Array Value, arr.size = len * size → Instr.fill (fun i => some (i * size, size)) arr (ps.map fun p => (p.1, ev n e p.2)) = some css.flatten.toArray := by
    intro arr ha
    rw [hp]
    have := fill_rows size vs css 0 arr hc hs (by rw [ha, ← hl]; simp)
    simpa using this
  have hmap : (ps.toArray.map fun (x : Nat × Operand) => match x with | (i, x) => (i, ev n e x)).toList = ps.map fun p => (p.1, ev n e p.2) := by simp
  unfold OpW Oper.wp
  rw [eval_mkA]
  have hk := k w.heap.size (w.alloc (.cells css.flatten.toArray el)) rfl (alloc_ext _ _) (by simp) (Blk.new _ _ _)
  simp only [execOp, Instr.buildSlice, Sem.run_bind, run_underlying ht, Result.andThen_ok, hsize, hle, if_false, Sem.run_pure]
  by_cases h0 : len * size = 0
  · rw [if_pos h0]
    simp only [Sem.run_bind, Sem.run_pure, Result.andThen_ok]
    rw [hmap, hfill _ (by simp)]
    simp only [newRow, newObj, Sem.run_bind, Sem.run, Result.andThen_ok, Sem.run_pure, Oper.upon, put_mkA]
    exact hk
  · rw [if_neg h0]
    simp only [Sem.run_bind, hzero, Sem.run_pure, Result.andThen_ok]
    rw [hmap, hfill _ (by simp)]
    simp only [newRow, newObj, Sem.run_bind, Sem.run, Result.andThen_ok, Sem.run_pure, Oper.upon, put_mkA]
    exact hk
end
end Go.Gx
namespace Go.Gx
variable {dfs : List Deferred}
section bits
variable {P : Program} {n : Nat} {e : Nat → Value} {w : World} {ty : TypeId} {pos : String} {af : Array Edge} {gd : Option (Nat × Bool)}
theorem wrap_bv (r : BitVec 32) : IntKind.u32.wrap (r.toNat : Int) = (r.toNat : Int) := wU32 ⟨rfl, by omega, by have := r.isLt; omega⟩
theorem ofInt_nat (a : Nat) : BitVec.ofInt 32 (a : Int) = BitVec.ofNat 32 a := by simp
theorem evAnd32 {d : Option Nat} {t t' : TypeId} {x y : Operand} {a b : Nat} (hx : ev n e x = .int .u32 (a : Int)) (hy : ev n e y = .int .u32 (b : Int)) :
    Ev P n e ⟨d, .binOp .and t x y t', ty, pos, af, gd⟩ w (.int .u32 (((BitVec.ofNat 32 a &&& BitVec.ofNat 32 b).toNat : Nat) : Int)) := by
  have h := wrap_bv (BitVec.ofNat 32 a &&& BitVec.ofNat 32 b)
  have e1 : (Op.intBits .and .u32 (a : Int) (b : Int)) = pure (.int .u32 (IntKind.u32.wrap ((BitVec.ofInt 32 (a : Int) &&& BitVec.ofInt 32 (b : Int)).toNat : Int))) := rfl
  rw [ofInt_nat, ofInt_nat, h] at e1
  simp only [Ev, execOp, hx, hy, eqGuard, binOp, e1]
  simp
theorem evOr32 {d : Option Nat} {t t' : TypeId} {x y : Operand} {a b : Nat} (hx : ev n e x = .int .u32 (a : Int)) (hy : ev n e y = .int .u32 (b : Int)) :
    Ev P n e ⟨d, .binOp .or t x y t', ty, pos, af, gd⟩ w (.int .u32 (((BitVec.ofNat 32 a ||| BitVec.ofNat 32 b).toNat : Nat) : Int)) := by
  have h := wrap_bv (BitVec.ofNat 32 a ||| BitVec.ofNat 32 b)
  have e1 : (Op.intBits .or .u32 (a : Int) (b : Int)) = pure (.int .u32 (IntKind.u32.wrap ((BitVec.ofInt 32 (a : Int) ||| BitVec.ofInt 32 (b : Int)).toNat : Int))) := rfl
  rw [ofInt_nat, ofInt_nat, h] at e1
  simp only [Ev, execOp, hx, hy, eqGuard, binOp, e1]
  simp
theorem evXor32 {d : Option Nat} {t t' : TypeId} {x y : Operand} {a b : Nat} (hx : ev n e x = .int .u32 (a : Int)) (hy : ev n e y = .int .u32 (b : Int)) :
    Ev P n e ⟨d, .binOp .xor t x y t', ty, pos, af, gd⟩ w (.int .u32 (((BitVec.ofNat 32 a ^^^ BitVec.ofNat 32 b).toNat : Nat) : Int)) := by
  have h := wrap_bv (BitVec.ofNat 32 a ^^^ BitVec.ofNat 32 b)
  have e1 : (Op.intBits .xor .u32 (a : Int) (b : Int)) = pure (.int .u32 (IntKind.u32.wrap ((BitVec.ofInt 32 (a : Int) ^^^ BitVec.ofInt 32 (b : Int)).toNat : Int))) := rfl
  rw [ofInt_nat, ofInt_nat, h] at e1
  simp only [Ev, execOp, hx, hy, eqGuard, binOp, e1]
  simp
theorem evNot32 {d : Option Nat} {t : TypeId} {x : Operand} {a : Nat} (hx : ev n e x = .int .u32 (a : Int)) :
    Ev P n e ⟨d, .unOp .xor t x, ty, pos, af, gd⟩ w (.int .u32 (((~~~ BitVec.ofNat 32 a).toNat : Nat) : Int)) := by
  have h := wrap_bv (~~~ BitVec.ofNat 32 a)
  have e0 : IntKind.u32.max = ((4294967295 : Nat) : Int) := by decide
  have e1 : (Op.unary .xor (.int .u32 (a : Int))) = pure (.int .u32 (IntKind.u32.wrap ((BitVec.ofInt 32 IntKind.u32.max ^^^ BitVec.ofInt 32 (a : Int)).toNat : Int))) := rfl
  have e2 : (BitVec.ofNat 32 4294967295 ^^^ BitVec.ofNat 32 a) = ~~~ BitVec.ofNat 32 a := by
    rw [show BitVec.ofNat 32 4294967295 = BitVec.allOnes 32 by decide]
    rw [BitVec.xor_comm, BitVec.xor_allOnes]
  rw [e0, ofInt_nat, ofInt_nat, e2, h] at e1
  simp only [Ev, execOp, hx, e1]
  simp
end bits
/-- The borrow of a difference of digits, as math/bits computes it. -/
theorem borrow32 {x y b d : Nat} (hx : x < 4294967296) (hy : y < 4294967296) (hb : b ≤ 1) (hd : d = (x + 8589934592 - y - b) % 4294967296) (t : Nat)
    (ht : t = ((BitVec.ofNat 32 (BitVec.ofNat 32 ((~~~ BitVec.ofNat 32 x).toNat) &&& BitVec.ofNat 32 y).toNat ||| BitVec.ofNat 32 (BitVec.ofNat 32 (~~~ BitVec.ofNat 32 (BitVec.ofNat 32 x ^^^ BitVec.ofNat 32 y).toNat).toNat &&& BitVec.ofNat 32 d).toNat)).toNat) :
    d + y + b = x + 4294967296 * (t / 2147483648) ∧ t / 2147483648 ≤ 1 := by
  simp only [BitVec.ofNat_toNat, BitVec.setWidth_eq] at ht
  have hdl : d < 4294967296 := by omega
  have hm : t / 2147483648 = if ((~~~ BitVec.ofNat 32 x &&& BitVec.ofNat 32 y) ||| (~~~ (BitVec.ofNat 32 x ^^^ BitVec.ofNat 32 y) &&& BitVec.ofNat 32 d)).msb then 1 else 0 := by
    rw [BitVec.msb_eq_decide, ← ht]
    have : t < 4294967296 := by rw [ht]; exact BitVec.isLt _
    split <;> rename_i h <;> simp at h <;> omega
  rw [hm]
  have mx : ∀ z, z < 4294967296 → (BitVec.ofNat 32 z).msb = decide (2147483648 ≤ z) := by
    intro z hz
    rw [BitVec.msb_eq_decide]
    simp [Nat.mod_eq_of_lt hz]
  simp only [BitVec.msb_or, BitVec.msb_and, BitVec.msb_not, BitVec.msb_xor, mx x hx, mx y hy, mx d hdl]
  by_cases c1 : 2147483648 ≤ x <;> by_cases c2 : 2147483648 ≤ y <;> by_cases c3 : 2147483648 ≤ d <;> simp [c1, c2, c3] <;> omega
end Go.Gx
namespace Go.Gx
variable {dfs : List Deferred}
section
variable {P : Program} {n : Nat} {e : Nat → Value} {w : World} {ty : TypeId} {pos : String} {af : Array Edge} {gd : Option (Nat × Bool)}
/-- s[l:] of a slice whose place is known, some of it left. -/
theorem evSliceLoAt {d : Option Nat} {t el : TypeId} {x y : Operand} {g off len cap size : Nat} {k : IntKind} {z : Int} (l : Nat) (ht : P.underlying t = some (.slice el)) (hs : ∀ w, (sizeOf el).run P w = .ok size w)
    (hx : ev n e x = .slice (some ⟨g, off, none⟩) len cap) (hy : ev n e y = .int k z) (hz : z = (l : Int)) (h1 : l ≤ len) (h2 : len ≤ cap) (h3 : l < cap) (p : Nat) (hp : off + l * size = p) :
    Ev P n e ⟨d, .slice t x (some y) none none, ty, pos, af, gd⟩ w (.slice (some ⟨g, p, none⟩) (len - l) (cap - l)) := by
  have := evSliceLo (P := P) (w := w) (d := d) (ty := ty) (pos := pos) (af := af) (gd := gd) l ht hs hx hy hz h1 h2
  rw [if_neg (by omega)] at this
  simp only [Option.map_some, addr_add, hp] at this
  exact this
end
end Go.Gx
