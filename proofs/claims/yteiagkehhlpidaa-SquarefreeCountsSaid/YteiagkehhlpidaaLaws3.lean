/-
  More laws for walks: bits of words, tables in strings. No program in sight.
-/
import Derived.Test.YteiagkehhlpidaaVbMath
import Derived.Laws.Strings
import Derived.Scope
namespace Go.Gx
open Go.RowKit
/-- The number of bits of a number below 256. -/
def bl8 (x : Nat) : Nat := if x = 0 then 0 else if x < 2 then 1 else if x < 4 then 2 else if x < 8 then 3 else if x < 16 then 4 else if x < 32 then 5 else if x < 64 then 6 else if x < 128 then 7 else 8
def tabB (s : ByteArray) : Bool := s.size == 256 && (List.range 256).all fun i => (s.data.getD i 0).toNat == bl8 i
section
variable {P : Program} {n : Nat} {e : Nat → Value} {w : World} {ty : TypeId} {pos : String} {af : Array Edge} {gd : Option (Nat × Bool)}
theorem evTab {d : Option Nat} {t : TypeId} {x y : Operand} {s : ByteArray} {k : IntKind} {z : Int} (i : Nat) (ht : P.underlying t = some .string) (hx : ev n e x = .string s) (hs : tabB s = true) (hy : ev n e y = .int k z) (hz : z = (i : Int)) (hi : i < 256) :
    Ev P n e ⟨d, .index t x y, ty, pos, af, gd⟩ w (.int .u8 ((bl8 i : Nat) : Int)) := by
  unfold tabB at hs
  simp only [Bool.and_eq_true, beq_iff_eq, List.all_eq_true, List.mem_range] at hs
  have h1 := hs.2 i hi
  have hlt : i < s.size := by rw [hs.1]; exact hi
  have h2 : (s[i]'hlt).toNat = bl8 i := by
    rw [← h1]
    show (s.data[i]'hlt).toNat = _
    have : i < s.data.size := hlt
    have e0 : s.data.getD i 0 = s.data[i] := by unfold Array.getD; rw [dif_pos this]; rfl
    rw [e0]
  have hr := run_index_string (P := P) w t s k z ht
  rw [dif_pos ⟨by omega, by rw [hz]; exact_mod_cast hlt⟩] at hr
  have e3 : z.toNat = i := by omega
  simp only [Ev, execOp, hx, hy, hr, Sem.run_bind, Result.andThen_ok]
  subst hz
  simp [h2]
theorem or_nat (a b s : Nat) (hb : b < 2 ^ s) : 2 ^ s * a ||| b = 2 ^ s * a + b := (Nat.two_pow_add_eq_or_of_lt hb a).symm
theorem evOr64 {d : Option Nat} {t t' : TypeId} {x y : Operand} {a b c : Nat} (hx : ev n e x = .int .u64 (a : Int)) (hy : ev n e y = .int .u64 (b : Int)) (ha : a < 18446744073709551616) (hb : b < 18446744073709551616) (hc : a ||| b = c) :
    Ev P n e ⟨d, .binOp .or t x y t', ty, pos, af, gd⟩ w (.int .u64 (c : Int)) := by
  have e1 : (Op.intBits .or .u64 (a : Int) (b : Int)) = pure (.int .u64 (IntKind.u64.wrap ((BitVec.ofInt 64 (a : Int) ||| BitVec.ofInt 64 (b : Int)).toNat : Int))) := rfl
  have e2 : (BitVec.ofInt 64 (a : Int) ||| BitVec.ofInt 64 (b : Int)).toNat = c := by
    have h1 : BitVec.ofInt 64 (a : Int) = BitVec.ofNat 64 a := by simp
    have h2 : BitVec.ofInt 64 (b : Int) = BitVec.ofNat 64 b := by simp
    rw [h1, h2, BitVec.toNat_or, BitVec.toNat_ofNat, BitVec.toNat_ofNat, Nat.mod_eq_of_lt ha, Nat.mod_eq_of_lt hb, hc]
  have hlt : c < 18446744073709551616 := by rw [← e2]; exact BitVec.isLt _
  rw [e2, wU64 (z := (c : Int)) ⟨rfl, by omega, by omega⟩] at e1
  simp only [Ev, execOp, hx, hy, eqGuard, binOp, e1]
  simp
theorem evOr32n {d : Option Nat} {t t' : TypeId} {x y : Operand} {a b c : Nat} (hx : ev n e x = .int .u32 (a : Int)) (hy : ev n e y = .int .u32 (b : Int)) (ha : a < 4294967296) (hb : b < 4294967296) (hc : a ||| b = c) :
    Ev P n e ⟨d, .binOp .or t x y t', ty, pos, af, gd⟩ w (.int .u32 (c : Int)) := by
  have h := evOr32 (P := P) (w := w) (d := d) (t := t) (t' := t') (ty := ty) (pos := pos) (af := af) (gd := gd) hx hy
  have e2 : (BitVec.ofNat 32 a ||| BitVec.ofNat 32 b).toNat = c := by
    rw [BitVec.toNat_or, BitVec.toNat_ofNat, BitVec.toNat_ofNat, Nat.mod_eq_of_lt ha, Nat.mod_eq_of_lt hb, hc]
  rw [e2] at h
  exact h
end
theorem shlE64u {a b : Int} {x s : Nat} (ha : a = (x : Int)) (hb : b = (s : Int)) (hs : s ≤ 64) (hx : x * 2 ^ s < 18446744073709551616) : IntKind.u64.wrap (a * 2 ^ (min b.toNat IntKind.u64.bits)) = ((x * 2 ^ s : Nat) : Int) := by
  subst ha hb
  have e : min (s : Int).toNat IntKind.u64.bits = s := by rw [Int.toNat_natCast]; exact Nat.min_eq_left hs
  rw [e]
  exact wU64 ⟨by simp, by omega, by omega⟩
end Go.Gx
namespace Go.Gx
section
variable {Q : Exit → Act → World → Prop} {a : Act} {w : World}
theorem nN (h : Q .normal a w) : Exit.noGoto Q .normal a w := h
theorem nR (h : Q .ret a w) : Exit.noGoto Q .ret a w := h
theorem nE {id : Nat} (h : Q (.exit id) a w) : Exit.noGoto Q (.exit id) a w := h
end
end Go.Gx
namespace Go.Gx
section
variable {P : Program} {n : Nat} {e : Nat → Value} {w : World} {ty : TypeId} {pos : String} {af : Array Edge} {gd : Option (Nat × Bool)}
/-- s[l:h] of a slice whose place is known. -/
theorem evSliceLH {d : Option Nat} {t el : TypeId} {x y y2 : Operand} {g off len cap size : Nat} {k k2 : IntKind} {z z2 : Int} (l h : Nat) (ht : P.underlying t = some (.slice el)) (hs : ∀ w, (sizeOf el).run P w = .ok size w)
    (hx : ev n e x = .slice (some ⟨g, off, none⟩) len cap) (hy : ev n e y = .int k z) (hy2 : ev n e y2 = .int k2 z2) (hz : z = (l : Int)) (hz2 : z2 = (h : Int)) (h1 : l ≤ h) (h2 : h ≤ cap) (h3 : l < cap) (p : Nat) (hp : off + l * size = p) :
    Ev P n e ⟨d, .slice t x (some y) (some y2) none, ty, pos, af, gd⟩ w (.slice (some ⟨g, p, none⟩) (h - l) (cap - l)) := by
  have := evSlice (P := P) (w := w) (d := d) (ty := ty) (pos := pos) (af := af) (gd := gd) l h ht hs hx (lo := some y) (hi := some y2) ⟨k, z, hy, hz⟩ ⟨k2, z2, hy2, hz2⟩ h1 h2
  rw [if_neg (by omega)] at this
  simp only [Option.map_some, addr_add, hp] at this
  exact this
end
end Go.Gx
