/-
  Fractions. Plain numbers; no program in sight.
-/
import Derived.Test.YteiagkehhlpidaaDivMath2
namespace Go.Gx
def rnum (z : Int) (v : Nat) : Int := if v = 0 then 0 else z
def rden (v : Nat) : Nat := if v = 0 then 1 else v
theorem rden_pos (v : Nat) : 0 < rden v := by unfold rden; split <;> omega
theorem rden_of {v : Nat} (h : 0 < v) : rden v = v := by unfold rden; rw [if_neg (by omega)]
theorem rnum_of {z : Int} {v : Nat} (h : 0 < v) : rnum z v = z := by unfold rnum; rw [if_neg (by omega)]
theorem tdiv_dvd {z G q : Int} (h : G ∣ z) (hq : q = z.tdiv G) : z = G * q := by rw [hq]; exact (Int.mul_tdiv_cancel' h).symm
theorem reduce_math {zn zd G n d : Int} {a b : Nat} (ha : a = zn.natAbs) (hb : b = zd.natAbs) (hG : G = (Nat.gcd a b : Int)) (hd : 0 < zd) (en : n = zn.tdiv G) (ed : d = zd.tdiv G) :
    n * zd = zn * d ∧ 0 < d ∧ Nat.gcd n.natAbs d.natAbs = 1 := by
  subst ha hb
  have hgp : 0 < Nat.gcd zn.natAbs zd.natAbs := Nat.gcd_pos_of_pos_right _ (by omega)
  have d1 : G ∣ zn := by rw [hG]; exact Int.ofNat_dvd_left.2 (Nat.gcd_dvd_left _ _)
  have d2 : G ∣ zd := by rw [hG]; exact Int.ofNat_dvd_left.2 (Nat.gcd_dvd_right _ _)
  have h1 := tdiv_dvd d1 en
  have h2 := tdiv_dvd d2 ed
  have hG0 : 0 < G := by rw [hG]; omega
  have hd0 : 0 < d := by
    rcases Int.lt_trichotomy d 0 with h | h | h
    · have := Int.mul_neg_of_pos_of_neg hG0 h; omega
    · rw [h] at h2; omega
    · exact h
  refine ⟨?_, hd0, ?_⟩
  · rw [h1, h2, ← Int.mul_assoc, Int.mul_comm n G]
  · have e1 : zn.natAbs = Nat.gcd zn.natAbs zd.natAbs * n.natAbs := by
      have := congrArg Int.natAbs h1
      rw [Int.natAbs_mul, hG] at this
      simpa using this
    have e2 : zd.natAbs = Nat.gcd zn.natAbs zd.natAbs * d.natAbs := by
      have := congrArg Int.natAbs h2
      rw [Int.natAbs_mul, hG] at this
      simpa using this
    have e3 : Nat.gcd (Nat.gcd zn.natAbs zd.natAbs * n.natAbs) (Nat.gcd zn.natAbs zd.natAbs * d.natAbs) = Nat.gcd zn.natAbs zd.natAbs * Nat.gcd n.natAbs d.natAbs := Nat.gcd_mul_left _ _ _
    rw [← e1, ← e2] at e3
    exact Nat.eq_of_mul_eq_mul_left hgp (by rw [← e3, Nat.mul_one])
theorem make_math {zn zd zn' zd' n : Int} {v : Nat} (h : n * zd' = zn' * (v : Int)) (hs : (zn' = zn ∧ zd' = zd) ∨ (zn' = -zn ∧ zd' = -zd)) : n * zd = zn * (v : Int) := by
  rcases hs with ⟨h1, h2⟩ | ⟨h1, h2⟩
  · rw [← h1, ← h2]; exact h
  · rw [h1, h2, Int.mul_neg, Int.neg_mul] at h; omega
end Go.Gx
