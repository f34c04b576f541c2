/-
  Signs of polynomials beyond their roots. Plain numbers; no program in sight.
-/
import Derived.Test.YteiagkehhlpidaaEvMath
namespace Go.Gx
def evI : List Int → Int → Int
  | [], _ => 0
  | a :: l, x => a + x * evI l x
theorem evQ_int (x : Int) : ∀ f : List Int, evQ f (x : Rat) = ((evI f x : Int) : Rat)
  | [] => rfl
  | a :: l => by simp only [evQ, evI, evQ_int x l, Rat.intCast_add, Rat.intCast_mul]
/-- The sign beyond the roots. -/
def sendP (F : List Int) (m : Bool) : Int := if m = true ∧ ((F.length : Int) - 1).tmod 2 ≠ 0 then -(coI F ((F.length : Int) - 1)).sign else (coI F ((F.length : Int) - 1)).sign
theorem big_sign {x : Int} {H : Nat} (hx : (H : Int) + 2 ≤ x ∨ x ≤ -((H : Int) + 2)) : ∀ (F : List Int), F.length ≠ 0 → co F (F.length - 1) ≠ 0 → hgt F ≤ H → evI F x ≠ 0 ∧ (0 < x → (0 < evI F x ↔ 0 < co F (F.length - 1))) ∧ (x < 0 → (0 < evI F x ↔ (if (F.length - 1) % 2 = 0 then 0 < co F (F.length - 1) else co F (F.length - 1) < 0)))
  | [], h, _, _ => absurd rfl h
  | [a], _, h1, _ => by simp [evI, co] at h1 ⊢; exact h1
  | a :: b :: l, _, h1, h2 => by
    have e1 : co (a :: b :: l) ((a :: b :: l).length - 1) = co (b :: l) ((b :: l).length - 1) := by simp [co]
    rw [e1] at h1 ⊢
    simp only [hgt] at h2
    have ih := big_sign hx (b :: l) (by simp) h1 (by simp only [hgt]; omega)
    have ha : a.natAbs ≤ H := by omega
    show a + x * evI (b :: l) x ≠ 0 ∧ (0 < x → (0 < a + x * evI (b :: l) x ↔ _)) ∧ (x < 0 → (0 < a + x * evI (b :: l) x ↔ _))
    generalize evI (b :: l) x = E at *
    generalize co (b :: l) ((b :: l).length - 1) = c at *
    obtain ⟨hE, hp, hn⟩ := ih
    have hl : (a :: b :: l).length - 1 = (b :: l).length - 1 + 1 := by simp
    rw [hl]
    generalize (b :: l).length - 1 = k at *
    rcases hx with hx | hx
    · rcases Int.lt_or_gt_of_ne hE with h | h
      · have h3 : x * E ≤ x * (-1) := Int.mul_le_mul_of_nonneg_left (by omega) (by omega)
        refine ⟨by omega, fun _ => ⟨fun h4 => by omega, fun h4 => ?_⟩, fun h4 => by omega⟩
        have := (hp (by omega)).2 h4; omega
      · have h3 : x * 1 ≤ x * E := Int.mul_le_mul_of_nonneg_left (by omega) (by omega)
        refine ⟨by omega, fun _ => ⟨fun _ => (hp (by omega)).1 h, fun h4 => by omega⟩, fun h4 => by omega⟩
    · have hn' := hn (by omega)
      rcases Int.lt_or_gt_of_ne hE with h | h
      · have h3 : (-x) * 1 ≤ (-x) * (-E) := Int.mul_le_mul_of_nonneg_left (by omega) (by omega)
        rw [Int.neg_mul_neg] at h3
        have hpos : 0 < a + x * E := by omega
        refine ⟨by omega, fun h4 => by omega, fun _ => ⟨fun _ => ?_, fun _ => hpos⟩⟩
        have hne : ¬ (if k % 2 = 0 then 0 < c else c < 0) := fun h5 => by have := hn'.2 h5; omega
        by_cases hk : k % 2 = 0
        · rw [if_pos hk] at hne; rw [if_neg (by omega)]; omega
        · rw [if_neg hk] at hne; rw [if_pos (by omega)]; omega
      · have h3 : (-x) * 1 ≤ (-x) * E := Int.mul_le_mul_of_nonneg_left (by omega) (by omega)
        have e3 : (-x) * E = -(x * E) := Int.neg_mul x E
        have hneg : a + x * E < 0 := by omega
        refine ⟨by omega, fun h4 => by omega, fun _ => ⟨fun h4 => by omega, fun h5 => ?_⟩⟩
        exfalso
        have h6 := hn'.1 h
        by_cases hk : k % 2 = 0
        · rw [if_pos hk] at h6; rw [if_neg (by omega)] at h5; omega
        · rw [if_neg hk] at h6; rw [if_pos (by omega)] at h5; omega
theorem sign_of {z : Int} : (0 < z → z.sign = 1) ∧ (z < 0 → z.sign = -1) ∧ (z = 0 → z.sign = 0) := by
  rcases sign_cases z with h | h | h <;> omega
theorem ends_law {F : List Int} {m : Bool} {x zv zp s : Int} {H : Nat} {q : Rat} (hF : hgt F = H) (hx : (m = false ∧ (H : Int) + 2 ≤ x) ∨ (m = true ∧ x ≤ -((H : Int) + 2))) (hq : q = (x : Rat)) (hv : (zv : Rat) = evQ F q * (zp : Rat)) (hp : 0 < zp) (hs : s = sendP (trimZ F) m) : s = zv.sign := by
  rw [hq, ← evQ_trim, evQ_int, ← Rat.intCast_mul] at hv
  have hz := Rat.intCast_inj.1 hv
  have hh : hgt (trimZ F) ≤ H := by rw [hgt_trim]; omega
  by_cases h0 : (trimZ F).length = 0
  · have e : trimZ F = [] := List.eq_nil_of_length_eq_zero h0
    rw [e] at hz hs
    have hz0 : zv = 0 := by simpa [evI] using hz
    rw [hs, hz0]
    simp [sendP, coI]
  · have hl := canon_last (canon_trim isZI F) h0
    have hb := big_sign (x := x) (H := H) (by omega) (trimZ F) h0 hl hh
    have hc : coI (trimZ F) (((trimZ F).length : Int) - 1) = co (trimZ F) ((trimZ F).length - 1) := by
      rw [show (((trimZ F).length : Int) - 1) = (((trimZ F).length - 1 : Nat) : Int) by omega, coI_nat]
    have ht : (((trimZ F).length : Int) - 1).tmod 2 = ((((trimZ F).length - 1) % 2 : Nat) : Int) := by
      rw [show (((trimZ F).length : Int) - 1) = (((trimZ F).length - 1 : Nat) : Int) by omega]
      exact remE (c := 2) rfl rfl
    unfold sendP at hs
    rw [hc, ht] at hs
    generalize (trimZ F).length - 1 = k at *
    generalize co (trimZ F) k = c at *
    generalize evI (trimZ F) x = E at *
    have hsz : (0 < E → 0 < zv) ∧ (E < 0 → zv < 0) := ⟨fun h => by rw [hz]; exact Int.mul_pos h hp, fun h => by rw [hz]; exact Int.mul_neg_of_neg_of_pos h hp⟩
    have s1 := sign_of (z := zv)
    have s2 := sign_of (z := c)
    rcases hx with ⟨hm, hx⟩ | ⟨hm, hx⟩
    · subst hm
      simp at hs
      have := hb.2.1 (by omega)
      have := hb.1
      omega
    · subst hm
      have h3 := hb.2.2 (by omega)
      have h4 := hb.1
      by_cases hk : k % 2 = 0
      · rw [if_pos hk] at h3
        rw [if_neg (by simp [hk])] at hs
        omega
      · rw [if_neg hk] at h3
        rw [if_pos ⟨rfl, by omega⟩] at hs
        omega
end Go.Gx
namespace Go.Gx
theorem rv_one {z : Int} {v : Nat} (h : v = 1) : rv z v = (z : Rat) := by
  subst h
  have h1 : rnum z 1 = z := rnum_of (by decide)
  have h2 : rden 1 = 1 := rfl
  unfold rv
  rw [h1, h2]
  show (z : Rat) / ((1 : Int) : Rat) = z
  have : ((1 : Int) : Rat) = 1 := rfl
  rw [this]
  grind
end Go.Gx
