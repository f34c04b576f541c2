/-
  Division bit by bit, in plain numbers: doubling with carry, comparison from the top, the step of long division. No program in sight.
-/
import Derived.Test.YtppegjbdencefaaRefPreds
namespace Go.Gx
open Go.RowKit
section
variable {B : Nat}
theorem dbl_step {P R : List Nat} {k c c' s a : Nat} (h : vb B P + B ^ k * c = 2 * vb B (R.take k) + a) (hl : P.length = k) (hs : s + B * c' = 2 * R.getD k 0 + c) :
    vb B (P ++ [s]) + B ^ (k + 1) * c' = 2 * vb B (R.take (k + 1)) + a := by
  rw [vdig_step h hl hs, vb_getD, Nat.mul_add, Nat.mul_left_comm 2 (B ^ k)]; omega
theorem dbl_end {P R : List Nat} {n k c a b : Nat} (h : vb B P + B ^ k * c = 2 * vb B (R.take k) + a) (hk : k = n) (hR : R.length ≤ n) (hr : vb B R < b) (ha : a ≤ 1) (hb : 2 * b ≤ B ^ n) : vb B P = 2 * vb B R + a := by
  subst hk
  rw [vb_all R hR] at h
  cases c with
  | zero => simpa using h
  | succ c =>
    exfalso
    rw [Nat.mul_add] at h
    have h2 : 0 ≤ B ^ k * c := Nat.zero_le _
    omega
theorem part_set {P R : List Nat} {j s : Nat} (hP : P.length = j) (hj : j < R.length) : (P ++ R.drop j).set j s = (P ++ [s]) ++ R.drop (j + 1) := by
  subst hP
  rw [List.set_append_right _ _ (Nat.le_refl _), Nat.sub_self, List.append_assoc, List.drop_eq_getElem_cons hj]
  rfl
theorem part_get {P R : List Nat} {j : Nat} (hP : P.length = j) (hj : j < R.length) : (P ++ R.drop j).getD j 0 = R.getD j 0 := by
  subst hP
  simp [List.getD, List.getElem?_append_right]
theorem vlt_part {P R : List Nat} {j : Nat} (hP : ∀ d ∈ P, d < B) (hR : ∀ d ∈ R, d < B) : ∀ d ∈ P ++ R.drop j, d < B := fun d hd => by
  rcases List.mem_append.1 hd with h | h
  · exact hP d h
  · exact hR d (List.mem_of_mem_drop h)
theorem cmp_ge {P D : List Nat} {k : Nat} (h0 : 0 < B) (hD : ∀ d ∈ D, d < B) (heq : ∀ j, k + 1 ≤ j → P.getD j 0 = D.getD j 0) (hge : ¬ P.getD k 0 < D.getD k 0) (hk : k = 0 ∨ P.getD k 0 ≠ D.getD k 0) : vb B D ≤ vb B P := by
  rcases Nat.lt_or_ge (D.getD k 0) (P.getD k 0) with h | h
  · exact Nat.le_of_lt (vb_ltk h0 k hD (fun j hj => (heq j hj).symm) h)
  · have he : P.getD k 0 = D.getD k 0 := by omega
    have hk0 : k = 0 := by rcases hk with h | h; exact h; exact absurd he h
    subst hk0
    refine Nat.le_of_eq (vb_ext fun j => ?_)
    cases j with
    | zero => exact he.symm
    | succ j => exact (heq (j + 1) (by omega)).symm
theorem eq_down1 {P D : List Nat} {k : Nat} (heq : ∀ j, k + 1 ≤ j → P.getD j 0 = D.getD j 0) (hk : 0 < k) (he : P.getD k 0 = D.getD k 0) : ∀ j, k - 1 + 1 ≤ j → P.getD j 0 = D.getD j 0 := fun j hj => by
  rcases Nat.lt_or_ge k j with h | h
  · exact heq j h
  · rw [show j = k by omega]; exact he
theorem eq_top1 {P D : List Nat} {n : Nat} (hP : P.length ≤ n) (hD : D.length ≤ n) : ∀ j, n - 1 + 1 ≤ j → P.getD j 0 = D.getD j 0 := fun j hj => by
  rw [List.getD, List.getD, List.getElem?_eq_none (by omega), List.getElem?_eq_none (by omega)]
theorem vb_drop_pred {ds : List Nat} {k : Nat} (hk : 0 < k) (hl : k ≤ ds.length) : vb B (ds.drop (k - 1)) = ds.getD (k - 1) 0 + B * vb B (ds.drop k) := by
  rw [List.drop_eq_getElem_cons (by omega : k - 1 < ds.length), show k - 1 + 1 = k by omega]
  simp only [vb, List.getD, List.getElem?_eq_getElem (by omega : k - 1 < ds.length), Option.getD_some]
end
theorem dm_lt {A a b q r : Nat} (hb : 0 < b) (hq : q = A / b) (hr : r = A % b) (h : 2 * r + a < b) : 2 * q = (a + 2 * A) / b ∧ 2 * r + a = (a + 2 * A) % b := by
  have e : a + 2 * A = 2 * r + a + b * (2 * q) := by
    have := Nat.div_add_mod A b
    subst hq hr
    rw [Nat.mul_left_comm]; omega
  rw [e, Nat.add_mul_div_left _ _ hb, Nat.add_mul_mod_self_left, Nat.div_eq_of_lt h, Nat.mod_eq_of_lt h]
  omega
theorem dm_ge {A a b q r : Nat} (hb : 0 < b) (hq : q = A / b) (hr : r = A % b) (ha : a ≤ 1) (h : b ≤ 2 * r + a) : 1 + 2 * q = (a + 2 * A) / b ∧ 2 * r + a - b = (a + 2 * A) % b := by
  have hrb : r < b := hr ▸ Nat.mod_lt _ hb
  have e : a + 2 * A = (2 * r + a - b) + b * (1 + 2 * q) := by
    have := Nat.div_add_mod A b
    subst hq hr
    rw [Nat.mul_add, Nat.mul_one, Nat.mul_left_comm]; omega
  rw [e, Nat.add_mul_div_left _ _ hb, Nat.add_mul_mod_self_left, Nat.div_eq_of_lt (by omega), Nat.mod_eq_of_lt (by omega)]
  omega
theorem rep_zero {Q : List Nat} {k : Nat} (hk : 0 < k) : List.replicate k 0 ++ Q = List.replicate (k - 1) 0 ++ (0 :: Q) := by
  obtain ⟨m, rfl⟩ : ∃ m, k = m + 1 := ⟨k - 1, by omega⟩
  rw [Nat.add_sub_cancel, List.replicate_succ', List.append_assoc]; rfl
theorem rep_set {Q : List Nat} {k : Nat} (hk : 0 < k) : (List.replicate k 0 ++ Q).set (k - 1) 1 = List.replicate (k - 1) 0 ++ (1 :: Q) := by
  rw [rep_zero hk, List.set_append_right _ _ (by simp), List.length_replicate, Nat.sub_self]; rfl
theorem vlt_rep {Q : List Nat} {k : Nat} (h : ∀ d ∈ Q, d < 2) : ∀ d ∈ List.replicate k 0 ++ Q, d < 2 := fun d hd => by
  rcases List.mem_append.1 hd with h1 | h1
  · rw [List.eq_of_mem_replicate h1]; decide
  · exact h d h1
theorem vlt_cons {Q : List Nat} {x b : Nat} (hx : x < b) (h : ∀ d ∈ Q, d < b) : ∀ d ∈ x :: Q, d < b := fun d hd => by
  rcases List.mem_cons.1 hd with rfl | h1
  · exact hx
  · exact h d h1
theorem word_bound {db dr : List Nat} {n : Nat} (hv : vb 32768 dr = vb 2 db) (hlt : ∀ d ∈ dr, d < 32768) (hl : dr.length + 1 = n) : 2 * vb 2 db ≤ 32768 ^ n := by
  have := vb_lt dr hlt
  rw [← hv, ← hl, Nat.pow_succ]; omega
/-- A slice that grows, away from two blocks. -/
theorem Own.away {b : Nat} {w : World} {B : Nat} {e : TypeId} {A : Option Addr} {n c p q : Nat} {ds : List Nat} (h : Own w B e 1 A n c (ds.map i64n)) (hd : ∀ d ∈ ds, d < b) (hne : ∀ a, A = some a → a.block ≠ p ∧ a.block ≠ q) :
    DigR b w (fun b => b ≠ p ∧ b ≠ q) A n c ds := by
  refine ⟨?_, hd⟩
  obtain ⟨h1, h2, h3, h4⟩ := h.rd
  refine ⟨h1, h2, h3, fun hn => ?_⟩
  obtain ⟨g, off, hA, hB, rest⟩ := h4 hn
  exact ⟨g, off, hA, hne _ hA, rest⟩
end Go.Gx
