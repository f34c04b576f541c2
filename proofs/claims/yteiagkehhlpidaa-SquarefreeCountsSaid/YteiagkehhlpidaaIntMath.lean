/-
  Signs and digits. Plain numbers; no program in sight.
-/
import Derived.Test.YteiagkehhlpidaaNatMath2
namespace Go.Gx
/-- A canonical integer. -/
def ICan (g : Bool) (d : List Nat) : Prop := Canon isZ d ∧ (g = true → d ≠ [])
def cmpZ (x y : Int) : Int := if x < y then -1 else if y < x then 1 else 0
theorem zval_false (d : List Nat) : zval false d = val d := by simp [zval]
theorem zval_true (d : List Nat) : zval true d = -(val d : Int) := by simp [zval]
theorem zval_nil (g : Bool) : zval g [] = 0 := by cases g <;> simp [zval, val]
theorem zval_trim (g : Bool) (d : List Nat) : zval g (trimN d) = zval g d := by unfold zval; rw [val_trim]
theorem val_pos {d : List Nat} (cn : Canon isZ d) (h : d ≠ []) : 0 < val d := by
  rcases snoc_cases d with h0 | ⟨k, x, rfl⟩
  · exact absurd h0 h
  · have hx : isZ x = false := canon_snoc.1 cn
    have h3 : x ≠ 0 := by intro e; subst e; simp [isZ] at hx
    rw [val_snoc]
    have h4 : 0 < BS ^ k.length * x := Nat.mul_pos (Nat.pow_pos (by decide)) (by omega)
    omega
theorem signed_val {g g' : Bool} {d d' : List Nat} {n : Nat} (e : g' = (g && decide (0 < n))) (ed : d' = d) (ln : d.length = n) : zval g' d' = zval g d := by
  subst e ed
  rcases Nat.eq_zero_or_pos n with h | h
  · subst h; have : d' = [] := List.eq_nil_of_length_eq_zero ln
    subst this; rw [zval_nil, zval_nil]
  · simp [h]
theorem signed_can {g g' : Bool} {d d' : List Nat} {n : Nat} (e : g' = (g && decide (0 < n))) (ed : d' = d) (ln : d.length = n) (cn : Canon isZ d) : ICan g' d' := by
  subst e ed
  refine ⟨cn, fun h => ?_⟩
  simp at h
  intro h0; subst h0; simp at ln; omega
theorem of_neg {x : Int} {d : List Nat} (h : val d = (-x).toNat) (hx : x < 0) : zval true d = x := by rw [zval_true, h]; omega
theorem of_pos {x : Int} {d : List Nat} (h : val d = x.toNat) (hx : ¬ x < 0) : zval false d = x := by rw [zval_false, h]; omega
theorem can_neg {x : Int} {d : List Nat} (h : val d = (-x).toNat) (hx : x < 0) (cn : Canon isZ d) : ICan true d := ⟨cn, fun _ h0 => by subst h0; simp [val] at h; omega⟩
theorem can_pos {d : List Nat} (cn : Canon isZ d) : ICan false d := ⟨cn, fun h => by cases h⟩
theorem sign_zero {g : Bool} {d : List Nat} (h : true = decide (val d = 0)) : (0 : Int) = (zval g d).sign := by
  have : val d = 0 := by simpa using h
  cases g <;> simp [zval, this]
theorem sign_neg {d : List Nat} (h : false = decide (val d = 0)) : (-1 : Int) = (zval true d).sign := by
  have : val d ≠ 0 := by simpa using h
  rw [zval_true, Int.sign_eq_neg_one_of_neg (by omega)]
theorem sign_pos {d : List Nat} (h : false = decide (val d = 0)) : (1 : Int) = (zval false d).sign := by
  have : val d ≠ 0 := by simpa using h
  rw [zval_false, Int.sign_eq_one_of_pos (by omega)]
theorem sign_cases (x : Int) : (x.sign = -1 ∧ x < 0) ∨ (x.sign = 0 ∧ x = 0) ∨ (x.sign = 1 ∧ 0 < x) := by
  rcases Int.lt_trichotomy x 0 with h | h | h
  · exact .inl ⟨Int.sign_eq_neg_one_of_neg h, h⟩
  · exact .inr (.inl ⟨by subst h; rfl, h⟩)
  · exact .inr (.inr ⟨Int.sign_eq_one_of_pos h, h⟩)
theorem zval_cases (g : Bool) (d : List Nat) : (zval g d = val d) ∨ (zval g d = -(val d : Int)) := by cases g <;> simp [zval]
theorem icmp_lt {s t x y : Int} (hs : s = x.sign) (ht : t = y.sign) (h : s < t) : (-1 : Int) = cmpZ x y := by
  have : x < y := by rcases sign_cases x with h1 | h1 | h1 <;> rcases sign_cases y with h2 | h2 | h2 <;> omega
  simp [cmpZ, this]
theorem icmp_gt {s t x y : Int} (hs : s = x.sign) (ht : t = y.sign) (h : s > t) : (1 : Int) = cmpZ x y := by
  have : y < x := by rcases sign_cases x with h1 | h1 | h1 <;> rcases sign_cases y with h2 | h2 | h2 <;> omega
  simp [cmpZ, this, Int.not_lt.2 (Int.le_of_lt this)]
theorem cmpN_cases (a b : Nat) : (cmpN a b = -1 ∧ a < b) ∨ (cmpN a b = 0 ∧ a = b) ∨ (cmpN a b = 1 ∧ b < a) := by
  unfold cmpN
  rcases Nat.lt_trichotomy a b with h | h | h
  · simp [h]
  · simp [h]
  · simp [h, Nat.lt_asymm h]
theorem cmpZ_cases (x y : Int) : (cmpZ x y = -1 ∧ x < y) ∨ (cmpZ x y = 0 ∧ x = y) ∨ (cmpZ x y = 1 ∧ y < x) := by
  unfold cmpZ
  rcases Int.lt_trichotomy x y with h | h | h
  · simp [h]
  · simp [h]
  · simp [h, Int.not_lt.2 (Int.le_of_lt h)]
theorem icmp_neg {s t c : Int} {g g' : Bool} {d d' : List Nat} (hs : s = (zval g d).sign) (ht : t = (zval g' d').sign) (h1 : ¬ s < t) (h2 : ¬ s > t) (h : s < 0) (hc : c = cmpN (val d') (val d)) : c = cmpZ (zval g d) (zval g' d') := by
  have e1 := zval_cases g d
  have e2 := zval_cases g' d'
  have s1 := sign_cases (zval g d)
  have s2 := sign_cases (zval g' d')
  have c1 := cmpN_cases (val d') (val d)
  have c2 := cmpZ_cases (zval g d) (zval g' d')
  omega
theorem icmp_pos {s t c : Int} {g g' : Bool} {d d' : List Nat} (hs : s = (zval g d).sign) (ht : t = (zval g' d').sign) (h1 : ¬ s < t) (h2 : ¬ s > t) (h : ¬ s < 0) (hc : c = cmpN (val d) (val d')) : c = cmpZ (zval g d) (zval g' d') := by
  have e1 := zval_cases g d
  have e2 := zval_cases g' d'
  have s1 := sign_cases (zval g d)
  have s2 := sign_cases (zval g' d')
  have c1 := cmpN_cases (val d) (val d')
  have c2 := cmpZ_cases (zval g d) (zval g' d')
  omega
theorem iadd_same {g g' : Bool} {a b d : List Nat} (h : (g == g') = true) (hv : val d = val a + val b) : zval g d = zval g a + zval g' b := by
  have : g = g' := by simpa using h
  subst this
  cases g <;> simp [zval, hv] <;> omega
theorem iadd_ge {g g' : Bool} {a b d : List Nat} {c : Int} (h : (g == g') = false) (hc : c = cmpN (val a) (val b)) (h0 : c ≥ 0) (hv : val d = val a - val b) : zval g d = zval g a + zval g' b := by
  have c1 := cmpN_cases (val a) (val b)
  cases g <;> cases g' <;> simp at h <;> simp [zval, hv] <;> omega
theorem iadd_lt {g g' : Bool} {a b d : List Nat} {c : Int} (h : (g == g') = false) (hc : c = cmpN (val a) (val b)) (h0 : ¬ c ≥ 0) (hv : val d = val b - val a) : zval g' d = zval g a + zval g' b := by
  have c1 := cmpN_cases (val a) (val b)
  cases g <;> cases g' <;> simp at h <;> simp [zval, hv] <;> omega
theorem imul_val {g g' : Bool} {a b d : List Nat} (hv : val d = val a * val b) : zval (g != g') d = zval g a * zval g' b := by
  cases g <;> cases g' <;> simp [zval, hv, Int.natCast_mul, Int.neg_mul, Int.mul_neg]
theorem zval_not (g : Bool) (d : List Nat) : zval (!g) d = -zval g d := by cases g <;> simp [zval]
theorem cmpZ_zero {x y c : Int} (h : c = cmpZ x y) : decide (c = 0) = decide (x = y) := by
  have := cmpZ_cases x y
  by_cases hx : x = y <;> simp [hx] <;> omega
theorem natAbs_val (g : Bool) (d : List Nat) : val d = (zval g d).natAbs := by rcases zval_cases g d with h | h <;> omega
theorem sign0_iff {x z : Int} (e : x = z.sign) : (x = 0 ↔ z = 0) := by
  rcases sign_cases z with h | h | h <;> omega
theorem sgn0 {x z : Int} (e : x = z.sign) : decide (x = 0) = decide (z = 0) := by
  have := sign0_iff e
  by_cases h : z = 0 <;> simp [h, this]
end Go.Gx
