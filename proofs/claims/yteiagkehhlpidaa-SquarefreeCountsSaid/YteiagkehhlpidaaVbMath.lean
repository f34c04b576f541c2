/-
  Numbers in any base: sums, differences, products, bits. Plain numbers; no program in sight.
-/
import Derived.Test.YteiagkehhlpidaaIntMath
namespace Go.Gx
def vb (b : Nat) : List Nat → Nat
  | [] => 0
  | d :: ds => d + b * vb b ds
theorem vb_val (ds : List Nat) : vb 4294967296 ds = val ds := by
  induction ds with
  | nil => rfl
  | cons d ds ih => simp only [vb, val, ih]
section
variable {B : Nat}
theorem vb_append (a b : List Nat) : vb B (a ++ b) = vb B a + B ^ a.length * vb B b := by
  induction a with
  | nil => simp [vb]
  | cons d a ih => simp only [List.cons_append, vb, ih, List.length_cons, Nat.pow_succ]; rw [Nat.mul_add, ← Nat.mul_assoc, Nat.mul_comm (B ^ a.length) B, Nat.add_assoc]
theorem vb_snoc (a : List Nat) (d : Nat) : vb B (a ++ [d]) = vb B a + B ^ a.length * d := by
  rw [vb_append]; simp [vb]
theorem vb_snoc_zero (a : List Nat) : vb B (a ++ [0]) = vb B a := by rw [vb_snoc]; simp
theorem vb_trim (ds : List Nat) : vb B (trimN ds) = vb B ds := by
  have h : ∀ (m : Nat) (l : List Nat), l.length = m → vb B (trimN l) = vb B l := by
    intro m
    induction m with
    | zero => intro l hl; simp [List.eq_nil_of_length_eq_zero hl, trimB]
    | succ m ih =>
      intro l hl
      rcases snoc_cases l with h0 | ⟨l', y, rfl⟩
      · subst h0; simp at hl
      · cases hy : isZ y with
        | true =>
          have : y = 0 := by simpa [isZ] using hy
          subst this
          show vb B (trimB isZ _) = _
          rw [trimB_snoc_yes isZ l' 0 hy, vb_snoc_zero]
          exact ih l' (by simpa using hl)
        | false =>
          show vb B (trimB isZ _) = _
          rw [trimB_snoc_no isZ l' y hy]
  exact h _ ds rfl
theorem vb_lt : ∀ (ds : List Nat), (∀ d ∈ ds, d < B) → vb B ds < B ^ ds.length
  | [], _ => by simp [vb]
  | d :: ds, h => by
    have h1 := h d (by simp)
    have h2 := vb_lt ds fun x hx => h x (by simp [hx])
    simp only [vb, List.length_cons, Nat.pow_succ]
    have h3 : B * (vb B ds + 1) ≤ B * B ^ ds.length := Nat.mul_le_mul_left _ h2
    rw [Nat.mul_comm (B ^ ds.length) B]
    have : B * (vb B ds + 1) = B * vb B ds + B := by rw [Nat.mul_add, Nat.mul_one]
    omega
theorem vb_getD (ds : List Nat) (k : Nat) : vb B (ds.take (k + 1)) = vb B (ds.take k) + B ^ k * ds.getD k 0 := by
  rcases Nat.lt_or_ge k ds.length with h | h
  · rw [List.take_succ_eq_append_getElem h, vb_snoc]
    rw [List.length_take, Nat.min_eq_left (by omega)]
    simp [List.getD, h]
  · rw [List.take_of_length_le (by omega), List.take_of_length_le h]
    simp [List.getD, List.getElem?_eq_none h]
theorem vb_all (ds : List Nat) {k : Nat} (h : ds.length ≤ k) : vb B (ds.take k) = vb B ds := by rw [List.take_of_length_le h]
theorem vb_fill (P : List Nat) (m : Nat) : vb B (P ++ List.replicate m 0) = vb B P := by
  induction m with
  | zero => simp
  | succ m ih => rw [List.replicate_succ', ← List.append_assoc, vb_snoc_zero, ih]
theorem vb_zeros (m : Nat) : vb B (List.replicate m 0) = 0 := by
  have := vb_fill (B := B) [] m
  simpa [vb] using this
theorem vdig_step {P : List Nat} {k c c' X x s : Nat} (h : vb B P + B ^ k * c = X) (hl : P.length = k) (hs : s + B * c' = x + c) : vb B (P ++ [s]) + B ^ (k + 1) * c' = X + B ^ k * x := by
  rw [vb_snoc, hl, Nat.pow_succ, Nat.mul_assoc, Nat.add_assoc, ← Nat.mul_add, hs, Nat.mul_add, ← h]
  omega
theorem vadd_step {P a b : List Nat} {k c c' s : Nat} (h : vb B P + B ^ k * c = vb B (a.take k) + vb B (b.take k)) (hl : P.length = k) (hs : s + B * c' = a.getD k 0 + b.getD k 0 + c) :
    vb B (P ++ [s]) + B ^ (k + 1) * c' = vb B (a.take (k + 1)) + vb B (b.take (k + 1)) := by
  rw [vdig_step h hl hs, vb_getD, vb_getD, Nat.mul_add]
  omega
theorem vadd_end {P a b : List Nat} {n c : Nat} (h : vb B P + B ^ n * c = vb B (a.take n) + vb B (b.take n)) (hc : c = 0) (ha : a.length ≤ n) (hb : b.length ≤ n) : vb B P = vb B a + vb B b := by
  rw [vb_all a ha, vb_all b hb, hc] at h; simpa using h
theorem vsub_step {P a b : List Nat} {k c c' s : Nat} (h : vb B P + vb B (b.take k) = vb B (a.take k) + B ^ k * c) (hl : P.length = k) (hs : s + b.getD k 0 + c = a.getD k 0 + B * c') :
    vb B (P ++ [s]) + vb B (b.take (k + 1)) = vb B (a.take (k + 1)) + B ^ (k + 1) * c' := by
  rw [vb_snoc, hl, vb_getD, vb_getD, Nat.pow_succ, Nat.mul_assoc]
  have e : B ^ k * (s + b.getD k 0 + c) = B ^ k * (a.getD k 0 + B * c') := by rw [hs]
  rw [Nat.mul_add, Nat.mul_add, Nat.mul_add] at e
  omega
theorem vsub_end {P a b : List Nat} {c n : Nat} (h : vb B P + vb B (b.take n) = vb B (a.take n) + B ^ n * c) (hl : P.length = n) (hlt : ∀ d ∈ P, d < B) (ha : a.length ≤ n) (hb : vb B b ≤ vb B a) (hbl : vb B (b.take n) = vb B b) : vb B P = vb B a - vb B b := by
  rw [vb_all a ha, hbl] at h
  have h1 := vb_lt P hlt
  rw [hl] at h1
  rcases Nat.eq_zero_or_pos c with h0 | h0
  · subst h0; simp at h; omega
  · have : B ^ n * 1 ≤ B ^ n * c := Nat.mul_le_mul_left _ h0
    omega
theorem vlt_snoc {P : List Nat} {s : Nat} (h : ∀ d ∈ P, d < B) (hs : s < B) : ∀ d ∈ P ++ [s], d < B := by
  intro d hd
  rcases List.mem_append.1 hd with h1 | h1
  · exact h d h1
  · simp at h1; subst h1; exact hs
theorem vlt_set {P : List Nat} {i s : Nat} (h : ∀ d ∈ P, d < B) (hs : s < B) : ∀ d ∈ P.set i s, d < B := by
  intro d hd
  rcases List.mem_or_eq_of_mem_set hd with h1 | h1
  · exact h d h1
  · subst h1; exact hs
theorem vgetD_lt {P : List Nat} {i : Nat} (h : ∀ d ∈ P, d < B) (h0 : 0 < B) : P.getD i 0 < B := by
  rcases Nat.lt_or_ge i P.length with hi | hi
  · simp only [List.getD, List.getElem?_eq_getElem hi, Option.getD_some]; exact h _ (List.getElem_mem hi)
  · simp [List.getD, List.getElem?_eq_none hi, h0]
theorem vb_tail (a : List Nat) : vb B a = a.getD 0 0 + B * vb B a.tail := by cases a <;> simp [vb]
theorem getD_tail (a : List Nat) (j : Nat) : a.tail.getD j 0 = a.getD (j + 1) 0 := by cases a <;> simp
theorem vb_congr : ∀ (n : Nat) (a b : List Nat), a.length + b.length ≤ n → (∀ j, a.getD j 0 = b.getD j 0) → vb B a = vb B b
  | 0, a, b, hn, _ => by
    have h1 : a = [] := List.eq_nil_of_length_eq_zero (by omega)
    have h2 : b = [] := List.eq_nil_of_length_eq_zero (by omega)
    rw [h1, h2]
  | n + 1, a, b, hn, h => by
    rw [vb_tail a, vb_tail b, h 0]
    rcases Nat.eq_zero_or_pos (a.length + b.length) with h0 | h0
    · have h1 : a = [] := List.eq_nil_of_length_eq_zero (by omega)
      have h2 : b = [] := List.eq_nil_of_length_eq_zero (by omega)
      rw [h1, h2]
    · rw [vb_congr n a.tail b.tail (by simp; omega) (fun j => by rw [getD_tail, getD_tail]; exact h (j + 1))]
theorem vb_ext {a b : List Nat} (h : ∀ j, a.getD j 0 = b.getD j 0) : vb B a = vb B b := vb_congr _ a b (Nat.le_refl _) h
theorem vb_ltk (h0 : 0 < B) : ∀ (k : Nat) {a b : List Nat}, (∀ d ∈ a, d < B) → (∀ j, k + 1 ≤ j → a.getD j 0 = b.getD j 0) → a.getD k 0 < b.getD k 0 → vb B a < vb B b
  | 0, a, b, _, heq, hlt => by
    rw [vb_tail a, vb_tail b, vb_ext (a := a.tail) (b := b.tail) (fun j => by rw [getD_tail, getD_tail]; exact heq (j + 1) (by omega))]
    omega
  | k + 1, a, b, ha, heq, hlt => by
    have ih := vb_ltk h0 k (a := a.tail) (b := b.tail) (fun d hd => ha d (List.mem_of_mem_tail hd)) (fun j hj => by rw [getD_tail, getD_tail]; exact heq (j + 1) (by omega)) (by rw [getD_tail, getD_tail]; exact hlt)
    rw [vb_tail a, vb_tail b]
    have h1 : B * (vb B a.tail + 1) ≤ B * vb B b.tail := Nat.mul_le_mul_left _ ih
    rw [Nat.mul_add, Nat.mul_one] at h1
    have h2 : a.getD 0 0 < B := by
      cases a with
      | nil => simpa using h0
      | cons x a => exact ha x (by simp)
    omega
theorem vcmp_lt {a b : List Nat} {k : Nat} (h0 : 0 < B) (ha : ∀ d ∈ a, d < B) (heq : ∀ j, k ≤ j → a.getD j 0 = b.getD j 0) (hk : 0 < k) (hlt : a.getD (k - 1) 0 < b.getD (k - 1) 0) : vb B a < vb B b := by
  obtain ⟨i, rfl⟩ : ∃ i, k = i + 1 := ⟨k - 1, by omega⟩
  exact vb_ltk h0 i ha heq (by simpa using hlt)
theorem vcmp_eq {a b : List Nat} {k : Nat} (heq : ∀ j, k ≤ j → a.getD j 0 = b.getD j 0) (hk : k = 0) : (0 : Int) = cmpN (vb B a) (vb B b) := by
  have : vb B a = vb B b := vb_ext fun j => heq j (by omega)
  simp [cmpN, this]
/-! products -/
theorem vmul_step {R Q b : List Nat} {i j c c' x s : Nat} (h : vb B R + B ^ (i + j) * c = vb B (Q.take (i + j)) + B ^ i * (x * vb B (b.take j))) (hR : R.length = i + j) (hs : s + B * c' = Q.getD (i + j) 0 + x * b.getD j 0 + c) :
    vb B (R ++ [s]) + B ^ (i + j + 1) * c' = vb B (Q.take (i + j + 1)) + B ^ i * (x * vb B (b.take (j + 1))) := by
  have e := vdig_step (x := Q.getD (i + j) 0 + x * b.getD j 0) h hR (by omega)
  rw [e, vb_getD, vb_getD, Nat.mul_add, Nat.mul_add x, Nat.mul_add (B ^ i)]
  have e2 : B ^ (i + j) * (x * b.getD j 0) = B ^ i * (x * (B ^ j * b.getD j 0)) := by
    rw [Nat.pow_add]
    rw [Nat.mul_assoc, Nat.mul_left_comm (B ^ j) x]
  omega
theorem vmul_row {R Q a b : List Nat} {i nb c : Nat} (h : vb B R + B ^ (i + nb) * c = vb B (Q.take (i + nb)) + B ^ i * (a.getD i 0 * vb B (b.take nb))) (hR : R.length = i + nb) (hQ : Q.length ≤ i + nb) (hb : b.length ≤ nb) (hv : vb B Q = vb B (a.take i) * vb B b) :
    vb B (R ++ [c]) = vb B (a.take (i + 1)) * vb B b := by
  rw [vb_snoc, hR, h, vb_all Q hQ, vb_all b hb, hv, vb_getD, Nat.add_mul, Nat.mul_assoc]
theorem vlt_mid {R Q : List Nat} {k m : Nat} (h0 : 0 < B) (hR : ∀ d ∈ R, d < B) (hQ : ∀ d ∈ Q, d < B) : ∀ d ∈ R ++ Q.drop k ++ List.replicate m 0, d < B := by
  intro d hd
  rcases List.mem_append.1 hd with h1 | h1
  · rcases List.mem_append.1 h1 with h2 | h2
    · exact hR d h2
    · exact hQ d (List.mem_of_mem_drop h2)
  · have := List.eq_of_mem_replicate h1; subst this; exact h0
theorem vlt_fill {P : List Nat} {m : Nat} (h0 : 0 < B) (h : ∀ d ∈ P, d < B) : ∀ d ∈ P ++ List.replicate m 0, d < B := by
  intro d hd
  rcases List.mem_append.1 hd with h1 | h1
  · exact h d h1
  · have := List.eq_of_mem_replicate h1; subst this; exact h0
theorem vlt_zeros (h0 : 0 < B) (m : Nat) : ∀ d ∈ List.replicate m 0, d < B := by
  intro d hd; have := List.eq_of_mem_replicate hd; subst this; exact h0
/-! bits -/
theorem vb_div (ds : List Nat) (h : ∀ d ∈ ds, d < B) (q : Nat) : vb B ds / B ^ q = vb B (ds.drop q) := by
  rcases Nat.lt_or_ge q ds.length with hq | hq
  · have e := vb_append (B := B) (ds.take q) (ds.drop q)
    rw [List.take_append_drop, List.length_take, Nat.min_eq_left (by omega)] at e
    have h1 : vb B (ds.take q) < B ^ q := by
      have := vb_lt (ds.take q) fun d hd => h d (List.mem_of_mem_take hd)
      rwa [List.length_take, Nat.min_eq_left (by omega)] at this
    rw [e, Nat.add_mul_div_left _ _ (by omega), Nat.div_eq_of_lt h1, Nat.zero_add]
  · rw [List.drop_of_length_le hq]
    have h1 := vb_lt ds h
    rcases Nat.eq_zero_or_pos B with h0 | h0
    · subst h0
      have : ds = [] := by
        cases ds with
        | nil => rfl
        | cons d ds => have := h d (by simp); omega
      subst this; simp [vb]
    · exact Nat.div_eq_of_lt (Nat.lt_of_lt_of_le h1 (Nat.pow_le_pow_right h0 hq))
theorem vb_bit {s : Nat} {ds : List Nat} (hs : 0 < s) (h : ∀ d ∈ ds, d < 2 ^ s) (k : Nat) : vb (2 ^ s) ds / 2 ^ k % 2 = ds.getD (k / s) 0 / 2 ^ (k % s) % 2 := by
  have ek : (2 : Nat) ^ k = (2 ^ s) ^ (k / s) * 2 ^ (k % s) := by
    rw [← Nat.pow_mul, ← Nat.pow_add, Nat.div_add_mod]
  rw [ek, ← Nat.div_div_eq_div_mul, vb_div ds h]
  have hr : k % s < s := Nat.mod_lt _ hs
  rw [vb_tail]
  have e0 : (ds.drop (k / s)).getD 0 0 = ds.getD (k / s) 0 := by simp [List.getD, List.getElem?_drop]
  rw [e0]
  have e1 : (2 : Nat) ^ s = 2 ^ (k % s) * (2 * 2 ^ (s - k % s - 1)) := by
    rw [← Nat.pow_succ', ← Nat.pow_add]; congr 1; omega
  rw [e1, Nat.mul_assoc, Nat.add_mul_div_left _ _ (Nat.pow_pos (by omega)), Nat.mul_assoc, Nat.add_mul_mod_self_left]
theorem bits_step {x k t : Nat} {P : List Nat} (h : vb 2 P = x % 2 ^ k) (hl : P.length = k) (ht : t = x / 2 ^ k % 2) : vb 2 (P ++ [t]) = x % 2 ^ (k + 1) := by
  rw [vb_snoc, hl, h, ht, ← Nat.mod_pow_succ]
theorem vb_set : ∀ (D : List Nat) (i y : Nat), i < D.length → vb B (D.set i (D.getD i 0 + y)) = vb B D + B ^ i * y
  | [], i, y, h => by simp at h
  | d :: D, 0, y, _ => by simp [vb]; omega
  | d :: D, i + 1, y, h => by
    have ih := vb_set D i y (by simpa using h)
    have e : (d :: D).getD (i + 1) 0 = D.getD i 0 := by simp
    rw [List.set_cons_succ, e]
    simp only [vb, ih, Nat.mul_add, Nat.pow_succ]
    rw [Nat.mul_comm (B ^ i) B, Nat.mul_assoc]
    omega
theorem vb_ge : ∀ (D : List Nat) (i : Nat), B ^ i * D.getD i 0 ≤ vb B D
  | [], i => by simp [vb]
  | d :: D, 0 => by simp [vb]
  | d :: D, i + 1 => by
    have ih := vb_ge D i
    have e : (d :: D).getD (i + 1) 0 = D.getD i 0 := by simp
    rw [e]
    simp only [vb, Nat.pow_succ]
    have := Nat.mul_le_mul_left B ih
    rw [← Nat.mul_assoc, Nat.mul_comm B (B ^ i)] at this
    omega
theorem setbit {s k X x : Nat} {D : List Nat} (hX : vb (2 ^ s) D = X) (hlt : X < 2 ^ k) (hq : k / s < D.length) :
    D.getD (k / s) 0 < 2 ^ (k % s) ∧ vb (2 ^ s) (D.set (k / s) (D.getD (k / s) 0 + x * 2 ^ (k % s))) = X + 2 ^ k * x := by
  have ek : (2 : Nat) ^ k = (2 ^ s) ^ (k / s) * 2 ^ (k % s) := by
    rw [← Nat.pow_mul, ← Nat.pow_add, Nat.div_add_mod]
  constructor
  · have h1 := vb_ge (B := 2 ^ s) D (k / s)
    rw [hX] at h1
    have h2 : (2 ^ s) ^ (k / s) * D.getD (k / s) 0 < (2 ^ s) ^ (k / s) * 2 ^ (k % s) := by rw [← ek]; omega
    exact Nat.lt_of_mul_lt_mul_left h2
  · rw [vb_set D _ _ hq, hX, ek, Nat.mul_assoc, Nat.mul_comm x]
theorem canon_of_ge {ds : List Nat} (hd : ∀ d ∈ ds, d < B) (h : ds = [] ∨ B ^ (ds.length - 1) ≤ vb B ds) : Canon isZ ds := by
  rcases snoc_cases ds with h0 | ⟨k, x, rfl⟩
  · subst h0; rfl
  · rcases h with h | h
    · simp at h
    · refine canon_snoc.2 ?_
      cases hx : isZ x with
      | false => rfl
      | true =>
        have : x = 0 := by simpa [isZ] using hx
        subst this
        rw [vb_snoc_zero] at h
        have h1 := vb_lt k fun d hd' => hd d (by simp [hd'])
        simp at h
        omega
theorem canon_ge {ds : List Nat} (hc : Canon isZ ds) (h : ds ≠ []) (h0 : 0 < B) : B ^ (ds.length - 1) ≤ vb B ds := by
  rcases snoc_cases ds with h1 | ⟨k, x, rfl⟩
  · exact absurd h1 h
  · have hx := canon_snoc.1 hc
    have hx0 : x ≠ 0 := by intro e; subst e; simp [isZ] at hx
    rw [vb_snoc]
    have : B ^ k.length * 1 ≤ B ^ k.length * x := Nat.mul_le_mul_left _ (by omega)
    simp
    omega
theorem canon_len {ds : List Nat} {m : Nat} (hc : Canon isZ ds) (h1 : 1 < B) (h : vb B ds < B ^ m) : ds.length ≤ m := by
  rcases Nat.lt_or_ge m ds.length with hm | hm
  · have h2 := canon_ge hc (by intro e; subst e; simp at hm) (by omega : 0 < B)
    have h3 : B ^ m ≤ B ^ (ds.length - 1) := Nat.pow_le_pow_right (by omega) (by omega)
    omega
  · exact hm
theorem canon_vnil {ds : List Nat} (hc : Canon isZ ds) (h0 : 0 < B) (h : vb B ds = 0) : ds = [] := by
  rcases List.eq_nil_or_concat ds with h1 | ⟨k, x, h1⟩
  · exact h1
  · have := canon_ge hc (by rw [h1]; simp) h0
    have h2 : 0 < B ^ (ds.length - 1) := Nat.pow_pos h0
    omega
end
end Go.Gx
namespace Go.Gx
theorem quoEi64 {a b : Int} {x c : Nat} (ha : a = (x : Int)) (hb : b = (c : Int)) (hx : x ≤ 9223372036854775807) : IntKind.i64.wrap (a.tdiv b) = ((x / c : Nat) : Int) := by
  subst ha hb
  have := Nat.div_le_self x c
  rw [← Int.ofNat_tdiv]
  generalize x / c = y at *
  exact wI64 ⟨rfl, by omega, by omega⟩
theorem quoEu32 {a b : Int} {x c : Nat} (ha : a = (x : Int)) (hb : b = (c : Int)) (hx : x < 4294967296) : IntKind.u32.wrap (a.tdiv b) = ((x / c : Nat) : Int) := by
  subst ha hb
  have := Nat.div_le_self x c
  rw [← Int.ofNat_tdiv]
  generalize x / c = y at *
  exact wU32 ⟨rfl, by omega, by omega⟩
theorem quoEu64 {a b : Int} {x c : Nat} (ha : a = (x : Int)) (hb : b = (c : Int)) (hx : x < 18446744073709551616) : IntKind.u64.wrap (a.tdiv b) = ((x / c : Nat) : Int) := by
  subst ha hb
  have := Nat.div_le_self x c
  rw [← Int.ofNat_tdiv]
  generalize x / c = y at *
  exact wU64 ⟨rfl, by omega, by omega⟩
theorem remE {a b : Int} {x c : Nat} (ha : a = (x : Int)) (hb : b = (c : Int)) : a.tmod b = ((x % c : Nat) : Int) := by
  subst ha hb; rw [Int.ofNat_tmod]
theorem shrE {a b : Int} {k : IntKind} {x s : Nat} (ha : a = (x : Int)) (hb : b = (s : Int)) (hs : s ≤ k.bits) : a.fdiv (2 ^ (min b.toNat k.bits)) = ((x / 2 ^ s : Nat) : Int) := by
  subst ha hb
  rw [Int.toNat_natCast, Nat.min_eq_left hs, Int.fdiv_eq_ediv_of_nonneg _ (by exact Int.pow_nonneg (by omega))]
  simp
/-- A shift to the left that stays in the kind. -/
theorem shlE32 {a b : Int} {x s : Nat} (ha : a = (x : Int)) (hb : b = (s : Int)) (hs : s ≤ 32) (hx : x * 2 ^ s < 4294967296) : IntKind.u32.wrap (a * 2 ^ (min b.toNat IntKind.u32.bits)) = ((x * 2 ^ s : Nat) : Int) := by
  subst ha hb
  have e : min (s : Int).toNat IntKind.u32.bits = s := by rw [Int.toNat_natCast]; exact Nat.min_eq_left hs
  rw [e]
  exact wU32 ⟨by simp, by omega, by omega⟩
theorem shlE64 {a b : Int} {x s : Nat} (ha : a = (x : Int)) (hb : b = (s : Int)) (hs : s ≤ 64) (hx : x * 2 ^ s ≤ 9223372036854775807) : IntKind.i64.wrap (a * 2 ^ (min b.toNat IntKind.i64.bits)) = ((x * 2 ^ s : Nat) : Int) := by
  subst ha hb
  have e : min (s : Int).toNat IntKind.i64.bits = s := by rw [Int.toNat_natCast]; exact Nat.min_eq_left hs
  rw [e]
  exact wI64 ⟨by simp, by omega, by omega⟩
end Go.Gx
namespace Go.Gx
theorem of_bit {ds : List Nat} (h : ∀ d ∈ ds, d < BS) (k : Nat) : ds.getD (k / 32) 0 / 2 ^ (k % 32) % 2 = val ds / 2 ^ k % 2 := by
  rw [← vb_val]; exact (vb_bit (s := 32) (by decide) h k).symm
theorem of_end {ds : List Nat} {k n : Nat} (h : ∀ d ∈ ds, d < BS) (hl : ds.length = n) (hk : k = 32 * n) : val ds % 2 ^ k = val ds := by
  refine Nat.mod_eq_of_lt ?_
  have := val_lt ds h
  rw [hk, Nat.pow_mul, ← hl]
  exact this
theorem vb_take_lt {B : Nat} {b : List Nat} {n : Nat} (h0 : 0 < B) (h : vb B b < B ^ n) : vb B (b.take n) = vb B b := by
  rcases Nat.lt_or_ge n b.length with hn | hn
  · have e := vb_append (B := B) (b.take n) (b.drop n)
    rw [List.take_append_drop, List.length_take, Nat.min_eq_left (by omega)] at e
    rcases Nat.eq_zero_or_pos (vb B (b.drop n)) with h1 | h1
    · rw [e, h1]; simp
    · have : B ^ n * 1 ≤ B ^ n * vb B (b.drop n) := Nat.mul_le_mul_left _ h1
      omega
  · rw [List.take_of_length_le hn]
theorem cmpv_lt {a b : List Nat} {k : Nat} (ha : ∀ d ∈ a, d < 2) (hb : ∀ d ∈ b, d < 2) (heq : ∀ j, k ≤ j → a.getD j 0 = b.getD j 0) (hk : 0 < k) (hne : (a.getD (k - 1) 0 : Int) ≠ (b.getD (k - 1) 0 : Int)) (x : Int) (hx : x = (a.getD (k - 1) 0 : Int) - (b.getD (k - 1) 0 : Int)) : x = cmpN (vb 2 a) (vb 2 b) := by
  have h1 := vgetD_lt (i := k - 1) ha (by decide)
  have h2 := vgetD_lt (i := k - 1) hb (by decide)
  rcases Nat.lt_trichotomy (a.getD (k - 1) 0) (b.getD (k - 1) 0) with h | h | h
  · have := vcmp_lt (by decide) ha heq hk h
    simp only [cmpN, this, if_true]; omega
  · omega
  · have := vcmp_lt (by decide) hb (fun j hj => (heq j hj).symm) hk h
    simp only [cmpN, this, if_true, Nat.lt_asymm this, if_false]; omega
end Go.Gx
namespace Go.Gx
theorem vb_take_pow {bs : List Nat} {k : Nat} (hb : ∀ d ∈ bs, d < 2) : vb 2 (bs.take k) < 2 ^ k := by
  have h := vb_lt (bs.take k) fun d hd => hb d (List.mem_of_mem_take hd)
  exact Nat.lt_of_lt_of_le h (Nat.pow_le_pow_right (by decide) (by simp; omega))
theorem word_step {s k : Nat} {D bs : List Nat} (hv : vb (2 ^ s) D = vb 2 (bs.take k)) (hb : ∀ d ∈ bs, d < 2) (hq : k / s < D.length) :
    D.getD (k / s) 0 < 2 ^ (k % s) ∧ vb (2 ^ s) (D.set (k / s) (D.getD (k / s) 0 + bs.getD k 0 * 2 ^ (k % s))) = vb 2 (bs.take (k + 1)) := by
  have h := setbit (x := bs.getD k 0) hv (vb_take_pow hb) hq
  rw [vb_getD]
  exact h
theorem to_step {k : Nat} {D bs : List Nat} (hv : val D = vb 2 (bs.take k)) (hb : ∀ d ∈ bs, d < 2) (hq : k / 32 < D.length) :
    D.getD (k / 32) 0 < 2 ^ (k % 32) ∧ val (D.set (k / 32) (D.getD (k / 32) 0 + bs.getD k 0 * 2 ^ (k % 32))) = vb 2 (bs.take (k + 1)) := by
  have h := word_step (s := 32) (k := k) (D := D) ((vb_val D).trans hv) hb hq
  exact ⟨h.1, (vb_val _).symm.trans h.2⟩
theorem bit_shift {bs : List Nat} {k s m : Nat} (hb : ∀ d ∈ bs, d < 2) (hs : k % s ≤ m) : bs.getD k 0 * 2 ^ (k % s) ≤ 2 ^ (k % s) ∧ 2 ^ (k % s) ≤ 2 ^ m := by
  have h1 := vgetD_lt (i := k) hb (by decide)
  refine ⟨?_, Nat.pow_le_pow_right (by decide) hs⟩
  have : bs.getD k 0 * 2 ^ (k % s) ≤ 1 * 2 ^ (k % s) := Nat.mul_le_mul_right _ (by omega)
  omega
theorem to_canon {D bs : List Nat} {k n : Nat} (hc : Canon isZ bs) (hl : bs.length = n) (hk : n ≤ k) (hD : ∀ d ∈ D, d < BS) (hL : D.length = (n + 31) / 32) (hv : val D = vb 2 (bs.take k)) : Canon isZ D := by
  refine canon_of_ge (B := 4294967296) hD ?_
  rcases Nat.eq_zero_or_pos n with h0 | h0
  · left; exact List.eq_nil_of_length_eq_zero (by omega)
  · right
    rw [vb_val, hv, vb_all bs (by omega)]
    have h1 := canon_ge (B := 2) hc (by intro e; rw [e] at hl; simp at hl; omega) (by decide)
    refine Nat.le_trans ?_ h1
    rw [show (4294967296 : Nat) = 2 ^ 32 from rfl, ← Nat.pow_mul]
    exact Nat.pow_le_pow_right (by decide) (by omega)
theorem mul15_le {x y : Nat} (hx : x < 32768) (hy : y < 32768) : x * y ≤ 1073676289 := by
  have := Nat.mul_le_mul (Nat.le_sub_one_of_lt hx) (Nat.le_sub_one_of_lt hy)
  simpa using this
theorem mulI64 {x y : Nat} (h : x * y ≤ 9223372036854775807) : IntKind.i64.wrap ((x : Int) * (y : Int)) = ((x * y : Nat) : Int) := by
  rw [← Int.natCast_mul]
  exact wI64 ⟨rfl, by omega, by omega⟩
theorem mid_zero {R Q : List Nat} {k t m : Nat} (hR : R.length = k) (hj : k = Q.length) (ht : t = k) : (R ++ Q.drop k ++ List.replicate m 0).getD t 0 = 0 := by
  subst ht
  rw [List.drop_of_length_le (by omega), List.append_nil]
  simp only [List.getD, List.getElem?_append_right (show R.length ≤ t by omega), List.getElem?_replicate]
  split <;> rfl
theorem bits_end {ds P : List Nat} {k n m : Nat} (h : ∀ d ∈ ds, d < 32768) (hl : ds.length = n) (hk : k = 15 * n) (hv : vb 2 P = vb 32768 ds % 2 ^ k) : vb 2 (P ++ List.replicate m 0) = vb 32768 ds := by
  rw [vb_fill, hv]
  refine Nat.mod_eq_of_lt ?_
  have := vb_lt ds h
  rw [hk, Nat.pow_mul, ← hl]
  exact this
theorem bits_bit {ds : List Nat} (h : ∀ d ∈ ds, d < 32768) (k : Nat) : ds.getD (k / 15) 0 / 2 ^ (k % 15) % 2 = vb 32768 ds / 2 ^ k % 2 := (vb_bit (s := 15) (by decide) h k).symm
theorem mul_end {a b : List Nat} {dr Q x y : List Nat} {i m : Nat} (hv : vb 2 dr = vb 32768 (Q ++ List.replicate m 0)) (hQ : vb 32768 Q = vb 32768 (x.take i) * vb 32768 y) (hx : x.length ≤ i) (ex : vb 32768 x = vb 2 a) (ey : vb 32768 y = vb 2 b) : vb 2 dr = vb 2 a * vb 2 b := by
  rw [hv, vb_fill, hQ, vb_all x hx, ex, ey]
theorem mul_nat_len {a b r : List Nat} {n m : Nat} (hc : Canon isZ r) (hv : vb 2 r = vb 2 a * vb 2 b) (ha : ∀ d ∈ a, d < 2) (hb : ∀ d ∈ b, d < 2) (la : a.length = n) (lb : b.length = m) : r.length ≤ n + m := by
  refine canon_len (B := 2) hc (by decide) ?_
  rw [hv, Nat.pow_add]
  have h1 := vb_lt a ha
  have h2 := vb_lt b hb
  rw [la] at h1
  rw [lb] at h2
  rcases Nat.eq_zero_or_pos (vb 2 b) with h0 | h0
  · rw [h0, Nat.mul_zero]; exact Nat.mul_pos (by omega) (by omega)
  · exact Nat.mul_lt_mul_of_lt_of_le h1 (by omega) (by omega)
end Go.Gx
