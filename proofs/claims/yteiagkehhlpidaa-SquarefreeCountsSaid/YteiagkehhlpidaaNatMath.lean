/-
  Digits: sums, differences, products. Plain numbers; no program in sight.
-/
import Derived.Test.YteiagkehhlpidaaPreds
namespace Go.Gx
theorem dig_step {P : List Nat} {k c c' X x s : Nat} (h : val P + BS ^ k * c = X) (hl : P.length = k) (hs : s + BS * c' = x + c) : val (P ++ [s]) + BS ^ (k + 1) * c' = X + BS ^ k * x := by
  rw [val_snoc, hl, Nat.pow_succ, Nat.mul_assoc, Nat.add_assoc, ← Nat.mul_add, hs, Nat.mul_add, ← h]
  omega
theorem val_take_all (ds : List Nat) {k : Nat} (h : ds.length ≤ k) : val (ds.take k) = val ds := by rw [List.take_of_length_le h]
theorem add_step {P a b : List Nat} {k c c' s : Nat} (h : val P + BS ^ k * c = val (a.take k) + val (b.take k)) (hl : P.length = k) (hs : s + 4294967296 * c' = a.getD k 0 + b.getD k 0 + c) :
    val (P ++ [s]) + BS ^ (k + 1) * c' = val (a.take (k + 1)) + val (b.take (k + 1)) := by
  replace hs : s + BS * c' = a.getD k 0 + b.getD k 0 + c := hs
  rw [dig_step h hl hs, val_getD, val_getD, Nat.mul_add]
  omega
theorem lt_snoc {P : List Nat} {s : Nat} (h : ∀ d ∈ P, d < BS) (hs : s < 4294967296) : ∀ d ∈ P ++ [s], d < BS := by
  intro d hd
  rcases List.mem_append.1 hd with h1 | h1
  · exact h d h1
  · simp at h1; subst h1; exact hs
theorem lt_fill {P : List Nat} {m : Nat} (h : ∀ d ∈ P, d < BS) : ∀ d ∈ P ++ List.replicate m 0, d < BS := by
  intro d hd
  rcases List.mem_append.1 hd with h1 | h1
  · exact h d h1
  · have := List.eq_of_mem_replicate h1; subst this; decide
theorem add_end {P a b : List Nat} {c : Nat} {n : Nat} (h : val P + BS ^ n * c = val (a.take n) + val (b.take n)) (hl : P.length = n) (ha : a.length ≤ n) (hb : b.length ≤ n) : val (P ++ [c]) = val a + val b := by
  rw [val_snoc, hl, h, val_take_all a ha, val_take_all b hb]
theorem sub_step {P a b : List Nat} {k c c' s : Nat} (h : val P + val (b.take k) = val (a.take k) + BS ^ k * c) (hl : P.length = k) (hs : s + b.getD k 0 + c = a.getD k 0 + 4294967296 * c') :
    val (P ++ [s]) + val (b.take (k + 1)) = val (a.take (k + 1)) + BS ^ (k + 1) * c' := by
  replace hs : s + b.getD k 0 + c = a.getD k 0 + BS * c' := hs
  rw [val_snoc, hl, val_getD, val_getD, Nat.pow_succ, Nat.mul_assoc]
  have e : BS ^ k * (s + b.getD k 0 + c) = BS ^ k * (a.getD k 0 + BS * c') := by rw [hs]
  rw [Nat.mul_add, Nat.mul_add, Nat.mul_add] at e
  omega
theorem sub_end {P a b : List Nat} {c n : Nat} (h : val P + val (b.take n) = val (a.take n) + BS ^ n * c) (hl : P.length = n) (hlt : ∀ d ∈ P, d < BS) (ha : a.length ≤ n) (hb : b.length ≤ n) (hle : val b ≤ val a) : val P = val a - val b := by
  rw [val_take_all a ha, val_take_all b hb] at h
  have h1 := val_lt P hlt
  rw [hl] at h1
  rcases Nat.eq_zero_or_pos c with h0 | h0
  · subst h0; simp at h; omega
  · have : BS ^ n * 1 ≤ BS ^ n * c := Nat.mul_le_mul_left _ h0
    omega
theorem fill_set2 {P : List Nat} {m m' k s : Nat} (hk : P.length = k) (hm : m = m' + 1) : (P ++ List.replicate m 0).set k s = (P ++ [s]) ++ List.replicate m' 0 := by
  subst hk hm
  rw [fill_set P (m' + 1) s (by omega)]
  simp
theorem last_set {P : List Nat} {m k s : Nat} (hk : P.length = k) (hm : m = 1) : (P ++ List.replicate m 0).set k s = P ++ [s] := by
  subst hm
  rw [fill_set2 (m' := 0) hk rfl]; simp
theorem mul32_le {x y : Nat} (hx : x < 4294967296) (hy : y < 4294967296) : x * y ≤ 18446744065119617025 := by
  have := Nat.mul_le_mul (Nat.le_sub_one_of_lt hx) (Nat.le_sub_one_of_lt hy)
  simpa using this
theorem mulU64 {x y : Nat} (h : x * y ≤ 18446744065119617025) : IntKind.u64.wrap ((x : Int) * (y : Int)) = ((x * y : Nat) : Int) := by
  rw [← Int.natCast_mul]
  exact wU64 (by omega)
theorem of_val {x : Nat} {d : List Nat} (e : d = trimN [x % 4294967296, x / 4294967296 % 4294967296]) (h : x < 18446744073709551616) : val d = x := by
  rw [e, val_trim]
  simp only [val, BS]
  omega
theorem add_fin {r D a b a' b' : List Nat} {X : Nat} (e : r = trimN D) (h : val D = val a' + val b') (ea : a' = trimN a) (eb : b' = trimN b) (hX : val a + val b = X) : val r = X := by
  rw [e, val_trim, h, ea, eb, val_trim, val_trim, hX]
def cmpN (a b : Nat) : Int := if a < b then -1 else if b < a then 1 else 0
theorem getD_ext {a b : List Nat} (hl : a.length = b.length) (h : ∀ j, a.getD j 0 = b.getD j 0) : a = b := by
  apply List.ext_getElem hl
  intro i h1 h2
  have := h i
  simpa [List.getD, h1, h2] using this
theorem val_split (a : List Nat) {k : Nat} (hk : k ≤ a.length) : val a = val (a.take k) + BS ^ k * val (a.drop k) := by
  have := val_append (a.take k) (a.drop k)
  rw [List.take_append_drop, List.length_take, Nat.min_eq_left hk] at this
  exact this
theorem val_lt_top {a b : List Nat} {k : Nat} (hl : a.length = b.length) (ha : ∀ d ∈ a, d < BS) (heq : ∀ j, k ≤ j → a.getD j 0 = b.getD j 0) (hk : 0 < k) (hkl : k ≤ a.length) (hlt : a.getD (k - 1) 0 < b.getD (k - 1) 0) : val a < val b := by
  obtain ⟨i, rfl⟩ : ∃ i, k = i + 1 := ⟨k - 1, by omega⟩
  simp only [Nat.add_sub_cancel] at hlt
  have hd : a.drop (i + 1) = b.drop (i + 1) := by
    apply getD_ext (by simp [hl])
    intro j
    have := heq (i + 1 + j) (by omega)
    simpa [List.getD, List.getElem?_drop] using this
  rw [val_split a hkl, val_split b (k := i + 1) (by omega), hd, val_getD, val_getD]
  have h1 : val (a.take i) < BS ^ (a.take i).length := val_lt _ fun d hd => ha d (List.mem_of_mem_take hd)
  rw [List.length_take, Nat.min_eq_left (by omega)] at h1
  have h2 : BS ^ i * (a.getD i 0 + 1) ≤ BS ^ i * b.getD i 0 := Nat.mul_le_mul_left _ hlt
  rw [Nat.mul_add, Nat.mul_one] at h2
  omega
theorem canon_len_lt {a b : List Nat} (ha : ∀ d ∈ a, d < BS) (hb : Canon isZ b) (h : a.length < b.length) : val a < val b := by
  rcases snoc_cases b with h0 | ⟨k, x, rfl⟩
  · subst h0; simp at h
  · have hx : isZ x = false := canon_snoc.1 hb
    have h1 := val_lt a ha
    rw [val_snoc]
    simp at h
    have h2 : BS ^ a.length ≤ BS ^ k.length := Nat.pow_le_pow_right (by decide) (by omega)
    have h3 : x ≠ 0 := by intro e; subst e; simp [isZ] at hx
    have h4 : BS ^ k.length * 1 ≤ BS ^ k.length * x := Nat.mul_le_mul_left _ (by omega)
    omega
theorem cmp_lt {a b a' b' : List Nat} (ea : a' = trimN a) (eb : b' = trimN b) (h : val a' < val b') : (-1 : Int) = cmpN (val a) (val b) := by
  rw [ea, eb, val_trim, val_trim] at h
  simp [cmpN, h]
theorem cmp_gt {a b a' b' : List Nat} (ea : a' = trimN a) (eb : b' = trimN b) (h : val b' < val a') : (1 : Int) = cmpN (val a) (val b) := by
  rw [ea, eb, val_trim, val_trim] at h
  simp [cmpN, h, Nat.lt_asymm h]
theorem cmp_eq {a b a' b' : List Nat} (ea : a' = trimN a) (eb : b' = trimN b) (h : a' = b') : (0 : Int) = cmpN (val a) (val b) := by
  have : val a = val b := by rw [← val_trim a, ← val_trim b, ← ea, ← eb, h]
  simp [cmpN, this]
theorem eq_down {a b : List Nat} {k : Nat} (h : ∀ j, k ≤ j → a.getD j 0 = b.getD j 0) (h1 : a.getD (k - 1) 0 = b.getD (k - 1) 0) : ∀ j, k - 1 ≤ j → a.getD j 0 = b.getD j 0 := by
  intro j hj
  rcases Nat.lt_or_ge j k with hl | hl
  · have : j = k - 1 := by omega
    subst this; exact h1
  · exact h j hl
theorem eq_top {a b : List Nat} {n : Nat} (ha : a.length ≤ n) (hb : b.length ≤ n) : ∀ j, n ≤ j → a.getD j 0 = b.getD j 0 := by
  intro j hj
  rw [getD_ge ha j hj, getD_ge hb j hj]
theorem canon_val_inj {a b : List Nat} (ha : ∀ d ∈ a, d < BS) (hb : ∀ d ∈ b, d < BS) (ca : Canon isZ a) (cb : Canon isZ b) (h : val a = val b) : a = b := by
  have hl : a.length = b.length := by
    rcases Nat.lt_trichotomy a.length b.length with h1 | h1 | h1
    · have := canon_len_lt ha cb h1; omega
    · exact h1
    · have := canon_len_lt hb ca h1; omega
  clear ca cb
  induction a generalizing b with
  | nil => cases b with | nil => rfl | cons x b => simp at hl
  | cons d a ih =>
    cases b with
    | nil => simp at hl
    | cons x b =>
      simp only [val] at h
      have h1 : d < 4294967296 := ha d (by simp)
      have h2 : x < 4294967296 := hb x (by simp)
      have h3 : d + 4294967296 * val a = x + 4294967296 * val b := h
      have e1 : d = x := by omega
      subst e1
      have e2 := ih (b := b) (fun y hy => ha y (by simp [hy])) (fun y hy => hb y (by simp [hy])) (by omega) (by simpa using hl)
      rw [e2]
theorem cmpN_neg {x : Int} {a b : Nat} (e : x = cmpN a b) (h : x < 0) : a < b := by
  unfold cmpN at e
  split at e
  · assumption
  · split at e <;> omega
theorem cmpN_nn {x : Int} {a b : Nat} (e : x = cmpN a b) (h : ¬ x < 0) : b ≤ a := by
  unfold cmpN at e
  split at e
  · omega
  · omega
theorem canon_len_le {a b : List Nat} (ha : ∀ d ∈ a, d < BS) (hb : Canon isZ b) (h : val b ≤ val a) : b.length ≤ a.length := by
  rcases Nat.lt_or_ge a.length b.length with h1 | h1
  · have := canon_len_lt ha hb h1; omega
  · exact h1
theorem val_fill (P : List Nat) (m : Nat) : val (P ++ List.replicate m 0) = val P := by
  induction m with
  | zero => simp
  | succ m ih =>
    rw [List.replicate_succ', ← List.append_assoc, val_snoc_zero, ih]
theorem sub_fin {r P a b a' b' : List Nat} {m c n : Nat} (e : r = trimN (P ++ List.replicate m 0)) (h : val P + val (b'.take n) = val (a'.take n) + BS ^ n * c) (hl : P.length = n) (hlt : ∀ d ∈ P, d < BS) (ha : a'.length ≤ n) (hb : b'.length ≤ n) (hle : val b' ≤ val a')
    (ea : a' = trimN a) (eb : b' = trimN b) : val r = val a - val b := by
  rw [e, val_trim, val_fill, sub_end h hl hlt ha hb hle, ea, eb, val_trim, val_trim]
theorem le_trims {a b a' b' : List Nat} (ea : a' = trimN a) (eb : b' = trimN b) (h : val b' ≤ val a') : val b ≤ val a := by
  rw [ea, eb, val_trim, val_trim] at h; exact h
theorem lt_trims {a b a' b' : List Nat} (ea : a' = trimN a) (eb : b' = trimN b) (h : val a' < val b') : val a < val b := by
  rw [ea, eb, val_trim, val_trim] at h; exact h

/-! products -/
theorem mid_get {R Q Z : List Nat} {k : Nat} (hR : R.length = k) (hk : k < Q.length) : (R ++ Q.drop k ++ Z).getD k 0 = Q.getD k 0 := by
  subst hR
  simp only [List.getD, List.append_assoc]
  rw [List.getElem?_append_right (Nat.le_refl _), Nat.sub_self, List.getElem?_append_left (by simp; omega), List.getElem?_drop]
  simp
theorem mid_set {R Q Z : List Nat} {k s : Nat} (hR : R.length = k) (hk : k < Q.length) : (R ++ Q.drop k ++ Z).set k s = (R ++ [s]) ++ Q.drop (k + 1) ++ Z := by
  subst hR
  rw [List.append_assoc, List.set_append_right _ _ (Nat.le_refl _), Nat.sub_self, List.drop_eq_getElem_cons hk, List.cons_append, List.set_cons_zero]
  simp
theorem mul_step {R Q b : List Nat} {i j c c' x s : Nat} (h : val R + BS ^ (i + j) * c = val (Q.take (i + j)) + BS ^ i * (x * val (b.take j))) (hR : R.length = i + j) (hs : s + 4294967296 * c' = Q.getD (i + j) 0 + x * b.getD j 0 + c) :
    val (R ++ [s]) + BS ^ (i + j + 1) * c' = val (Q.take (i + j + 1)) + BS ^ i * (x * val (b.take (j + 1))) := by
  have e := dig_step (x := Q.getD (i + j) 0 + x * b.getD j 0) h hR (by rw [show BS * c' = 4294967296 * c' from rfl]; omega)
  rw [e, val_getD, val_getD, Nat.mul_add, Nat.mul_add x, Nat.mul_add (BS ^ i)]
  have e2 : BS ^ (i + j) * (x * b.getD j 0) = BS ^ i * (x * (BS ^ j * b.getD j 0)) := by
    rw [Nat.pow_add]
    rw [Nat.mul_assoc, Nat.mul_left_comm (BS ^ j) x]
  omega
theorem mul_carry {q x y c s c' : Nat} (hq : q < 4294967296) (hx : x < 4294967296) (hy : y < 4294967296) (hc : c < 4294967296) (h : s + 4294967296 * c' = q + x * y + c) : c' < 4294967296 := by
  have := mul32_le hx hy
  omega
theorem mul_row {R Q a b : List Nat} {i nb c : Nat} (h : val R + BS ^ (i + nb) * c = val (Q.take (i + nb)) + BS ^ i * (a.getD i 0 * val (b.take nb))) (hR : R.length = i + nb) (hQ : Q.length ≤ i + nb) (hb : b.length ≤ nb) (hv : val Q = val (a.take i) * val b) :
    val (R ++ [c]) = val (a.take (i + 1)) * val b := by
  rw [val_snoc, hR, h, val_take_all Q hQ, val_take_all b hb, hv, val_getD, Nat.add_mul, Nat.mul_assoc]
theorem mul_skip {Q a b : List Nat} {i : Nat} (hx : a.getD i 0 = 0) (hv : val Q = val (a.take i) * val b) : val (Q ++ [0]) = val (a.take (i + 1)) * val b := by
  rw [val_snoc_zero, hv, val_getD, hx]; simp
theorem app_take {Q Z : List Nat} {k : Nat} (h : Q.length ≤ k) : (Q.take k ++ Q.drop k) ++ Z = Q ++ Z := by rw [List.take_append_drop]
theorem lt_mid {R Q : List Nat} {k m : Nat} (hR : ∀ d ∈ R, d < BS) (hQ : ∀ d ∈ Q, d < BS) : ∀ d ∈ R ++ Q.drop k ++ List.replicate m 0, d < BS := by
  intro d hd
  rcases List.mem_append.1 hd with h1 | h1
  · rcases List.mem_append.1 h1 with h2 | h2
    · exact hR d h2
    · exact hQ d (List.mem_of_mem_drop h2)
  · have := List.eq_of_mem_replicate h1; subst this; decide
theorem rep_cons {m m' : Nat} (h : m = m' + 1) : ([0] : List Nat) ++ List.replicate m' 0 = List.replicate m 0 := by subst h; rfl
theorem val_zeros (m : Nat) : val (List.replicate m 0) = 0 := by
  have := val_fill [] m
  simpa [val] using this
theorem row_end {R Q : List Nat} {k t m m' s : Nat} (hR : R.length = k) (hj : k = Q.length) (ht : t = k) (hm : m = m' + 1) : (R ++ Q.drop k ++ List.replicate m 0).set t s = (R ++ [s]) ++ List.replicate m' 0 := by
  subst ht
  rw [List.drop_of_length_le (by omega), List.append_nil]
  exact fill_set2 hR hm
end Go.Gx
