/-
  Digits: adding in place; Karatsuba's product. Plain numbers; no program in sight.
-/
import Derived.Test.YteiagkehhlpidaaNatMath
import Derived.Test.YteiagkehhlpidaaLaws2
namespace Go.Gx
theorem seg_get {U P Z : List Nat} {o k t : Nat} (hU : U.length = o) (hP : P.length = k) (hk : k < Z.length) (ht : t = o + k) : (U ++ (P ++ Z.drop k)).getD t 0 = Z.getD k 0 := by
  subst hU hP ht
  simp only [List.getD]
  rw [List.getElem?_append_right (by omega), Nat.add_sub_cancel_left, List.getElem?_append_right (Nat.le_refl _), Nat.sub_self, List.getElem?_drop, Nat.add_zero]
theorem seg_set {U P Z : List Nat} {o k t s : Nat} (hU : U.length = o) (hP : P.length = k) (hk : k < Z.length) (ht : t = o + k) : (U ++ (P ++ Z.drop k)).set t s = U ++ ((P ++ [s]) ++ Z.drop (k + 1)) := by
  subst hU hP ht
  rw [List.set_append_right _ _ (by omega), Nat.add_sub_cancel_left, List.set_append_right _ _ (Nat.le_refl _), Nat.sub_self, List.drop_eq_getElem_cons hk, List.set_cons_zero]
  simp
theorem lt_seg {U P Z : List Nat} {k : Nat} (h : ∀ d ∈ U ++ Z, d < BS) (hP : ∀ d ∈ P, d < BS) : ∀ d ∈ U ++ (P ++ Z.drop k), d < BS := by
  intro d hd
  rcases List.mem_append.1 hd with h1 | h1
  · exact h d (by simp [h1])
  · rcases List.mem_append.1 h1 with h2 | h2
    · exact hP d h2
    · exact h d (by simp [List.mem_of_mem_drop h2])
theorem addin_zero {P Z x : List Nat} {k n : Nat} (h : val P + BS ^ k * 0 = val (Z.take k) + val (x.take k)) (hP : P.length = k) (hZ : Z.length = n) (hk : k ≤ n) (hx : x.length ≤ k) : val (P ++ Z.drop k) + BS ^ n * 0 = val Z + val x := by
  rw [val_append, hP, val_split Z (k := k) (by omega)]
  rw [val_take_all x hx] at h
  omega
theorem addin_full {P Z x : List Nat} {k n c : Nat} (h : val P + BS ^ k * c = val (Z.take k) + val (x.take k)) (hP : P.length = k) (hZ : Z.length = n) (hk : k = n) (hx : x.length ≤ k) : val (P ++ Z.drop k) + BS ^ n * c = val Z + val x := by
  subst hk
  rw [List.drop_of_length_le (by omega), List.append_nil, h, val_take_all x hx, val_take_all Z (by omega)]
theorem quoI {a b z : Int} (ha : 0 ≤ a) (h : z = a / b ∧ -9223372036854775808 ≤ z ∧ z ≤ 9223372036854775807) : IntKind.i64.wrap (a.tdiv b) = z := by
  rw [Int.tdiv_eq_ediv_of_nonneg ha]
  exact wI64 ⟨h.1.symm, h.2.1, h.2.2⟩
theorem lt_val_len {a : List Nat} (ca : Canon isZ a) {k : Nat} (h : val a < BS ^ k) : a.length ≤ k := by
  rcases Nat.lt_or_ge k a.length with h1 | h1
  · rcases snoc_cases a with h0 | ⟨l, x, rfl⟩
    · subst h0; simp at h1
    · have hx : isZ x = false := canon_snoc.1 ca
      have h3 : x ≠ 0 := by intro e; subst e; simp [isZ] at hx
      rw [val_snoc] at h
      simp at h1
      have h2 : BS ^ k ≤ BS ^ l.length := Nat.pow_le_pow_right (by decide) (by omega)
      have h4 : BS ^ l.length * 1 ≤ BS ^ l.length * x := Nat.mul_le_mul_left _ (by omega)
      omega
  · exact h1
theorem mul_lt_pow {a b : List Nat} (ha : ∀ d ∈ a, d < BS) (hb : ∀ d ∈ b, d < BS) : val a * val b < BS ^ (a.length + b.length) := by
  rw [Nat.pow_add]
  exact Nat.mul_lt_mul'' (val_lt a ha) (val_lt b hb)
/-- z holds the low product; the high one is added from the half on. -/
theorem kara_short {a b lo hi r : List Nat} {h c n z : Nat} (ha : h ≤ a.length) (hlt : ∀ d ∈ a, d < BS) (hbt : ∀ d ∈ b, d < BS) (hn : n = a.length + b.length) (hlo : val lo = val (a.take h) * val b) (hhi : val hi = val (a.drop h) * val b)
    (hll : h ≤ lo.length) (hz : lo.length + z = n) (hr : r.length = n - h) (he : val r + BS ^ (n - h) * c = val ((lo ++ List.replicate z 0).drop h) + val hi) : val ((lo ++ List.replicate z 0).take h ++ r) = val a * val b := by
  have hlen : (lo ++ List.replicate z 0).length = n := by simp; omega
  have hs := val_split (lo ++ List.replicate z 0) (k := h) (by omega)
  rw [val_fill] at hs
  have hab : val a * val b = val lo + BS ^ h * val hi := by
    rw [val_split a ha, Nat.add_mul, hlo, hhi, Nat.mul_assoc]
  have hlt2 := mul_lt_pow hlt hbt
  rw [← hn] at hlt2
  rw [val_append, List.length_take, Nat.min_eq_left (by omega)]
  generalize val ((lo ++ List.replicate z 0).take h) = L at *
  generalize val ((lo ++ List.replicate z 0).drop h) = H at *
  have hp : BS ^ n = BS ^ h * BS ^ (n - h) := by rw [← Nat.pow_add]; congr 1; omega
  rcases Nat.eq_zero_or_pos c with h0 | h0
  · subst h0
    have : val r = H + val hi := by simpa using he
    rw [this, Nat.mul_add, hab]
    omega
  · exfalso
    have h1 : BS ^ (n - h) * 1 ≤ BS ^ (n - h) * c := Nat.mul_le_mul_left _ h0
    have h2 : BS ^ h * BS ^ (n - h) ≤ BS ^ h * (H + val hi) := Nat.mul_le_mul_left _ (by omega)
    rw [Nat.mul_add] at h2
    omega
theorem kara_mid {a0 a1 b0 b1 m s lo hi : Nat} (hm : m = (a0 + a1) * (b0 + b1)) (hlo : lo = a0 * b0) (hhi : hi = a1 * b1) (hs : s = m - (lo + hi)) : s = a0 * b1 + a1 * b0 := by
  subst hm hlo hhi
  rw [hs, Nat.add_mul, Nat.mul_add, Nat.mul_add]
  omega
theorem kara_le {a0 a1 b0 b1 : Nat} : a0 * b0 + a1 * b1 ≤ (a0 + a1) * (b0 + b1) := by
  rw [Nat.add_mul, Nat.mul_add, Nat.mul_add]; omega
theorem kara_sum {a b X a0 a1 b0 b1 : Nat} (ha : a = a0 + X * a1) (hb : b = b0 + X * b1) : a * b = a0 * b0 + X * (a0 * b1 + a1 * b0) + X * X * (a1 * b1) := by
  subst ha hb
  simp only [Nat.add_mul, Nat.mul_add, Nat.mul_assoc, Nat.mul_left_comm, Nat.mul_comm]
  omega
theorem kara_mid_lt {a b : List Nat} {h n m : Nat} (ha : h ≤ a.length) (hb : h ≤ b.length) (hlt : ∀ d ∈ a, d < BS) (hbt : ∀ d ∈ b, d < BS) (hn : n = a.length + b.length)
    (hm : m = val (a.take h) * val (b.drop h) + val (a.drop h) * val (b.take h)) : m < BS ^ (n - h) := by
  have h1 := kara_sum (val_split a ha) (val_split b hb)
  have h2 := mul_lt_pow hlt hbt
  rw [← hn, h1, ← hm] at h2
  have hp : BS ^ n = BS ^ h * BS ^ (n - h) := by rw [← Nat.pow_add]; congr 1; omega
  rw [hp] at h2
  rcases Nat.lt_or_ge m (BS ^ (n - h)) with h3 | h3
  · exact h3
  · exfalso
    have h4 : BS ^ h * BS ^ (n - h) ≤ BS ^ h * m := Nat.mul_le_mul_left _ h3
    omega
theorem kara_full {a b lo hi r : List Nat} {h c n m : Nat} (ha : h ≤ a.length) (hb : h ≤ b.length) (hlt : ∀ d ∈ a, d < BS) (hbt : ∀ d ∈ b, d < BS) (hn : n = a.length + b.length)
    (hlo : val lo = val (a.take h) * val (b.take h)) (hhi : val hi = val (a.drop h) * val (b.drop h)) (hm : m = val (a.take h) * val (b.drop h) + val (a.drop h) * val (b.take h))
    (hll : lo.length = h + h) (hhl : hi.length = n - (h + h)) (hr : r.length = n - h) (he : val r + BS ^ (n - h) * c = val ((lo ++ hi).drop h) + m) : val ((lo ++ hi).take h ++ r) = val a * val b := by
  have h2n : h + h ≤ n := by omega
  have hs := val_split (lo ++ hi) (k := h) (by simp; omega)
  rw [val_append, hll, Nat.pow_add] at hs
  have hab := kara_sum (val_split a ha) (val_split b hb)
  rw [← hm, ← hlo, ← hhi] at hab
  have hlt2 := mul_lt_pow hlt hbt
  rw [← hn] at hlt2
  rw [val_append, List.length_take, Nat.min_eq_left (by simp; omega)]
  generalize val ((lo ++ hi).take h) = L at *
  generalize val ((lo ++ hi).drop h) = H at *
  have hp : BS ^ n = BS ^ h * BS ^ (n - h) := by rw [← Nat.pow_add]; congr 1; omega
  rcases Nat.eq_zero_or_pos c with h0 | h0
  · subst h0
    have : val r = H + m := by simpa using he
    rw [this, Nat.mul_add, hab]
    omega
  · exfalso
    have h1 : BS ^ (n - h) * 1 ≤ BS ^ (n - h) * c := Nat.mul_le_mul_left _ h0
    have h2 : BS ^ h * BS ^ (n - h) ≤ BS ^ h * (H + m) := Nat.mul_le_mul_left _ (by omega)
    rw [Nat.mul_add] at h2
    omega
theorem copy_first {lo : List Nat} {n m : Nat} (h : lo.length = m) (hm : m ≤ n) : (List.replicate n 0).take 0 ++ lo ++ (List.replicate n 0).drop (0 + m) = lo ++ List.replicate (n - m) 0 := by
  simp
theorem copy_second {lo hi : List Nat} {k m t : Nat} (hk : lo.length = k) (hh : hi.length = m) (ht : t = k) : (lo ++ List.replicate m 0).take t ++ hi ++ (lo ++ List.replicate m 0).drop (t + m) = lo ++ hi := by
  subst ht hk hh
  simp
theorem lt_app {a b : List Nat} (ha : ∀ d ∈ a, d < BS) (hb : ∀ d ∈ b, d < BS) : ∀ d ∈ a ++ b, d < BS := by
  intro d hd
  rcases List.mem_append.1 hd with h | h
  · exact ha d h
  · exact hb d h
theorem lt_app_r {a b : List Nat} (h : ∀ d ∈ a ++ b, d < BS) : ∀ d ∈ b, d < BS := fun d hd => h d (by simp [hd])
theorem lt_take {a : List Nat} {k : Nat} (h : ∀ d ∈ a, d < BS) : ∀ d ∈ a.take k, d < BS := fun d hd => h d (List.mem_of_mem_take hd)
theorem zmul1 {a b : Nat} (h : a = 0) : a * b = 0 := by rw [h, Nat.zero_mul]
theorem zmul2 {a b : Nat} (h : b = 0) : a * b = 0 := by rw [h, Nat.mul_zero]
end Go.Gx
