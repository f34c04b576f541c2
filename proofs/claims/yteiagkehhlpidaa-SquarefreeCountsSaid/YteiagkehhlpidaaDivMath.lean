/-
  Division of digits. Plain numbers; no program in sight.
-/
import Derived.Test.YteiagkehhlpidaaLaws3
import Derived.Test.YteiagkehhlpidaaNatMath2
namespace Go.Gx
theorem wU8 {x z : Int} (h : x = z ∧ 0 ≤ z ∧ z < 256) : IntKind.u8.wrap x = z := by
  obtain ⟨rfl, h1, h2⟩ := h
  simp only [IntKind.wrap, IntKind.bits, IntKind.signed]
  simp
  omega
theorem div32_lt {x y z : Nat} (h : x < z) (hy : y < 4294967296) : (x * 4294967296 + y) / z < 4294967296 := by
  refine Nat.div_lt_of_lt_mul ?_
  have : (x + 1) * 4294967296 ≤ z * 4294967296 := Nat.mul_le_mul_right _ h
  omega
theorem div32_e {X z q m : Nat} (hz : 0 < z) (hzz : z < 4294967296) (hq : X / z < 4294967296) (eq : q = X / z % 4294967296) (em : m = X % z % 4294967296) : q * z + m = X ∧ m < z := by
  have h1 := Nat.mod_lt X hz
  rw [Nat.mod_eq_of_lt hq] at eq
  rw [Nat.mod_eq_of_lt (by omega)] at em
  subst eq em
  refine ⟨?_, h1⟩
  have := Nat.div_add_mod X z
  rw [Nat.mul_comm] at this
  exact this
theorem bl8_spec {x : Nat} (h : x < 256) : x < 2 ^ bl8 x ∧ (x = 0 ∨ 2 ^ (bl8 x - 1) ≤ x) ∧ bl8 x ≤ 8 ∧ (x = 0 ∨ 1 ≤ bl8 x) := by
  unfold bl8
  repeat' split
  all_goals simp
  all_goals omega
theorem len_sh {x s y n : Nat} (hy : y = x / 2 ^ s) (hlt : y < 256) (h0 : s = 0 ∨ y ≠ 0) (hn : n = s + bl8 y) : x < 2 ^ n ∧ (x = 0 ∨ 2 ^ (n - 1) ≤ x) ∧ n ≤ s + 8 := by
  obtain ⟨h1, h2, h3, h4⟩ := bl8_spec hlt
  subst hn
  refine ⟨?_, ?_, by omega⟩
  · rw [Nat.pow_add]
    have : x / 2 ^ s < 2 ^ bl8 y := by rw [← hy]; exact h1
    have h5 := (Nat.div_lt_iff_lt_mul (Nat.pow_pos (by decide))).1 this
    rw [Nat.mul_comm]
    exact h5
  · rcases h2 with h2 | h2
    · rcases h0 with h0 | h0
      · subst h0
        left
        rw [h2] at hy
        simpa using hy.symm
      · exact absurd h2 h0
    · right
      have hb : 1 ≤ bl8 y := by
        rcases h4 with h4 | h4
        · rw [h4] at h2; simp [bl8] at h2
        · exact h4
      have e : 2 ^ (s + bl8 y - 1) = 2 ^ (bl8 y - 1) * 2 ^ s := by rw [← Nat.pow_add]; congr 1; omega
      rw [e]
      have h5 : 2 ^ (bl8 y - 1) ≤ x / 2 ^ s := by rw [← hy]; exact h2
      exact (Nat.le_div_iff_mul_le (Nat.pow_pos (by decide))).1 h5
theorem lead_zeros {x n r : Nat} (h0 : x ≠ 0) (h1 : x < 2 ^ n) (h2 : x = 0 ∨ 2 ^ (n - 1) ≤ x) (h3 : n ≤ 32) (hr : r = 32 - n) : x * 2 ^ r < 4294967296 ∧ 2147483648 ≤ x * 2 ^ r ∧ r ≤ 31 := by
  have hn : 1 ≤ n := by
    rcases Nat.eq_zero_or_pos n with h | h
    · subst h; simp at h1; omega
    · exact h
  have h4 : 2 ^ (n - 1) ≤ x := by rcases h2 with h | h; exact absurd h h0; exact h
  have e1 : (4294967296 : Nat) = 2 ^ n * 2 ^ r := by rw [← Nat.pow_add, hr, show n + (32 - n) = 32 by omega]
  have e2 : (2147483648 : Nat) = 2 ^ (n - 1) * 2 ^ r := by rw [← Nat.pow_add, hr, show n - 1 + (32 - n) = 31 by omega]
  refine ⟨?_, ?_, by omega⟩
  · rw [e1]; exact Nat.mul_lt_mul_of_pos_right h1 (Nat.pow_pos (by decide))
  · rw [e2]; exact Nat.mul_le_mul_right _ h4
theorem val2 {d : List Nat} {n : Nat} (hl : d.length = n) : (n = 0 → val d = 0) ∧ (n = 1 → val d = d.getD 0 0) ∧ (n = 2 → val d = d.getD 1 0 * 4294967296 + d.getD 0 0) := by
  match d, hl with
  | [], h => simp at h; subst h; simp [val]
  | [a], h => simp at h; subst h; simp [val]
  | [a, b], h => simp at h; subst h; simp [val, BS]; omega
  | a :: b :: c :: d, h => simp at h; refine ⟨by omega, by omega, by omega⟩
theorem drop_val {a : List Nat} {k : Nat} (hk : 0 < k) (hl : k ≤ a.length) : val (a.drop (k - 1)) = a.getD (k - 1) 0 + 4294967296 * val (a.drop k) := by
  rw [List.drop_eq_getElem_cons (show k - 1 < a.length by omega), show k - 1 + 1 = k by omega]
  simp [val, List.getD, show k - 1 < a.length by omega]
theorem divs_step {a Q : List Nat} {k d r q r' : Nat} (hk : 0 < k) (hl : k ≤ a.length) (h : val (a.drop k) = d * val Q + r) (he : q * d + r' = r * 4294967296 + a.getD (k - 1) 0) : val (a.drop (k - 1)) = d * val (q :: Q) + r' := by
  rw [drop_val hk hl, h]
  simp only [val]
  rw [Nat.mul_add, Nat.mul_add]
  have e1 : d * (BS * val Q) = 4294967296 * (d * val Q) := by rw [Nat.mul_left_comm]
  rw [e1]
  have e2 : q * d = d * q := Nat.mul_comm _ _
  omega
theorem revN_set {L : List Nat} {m m' k r : Nat} (hm : m = m' + 1) (hk : k = m') : (List.replicate m 0 ++ L).set k r = List.replicate m' 0 ++ (r :: L) := by
  subst hm hk
  rw [List.replicate_succ', List.append_assoc, List.set_append_right _ _ (by simp)]
  simp
theorem lt_revfill {P : List Nat} {m : Nat} (h : ∀ d ∈ P, d < BS) : ∀ d ∈ List.replicate m 0 ++ P, d < BS := by
  intro d hd
  rcases List.mem_append.1 hd with h1 | h1
  · have := List.eq_of_mem_replicate h1; subst this; decide
  · exact h d h1
theorem lt_cons {P : List Nat} {s : Nat} (h : ∀ d ∈ P, d < BS) (hs : s < 4294967296) : ∀ d ∈ s :: P, d < BS := by
  intro d hd
  rcases List.mem_cons.1 hd with h1 | h1
  · subst h1; exact hs
  · exact h d h1
end Go.Gx
namespace Go.Gx
/-! the digit of a quotient -/
def estU (a b c : Nat) : Nat := (a * 4294967296 + b) * 4294967296 + c
def estV (d e : Nat) : Nat := d * 4294967296 + e
theorem est_mul (g d e : Nat) : g * estV d e = g * d * 4294967296 + g * e := by unfold estV; rw [Nat.mul_add, Nat.mul_assoc]
/-- The digit and what is left, before the test. -/
def EstI (a b d g r : Nat) : Prop := g * d + r = a * 4294967296 + b
theorem EstI.start1 {a b d s c : Nat} (ha : a = d) (hs : s + 4294967296 * c = b + d) : EstI a b d 4294967295 (s + 4294967296 * c) := by
  unfold EstI; subst ha; omega
theorem EstI.start2 {a b d q r : Nat} (h : q * d + r = a * 4294967296 + b) : EstI a b d q (r + 4294967296 * 0) := by unfold EstI; omega
theorem EstI.next {a b d g r s c : Nat} (h : EstI a b d g r) (hg : 0 < g) (hs : s + 4294967296 * c = r + d) : EstI a b d (g - 1) (s + 4294967296 * c) := by
  unfold EstI at *
  obtain ⟨j, rfl⟩ : ∃ j, g = j + 1 := ⟨g - 1, by omega⟩
  rw [Nat.add_mul, Nat.one_mul] at h
  simp only [Nat.add_sub_cancel]
  omega
theorem EstI.big {a b d g r : Nat} (h : EstI a b d g r) : (a * 4294967296 + b) * 4294967296 = g * d * 4294967296 + r * 4294967296 := by
  unfold EstI at h
  omega
theorem est_ok {a b c d e g r : Nat} (h : EstI a b d g r) (hle : g * e ≤ r * 4294967296 + c) : g * estV d e ≤ estU a b c := by
  have e := EstI.big h
  rw [est_mul]
  unfold estU
  omega
theorem est_over {a b c d e g s : Nat} (h : EstI a b d g (s + 4294967296 * 1)) (hg : g < 4294967296) (he : e < 4294967296) : g * estV d e ≤ estU a b c := by
  have h1 := mul32_le hg he
  have h2 : g * e ≤ (s + 4294967296 * 1) * 4294967296 + c := by omega
  exact est_ok h h2
theorem est_no {a b c d e g r : Nat} (h : EstI a b d g r) (hgt : r * 4294967296 + c < g * e) : estU a b c < g * estV d e := by
  have hb := EstI.big h
  rw [est_mul]
  unfold estU
  rw [hb, Nat.add_assoc]
  exact Nat.add_lt_add_left hgt _
/-- No greater digit fits. -/
def EstM (a b c d e g : Nat) : Prop := ∀ q, q ≤ 4294967295 → q * estV d e ≤ estU a b c → q ≤ g
theorem EstM.start1 (a b c d e : Nat) : EstM a b c d e 4294967295 := fun _ h _ => h
theorem EstM.start2 {a b c d e q r : Nat} (h : q * d + r = a * 4294967296 + b) (hr : r < d) (hc : c < 4294967296) : EstM a b c d e q := by
  intro p _ hp
  rw [est_mul] at hp
  unfold estU at hp
  rcases Nat.lt_or_ge q p with h1 | h1
  · exfalso
    have h2 : (q + 1) * d ≤ p * d := Nat.mul_le_mul_right _ h1
    rw [Nat.add_mul, Nat.one_mul] at h2
    omega
  · exact h1
theorem EstM.next {a b c d e g : Nat} (h : EstM a b c d e g) (hn : estU a b c < g * estV d e) : EstM a b c d e (g - 1) := by
  intro q hq hp
  have h1 := h q hq hp
  rcases Nat.eq_or_lt_of_le h1 with h2 | h2
  · subst h2; omega
  · omega
theorem est_pos {a b c d e g : Nat} (hn : estU a b c < g * estV d e) : 0 < g := by
  rcases Nat.eq_zero_or_pos g with h | h
  · subst h; simp at hn
  · exact h
theorem est_test {g e h l r c : Nat} (hm : l + 4294967296 * h = g * e) (hl : l < 4294967296) (hc : c < 4294967296) : ((h < r ∨ h = r ∧ l ≤ c) → g * e ≤ r * 4294967296 + c) ∧ (¬ (h < r ∨ h = r ∧ l ≤ c) → r * 4294967296 + c < g * e) := by
  constructor <;> intro hh <;> omega
/-! parts of digits -/
theorem sm_step {P Z v : List Nat} {k d bo cy bo' cy' s : Nat} (h : val P + d * val (v.take k) = val (Z.take k) + BS ^ k * (bo + cy)) (hl : P.length = k) (hs : bo + cy + s + d * v.getD k 0 = Z.getD k 0 + 4294967296 * (bo' + cy')) :
    val (P ++ [s]) + d * val (v.take (k + 1)) = val (Z.take (k + 1)) + BS ^ (k + 1) * (bo' + cy') := by
  rw [val_snoc, hl, val_getD, val_getD, Nat.mul_add d, Nat.pow_succ, Nat.mul_assoc]
  have e1 : d * (BS ^ k * v.getD k 0) = BS ^ k * (d * v.getD k 0) := Nat.mul_left_comm _ _ _
  have e2 : BS ^ k * (bo + cy + s + d * v.getD k 0) = BS ^ k * (Z.getD k 0 + BS * (bo' + cy')) := by rw [hs]
  rw [Nat.mul_add, Nat.mul_add (BS ^ k) (bo + cy), Nat.mul_add (BS ^ k) (Z.getD k 0)] at e2
  rw [e1]
  omega
theorem sm_last {P Z v : List Nat} {k d bo cy bo' s : Nat} (h : val P + d * val (v.take k) = val (Z.take k) + BS ^ k * (bo + cy)) (hl : P.length = k) (hv : v.length ≤ k) (hs : bo + cy + s = Z.getD k 0 + 4294967296 * bo') :
    val (P ++ [s]) + d * val v = val (Z.take (k + 1)) + BS ^ (k + 1) * bo' := by
  have h0 : v.getD k 0 = 0 := getD_ge (n := k) hv k (Nat.le_refl _)
  have := sm_step (bo' := bo') (cy' := 0) h hl (by rw [h0]; omega)
  rw [List.take_of_length_le (show v.length ≤ k + 1 by omega)] at this
  simpa using this
end Go.Gx
namespace Go.Gx
theorem part_take {P Z : List Nat} {s k : Nat} (h : P.length = k) : ((P ++ [s]) ++ Z.drop (k + 1)).take (k + 1) = P ++ [s] := by
  rw [List.take_append_of_le_length (by simp [h])]
  rw [List.take_of_length_le (by simp [h])]
theorem part_drop {P Z : List Nat} {s k : Nat} (h : P.length = k) : ((P ++ [s]) ++ Z.drop (k + 1)).drop (k + 1) = Z.drop (k + 1) := by
  rw [List.drop_append_of_le_length (by simp [h]), List.drop_of_length_le (by simp [h])]; rfl
theorem natne (x : Nat) : decide (((x : Nat) : Int) ≠ 0) = decide (x ≠ 0) := by
  by_cases h : x = 0 <;> simp [h]
end Go.Gx
namespace Go.Gx
theorem est_ok0 {a b c d e g r o h l : Nat} (hI : EstI a b d g (r + 4294967296 * o)) (ho : o = 0) (hm : l + 4294967296 * h = g * e) (hl : l < 4294967296) (hc : c < 4294967296) (ht : h < r ∨ h = r ∧ l ≤ c) : g * estV d e ≤ estU a b c := by
  subst ho
  simp only [Nat.mul_zero, Nat.add_zero] at hI
  exact est_ok hI ((est_test hm hl hc).1 ht)
theorem est_no0 {a b c d e g r o h l : Nat} (hI : EstI a b d g (r + 4294967296 * o)) (ho : o = 0) (hm : l + 4294967296 * h = g * e) (hl : l < 4294967296) (hc : c < 4294967296) (ht : ¬ (h < r ∨ h = r ∧ l ≤ c)) : estU a b c < g * estV d e := by
  subst ho
  simp only [Nat.mul_zero, Nat.add_zero] at hI
  exact est_no hI ((est_test hm hl hc).2 ht)
theorem est_over1 {a b c d e g s o : Nat} (h : EstI a b d g (s + 4294967296 * o)) (ho : o = 1) (hg : g < 4294967296) (he : e < 4294967296) : g * estV d e ≤ estU a b c := by
  subst ho; exact est_over h hg he
theorem EstI.next0 {a b d g r s c o : Nat} (h : EstI a b d g (r + 4294967296 * o)) (ho : o = 0) (hg : 0 < g) (hs : s + 4294967296 * c = r + d) : EstI a b d (g - 1) (s + 4294967296 * c) := by
  subst ho
  simp only [Nat.mul_zero, Nat.add_zero] at h
  exact h.next hg hs
end Go.Gx
namespace Go.Gx
/-! shifts -/
theorem low_mul {x s : Nat} (hs : s ≤ 31) : x * 2 ^ s % 4294967296 = 2 ^ s * (x % 2 ^ (32 - s)) := by
  have e : (4294967296 : Nat) = 2 ^ s * 2 ^ (32 - s) := by rw [← Nat.pow_add, show s + (32 - s) = 32 by omega]
  rw [e, Nat.mul_comm x, Nat.mul_mod_mul_left]
theorem shl_parts {x s c : Nat} (hx : x < 4294967296) (hs : s ≤ 31) (hc : c < 2 ^ s) :
    x * 2 ^ s < 9223372036854775808 ∧ c ||| x * 2 ^ s % 4294967296 = c + x * 2 ^ s % 4294967296 ∧ c + x * 2 ^ s % 4294967296 < 4294967296 ∧ x * 2 ^ s / 4294967296 < 2 ^ s ∧ 2 ^ s ≤ 2147483648 := by
  have hp : (2 : Nat) ^ s ≤ 2147483648 := Nat.pow_le_pow_right (by decide) hs
  have h0 : 0 < (2 : Nat) ^ s := Nat.pow_pos (by decide)
  have h1 : x * 2 ^ s ≤ 4294967295 * 2147483648 := Nat.mul_le_mul (by omega) hp
  refine ⟨by omega, ?_, ?_, ?_, hp⟩
  · rw [low_mul hs, Nat.or_comm, or_nat _ _ _ hc, Nat.add_comm]
  · rw [low_mul hs]
    have e : (4294967296 : Nat) = 2 ^ s * 2 ^ (32 - s) := by rw [← Nat.pow_add, show s + (32 - s) = 32 by omega]
    have h2 : x % 2 ^ (32 - s) < 2 ^ (32 - s) := Nat.mod_lt _ (Nat.pow_pos (by decide))
    have h3 : 2 ^ s * (x % 2 ^ (32 - s) + 1) ≤ 2 ^ s * 2 ^ (32 - s) := Nat.mul_le_mul_left _ h2
    rw [← e, Nat.mul_add, Nat.mul_one] at h3
    omega
  · refine Nat.div_lt_of_lt_mul ?_
    exact Nat.mul_lt_mul_of_pos_right hx h0
theorem shl_get {P Z : List Nat} {w k c t : Nat} (hP : P.length = k) (ht : t = w + k) : (List.replicate w 0 ++ (P ++ (c :: Z))).getD t 0 = c := by
  subst ht
  simp only [List.getD]
  rw [List.getElem?_append_right (by simp), List.length_replicate, Nat.add_sub_cancel_left, List.getElem?_append_right (by omega), hP, Nat.sub_self]
  rfl
theorem shl_set1 {P Z : List Nat} {w k c t v : Nat} (hP : P.length = k) (ht : t = w + k) : (List.replicate w 0 ++ (P ++ (c :: Z))).set t v = List.replicate w 0 ++ (P ++ (v :: Z)) := by
  subst ht
  rw [List.set_append_right _ _ (by simp), List.length_replicate, Nat.add_sub_cancel_left, List.set_append_right _ _ (by omega), hP, Nat.sub_self, List.set_cons_zero]
theorem shl_set2 {P : List Nat} {w k t m m' v h : Nat} (hP : P.length = k) (ht : t = w + (k + 1)) (hm : m = m' + 1) : (List.replicate w 0 ++ (P ++ (v :: List.replicate m 0))).set t h = List.replicate w 0 ++ ((P ++ [v]) ++ (h :: List.replicate m' 0)) := by
  subst ht hm
  rw [List.set_append_right _ _ (by simp), List.length_replicate, Nat.add_sub_cancel_left, List.set_append_right _ _ (by omega), hP, show k + 1 - k = 1 by omega, List.replicate_succ]
  simp
theorem shl_step {P a : List Nat} {k c c' s v : Nat} (h : val P + BS ^ k * c = val (a.take k) * 2 ^ s) (hl : P.length = k) (hv : v + 4294967296 * c' = a.getD k 0 * 2 ^ s + c) : val (P ++ [v]) + BS ^ (k + 1) * c' = val (a.take (k + 1)) * 2 ^ s := by
  rw [dig_step h hl hv, val_getD, Nat.add_mul, Nat.mul_assoc]
theorem shl_end {P a : List Nat} {k c s w m n : Nat} (h : val P + BS ^ k * c = val (a.take k) * 2 ^ s) (hl : P.length = k) (ha : a.length ≤ k) (hm : m = 0) (hn : n = 32 * w + s) : val (List.replicate w 0 ++ (P ++ (c :: List.replicate m 0))) = val a * 2 ^ n := by
  subst hm hn
  rw [val_append, val_zeros, List.length_replicate, List.replicate_zero, val_snoc, hl, h, val_take_all a ha, Nat.pow_add, Nat.pow_mul, Nat.zero_add]
  show (2 ^ 32) ^ w * (val a * 2 ^ s) = _
  rw [Nat.mul_left_comm]
theorem lt_shl {P : List Nat} {w m c : Nat} (h : ∀ d ∈ P, d < BS) (hc : c < 4294967296) : ∀ d ∈ List.replicate w 0 ++ (P ++ (c :: List.replicate m 0)), d < BS := by
  intro d hd
  rcases List.mem_append.1 hd with h1 | h1
  · have := List.eq_of_mem_replicate h1; subst this; decide
  · rcases List.mem_append.1 h1 with h2 | h2
    · exact h d h2
    · rcases List.mem_cons.1 h2 with h3 | h3
      · subst h3; exact hc
      · have := List.eq_of_mem_replicate h3; subst this; decide
theorem shr_digit {T : List Nat} {k s : Nat} (hT : ∀ d ∈ T, d < BS) (hs : s ≤ 31) : val T / 2 ^ s / BS ^ k % BS = (T.getD k 0 + T.getD (k + 1) 0 * 4294967296) / 2 ^ s % 4294967296 := by
  rw [Nat.div_div_eq_div_mul, Nat.mul_comm, ← Nat.div_div_eq_div_mul, ← vb_val]
  rw [show vb 4294967296 T / BS ^ k = vb 4294967296 (T.drop k) from vb_div T hT k]
  rw [vb_tail, vb_tail (T.drop k).tail]
  have e0 : (T.drop k).getD 0 0 = T.getD k 0 := by simp [List.getD, List.getElem?_drop]
  have e1 : (T.drop k).tail.getD 0 0 = T.getD (k + 1) 0 := by simp [List.getD, List.getElem?_drop]
  rw [e0, e1, Nat.mul_add]
  have hp : (4294967296 : Nat) = 2 ^ s * 2 ^ (32 - s) := by rw [← Nat.pow_add, show s + (32 - s) = 32 by omega]
  have e2 : ∀ r : Nat, (T.getD k 0 + (4294967296 * T.getD (k + 1) 0 + 4294967296 * (4294967296 * r))) = (T.getD k 0 + T.getD (k + 1) 0 * 4294967296) + 2 ^ s * (4294967296 * (2 ^ (32 - s) * r)) := by
    intro r
    have e3 : 2 ^ s * (4294967296 * (2 ^ (32 - s) * r)) = 4294967296 * (4294967296 * r) := by
      rw [Nat.mul_left_comm, ← Nat.mul_assoc (2 ^ s), ← hp]
    rw [e3]
    omega
  rw [e2, Nat.add_mul_div_left _ _ (Nat.pow_pos (by decide)), Nat.add_mul_mod_self_left]
theorem shr_step {T P : List Nat} {k s t : Nat} (hT : ∀ d ∈ T, d < BS) (hs : s ≤ 31) (h : val P = val T / 2 ^ s % BS ^ k) (hl : P.length = k) (ht : t = (T.getD k 0 + T.getD (k + 1) 0 * 4294967296) / 2 ^ s % 4294967296) : val (P ++ [t]) = val T / 2 ^ s % BS ^ (k + 1) := by
  rw [val_snoc, hl, h, ht, ← shr_digit hT hs, ← Nat.mod_pow_succ]
theorem shr_end {a T P : List Nat} {k w s n m : Nat} (ha : ∀ d ∈ a, d < BS) (hT : T = a.drop w) (h : val P = val T / 2 ^ s % BS ^ k) (hk : T.length ≤ k) (hn : n = 32 * w + s) : val (P ++ List.replicate m 0) = val a / 2 ^ n := by
  have hTd : ∀ d ∈ T, d < BS := fun d hd => by rw [hT] at hd; exact ha d (List.mem_of_mem_drop hd)
  have h1 : val T < BS ^ k := Nat.lt_of_lt_of_le (val_lt T hTd) (Nat.pow_le_pow_right (by decide) hk)
  have h2 : val T / 2 ^ s < BS ^ k := Nat.lt_of_le_of_lt (Nat.div_le_self _ _) h1
  rw [val_fill, h, Nat.mod_eq_of_lt h2, hn, Nat.pow_add, ← Nat.div_div_eq_div_mul, Nat.pow_mul]
  have h3 : val a / (2 ^ 32) ^ w = val (a.drop w) := by rw [← vb_val, ← vb_val]; exact vb_div a ha w
  rw [h3, ← hT]
theorem shr_zero {a : List Nat} {w n l : Nat} (ha : ∀ d ∈ a, d < BS) (hl : a.length = l) (hw : l ≤ w) (hn : 32 * w ≤ n) : (0 : Nat) = val a / 2 ^ n := by
  have h1 := val_lt a ha
  refine (Nat.div_eq_of_lt (Nat.lt_of_lt_of_le h1 ?_)).symm
  rw [hl, show (BS : Nat) = 2 ^ 32 from rfl, ← Nat.pow_mul]
  exact Nat.pow_le_pow_right (by decide) (by omega)
theorem or_high {x t : Nat} (hx : x < 4294967296) : x ||| t * 4294967296 = x + t * 4294967296 := by
  rw [Nat.or_comm, Nat.mul_comm t]
  have := or_nat t x 32 hx
  rw [show (2 : Nat) ^ 32 = 4294967296 from rfl] at this
  omega
end Go.Gx
namespace Go.Gx
theorem rep_shl {w n : Nat} : List.replicate w 0 ++ ((0 : Nat) :: List.replicate (n - 0) 0) = List.replicate (w + n + 1) 0 := by
  rw [← List.replicate_succ, List.replicate_append_replicate]
  congr 1
end Go.Gx
