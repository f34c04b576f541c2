/-
  Integers of the reference: a sign and bits; lists of these. No program in sight.
-/
import Derived.Test.YtppegjbdencefaaRefPreds
namespace Go.Gx
open Go.RowKit
def sgnv (g : Bool) (n : Nat) : Int := if g then -(n : Int) else (n : Int)
theorem zval_sgnv (g : Bool) (d : List Nat) : zval g d = sgnv g (val d) := rfl
/-- An integer of the reference. -/
def ZR (w : World) (S : Nat → Prop) (s : Int) (A : Option Addr) (n c : Nat) (z : Int) : Prop := s = z.sign ∧ ∃ bs, DigR 2 w S A n c bs ∧ Canon isZ bs ∧ vb 2 bs = z.natAbs
section
variable {w w' : World} {S S' G : Nat → Prop} {s : Int} {A : Option Addr} {n c : Nat} {z : Int}
theorem ZR.frmB (h : ZR w S s A n c z) (f : Frm G w w') (hd : ∀ b, b < w.heap.size → S b → ¬ G b) : ZR w' S s A n c z := by
  obtain ⟨h1, bs, h2, h3⟩ := h; exact ⟨h1, bs, h2.frmB f hd, h3⟩
theorem ZR.ext (h : ZR w S s A n c z) (f : Ext w w') : ZR w' S s A n c z := by
  obtain ⟨h1, bs, h2, h3⟩ := h; exact ⟨h1, bs, h2.ext f, h3⟩
theorem ZR.sub (h : ZR w S s A n c z) (hs : ∀ b, b < w.heap.size → S b → S' b) : ZR w S' s A n c z := by
  obtain ⟨h1, bs, h2, h3⟩ := h; exact ⟨h1, bs, h2.sub hs, h3⟩
theorem ZR.low (h : ZR w S s A n c z) : ZR w (· < w.heap.size) s A n c z := h.sub fun _ hb _ => hb
theorem ZR.cap (h : ZR w S s A n c z) : n ≤ c := by obtain ⟨_, bs, h2, _⟩ := h; exact h2.cap
theorem ZR.max (h : ZR w S s A n c z) : c ≤ 9223372036854775807 := by obtain ⟨_, bs, h2, _⟩ := h; exact h2.max
theorem ZR.lkm (h : ZR w S s A n c z) : (s = Int.sign z) ∧ n ≤ c ∧ c ≤ 9223372036854775807 := ⟨h.1, h.cap, h.max⟩
theorem ZR.zero : ZR w S 0 none 0 0 0 := ⟨rfl, [], DigR.nil, canon_nil _, rfl⟩
theorem ZR.len {m : Nat} (h : ZR w S s A n c z) (hz : z.natAbs < 2 ^ m) : n ≤ m := by
  obtain ⟨_, bs, h2, h3, h4⟩ := h
  rw [← h2.len]
  exact canon_len (B := 2) h3 (by decide) (by rw [h4]; exact hz)
theorem ZR.lt (h : ZR w S s A n c z) : z.natAbs < 2 ^ n := by
  obtain ⟨_, bs, h2, h3, h4⟩ := h
  have := vb_lt bs h2.2
  rw [h2.len, h4] at this
  exact this
theorem ZR.make {g : Bool} {ds bs : List Nat} {s : Int} (h : DigR 2 w S A n c bs) (e : bs = trimN ds) (h0 : n ≠ 0) (hs : s = if g then -1 else 1) : ZR w S s A n c (sgnv g (vb 2 ds)) := by
  have hv : vb 2 bs = vb 2 ds := by rw [e, vb_trim]
  have hc : Canon isZ bs := by rw [e]; exact canon_trim _ _
  have hp : 0 < vb 2 ds := by
    rcases Nat.eq_zero_or_pos (vb 2 ds) with h1 | h1
    · have := canon_vnil (B := 2) hc (by decide) (by omega)
      have h2 := h.len
      rw [this] at h2; simp at h2; omega
    · exact h1
  refine ⟨?_, bs, h, hc, ?_⟩
  · subst hs
    cases g
    · simp only [sgnv, Bool.false_eq_true, if_false]; rw [Int.sign_eq_one_of_pos (by omega)]
    · simp only [sgnv, if_true]; rw [Int.sign_eq_neg_one_of_neg (by omega)]
  · rw [hv]; cases g <;> simp [sgnv]
theorem sgnv_zero {g : Bool} {ds bs : List Nat} (e : bs = trimN ds) (hn : bs.length = 0) : (0 : Int) = sgnv g (vb 2 ds) := by
  have h1 : vb 2 ds = 0 := by rw [← vb_trim, ← e, List.eq_nil_of_length_eq_zero hn]; rfl
  rw [h1]; cases g <;> rfl
end
theorem sign_rng {s z : Int} (h : s = z.sign) : (s = -1 ∧ z < 0) ∨ (s = 0 ∧ z = 0) ∨ (s = 1 ∧ 0 < z) := by subst h; exact sign_cases z
theorem mul_sign_rng {s t x y : Int} (h : s = x.sign) (k : t = y.sign) : -1 ≤ s * t ∧ s * t ≤ 1 := by
  rcases sign_rng h with ⟨rfl, _⟩ | ⟨rfl, _⟩ | ⟨rfl, _⟩ <;> rcases sign_rng k with ⟨rfl, _⟩ | ⟨rfl, _⟩ | ⟨rfl, _⟩ <;> decide
theorem zadd_same {s t x y : Int} {a b : Nat} (h : s = x.sign) (k : t = y.sign) (hm : s * t ≥ 0) (ha : a = x.natAbs) (hb : b = y.natAbs) : sgnv (decide (s + t < 0)) (a + b) = x + y := by
  rcases sign_rng h with ⟨rfl, h1⟩ | ⟨rfl, h1⟩ | ⟨rfl, h1⟩ <;> rcases sign_rng k with ⟨rfl, h2⟩ | ⟨rfl, h2⟩ | ⟨rfl, h2⟩ <;> simp [sgnv] at hm ⊢ <;> omega
theorem zadd_ge {s t x y c : Int} {a b : Nat} (h : s = x.sign) (k : t = y.sign) (hm : ¬ s * t ≥ 0) (ha : a = x.natAbs) (hb : b = y.natAbs) (hc : c = cmpN a b) (h0 : c ≥ 0) : sgnv (decide (s < 0)) (a - b) = x + y := by
  have h3 : b ≤ a := cmpN_nn hc (by omega)
  rcases sign_rng h with ⟨rfl, h1⟩ | ⟨rfl, h1⟩ | ⟨rfl, h1⟩ <;> rcases sign_rng k with ⟨rfl, h2⟩ | ⟨rfl, h2⟩ | ⟨rfl, h2⟩ <;> simp [sgnv] at hm ⊢ <;> omega
theorem zadd_lt {s t x y c : Int} {a b : Nat} (h : s = x.sign) (k : t = y.sign) (hm : ¬ s * t ≥ 0) (ha : a = x.natAbs) (hb : b = y.natAbs) (hc : c = cmpN a b) (h0 : ¬ c ≥ 0) : sgnv (decide (t < 0)) (b - a) = x + y := by
  have h3 : a < b := cmpN_neg hc (by omega)
  rcases sign_rng h with ⟨rfl, h1⟩ | ⟨rfl, h1⟩ | ⟨rfl, h1⟩ <;> rcases sign_rng k with ⟨rfl, h2⟩ | ⟨rfl, h2⟩ | ⟨rfl, h2⟩ <;> simp [sgnv] at hm ⊢ <;> omega
theorem zmul_sgn {s t x y : Int} {a b : Nat} (h : s = x.sign) (k : t = y.sign) (ha : a = x.natAbs) (hb : b = y.natAbs) : sgnv (decide (s * t < 0)) (a * b) = x * y := by
  subst ha hb
  have e : ∀ z : Int, (0 < z → z = (z.natAbs : Int)) ∧ (z < 0 → z = -(z.natAbs : Int)) := fun z => ⟨by omega, by omega⟩
  rcases sign_rng h with ⟨rfl, h1⟩ | ⟨rfl, h1⟩ | ⟨rfl, h1⟩ <;> rcases sign_rng k with ⟨rfl, h2⟩ | ⟨rfl, h2⟩ | ⟨rfl, h2⟩ <;> simp [sgnv]
  all_goals first | (subst h1; simp) | (subst h2; simp) | skip
  all_goals first
    | (rw [← Int.natCast_mul, ← Int.natAbs_mul]; have := Int.mul_pos_of_neg_of_neg h1 h2; omega)
    | (rw [← Int.natCast_mul, ← Int.natAbs_mul]; have := Int.mul_neg_of_neg_of_pos h1 h2; omega)
    | (rw [← Int.natCast_mul, ← Int.natAbs_mul]; have := Int.mul_neg_of_pos_of_neg h1 h2; omega)
    | (rw [← Int.natCast_mul, ← Int.natAbs_mul]; have := Int.mul_pos h1 h2; omega)
theorem zcmp_ne {s t x y : Int} (h : s = x.sign) (k : t = y.sign) (hne : s ≠ t) : (s < t → (-1 : Int) = cmpZ x y) ∧ (¬ s < t → (1 : Int) = cmpZ x y) := by
  refine ⟨icmp_lt h k, fun h1 => icmp_gt h k (by omega)⟩
theorem zcmp_mul {s t x y c : Int} {a b : Nat} (h : s = x.sign) (k : t = y.sign) (he : ¬ s ≠ t) (ha : a = x.natAbs) (hb : b = y.natAbs) (hc : c = cmpN a b) : IntKind.i64.wrap (s * c) = cmpZ x y := by
  have hst : s = t := by omega
  have key : s * c = cmpZ x y := by
    rcases cmpN_cases a b with ⟨h5, h6⟩ | ⟨h5, h6⟩ | ⟨h5, h6⟩ <;> rcases cmpZ_cases x y with ⟨h7, h8⟩ | ⟨h7, h8⟩ | ⟨h7, h8⟩ <;> rcases sign_rng h with ⟨h9, h1⟩ | ⟨h9, h1⟩ | ⟨h9, h1⟩ <;> rcases sign_rng k with ⟨h3, h2⟩ | ⟨h3, h2⟩ | ⟨h3, h2⟩ <;> rw [h9, hc, h5, h7] <;> omega
  rw [key]
  exact wI64 ⟨rfl, by rcases cmpZ_cases x y with h | h | h <;> omega, by rcases cmpZ_cases x y with h | h | h <;> omega⟩
theorem small_end {P : List Nat} {k m N : Nat} (h : vb 2 P + 2 ^ k * m = N) (hm : m = 0) : vb 2 P = N := by subst hm; simpa using h
theorem small_step {P : List Nat} {k m N : Nat} (h : vb 2 P + 2 ^ k * m = N) (hl : P.length = k) : vb 2 (P ++ [m % 2]) + 2 ^ (k + 1) * (m / 2) = N := by
  rw [vb_snoc, hl, Nat.pow_succ, ← h, Nat.mul_assoc, Nat.add_assoc, ← Nat.mul_add, Nat.mod_add_div]
theorem sgnv_true (n : Nat) : sgnv true n = -(n : Int) := rfl
theorem sgnv_false (n : Nat) : sgnv false n = (n : Int) := rfl
theorem is_neg {g : Bool} {d : List Nat} {s z : Int} (hs : s = z.sign) (hc : ICan g d) (hv : zval g d = z) : g = decide (s < 0) := by
  subst hv
  cases g
  · have : 0 ≤ zval false d := by rw [zval_false]; omega
    rcases sign_rng hs with h | h | h <;> simp <;> omega
  · have h1 : 0 < val d := val_pos hc.1 (hc.2 rfl)
    have : zval true d < 0 := by rw [zval_true]; omega
    rcases sign_rng hs with h | h | h <;> simp <;> omega
theorem is_val {g : Bool} {d : List Nat} {z : Int} {n : Nat} (hv : zval g d = z) (hn : n = z.natAbs) : val d = n := by
  subst hv hn; rcases zval_cases g d with h | h <;> omega
end Go.Gx
