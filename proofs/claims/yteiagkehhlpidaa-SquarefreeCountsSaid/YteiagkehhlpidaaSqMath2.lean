/-
  Division of polynomials, step by step. Plain numbers; no program in sight.
-/
import Derived.Test.YteiagkehhlpidaaEvMath
import Derived.Test.YteiagkehhlpidaaSqMath
namespace Go.Gx
/-- The coefficient of x^i in x^low times G. -/
def cs (G : List Int) (low i : Nat) : Int := if low ≤ i then co G (i - low) else 0
theorem cs_co (G : List Int) (low i : Nat) : co (List.replicate low 0 ++ G) i = cs G low i := by
  unfold cs co
  by_cases h : low ≤ i
  · rw [if_pos h]; simp only [List.getD]; rw [List.getElem?_append_right (by simpa using h)]; simp
  · rw [if_neg h]; simp only [List.getD]; rw [List.getElem?_append_left (by simp; omega)]
    simp [List.getElem?_replicate, show i < low by omega]
theorem evQ_shift (q : Rat) (G : List Int) : ∀ low, evQ (List.replicate low 0 ++ G) q = q ^ low * evQ G q
  | 0 => by simp
  | low + 1 => by
    rw [List.replicate_succ, List.cons_append]
    simp only [evQ, evQ_shift q G low, Rat.pow_succ]
    have : ((0 : Int) : Rat) = 0 := rfl
    rw [this]; grind
theorem co_takeZ (R : List Int) (t i : Nat) : co (R.take t) i = if i < t then co R i else 0 := by
  simp only [co, List.getD, List.getElem?_take]
  by_cases h : i < t
  · rw [if_pos h, if_pos h]
  · rw [if_neg h, if_neg h]; rfl
theorem pseudo_step {F G Q R Q2 R1 : List Int} {L f : Int} {m t low d : Nat} (hI : ∀ x : Rat, evQ F x * (L : Rat) ^ m = evQ Q x * evQ G x + evQ (R.take t) x) (hQl : co Q low = 0)
    (hQ2 : ∀ i, co Q2 i = if i = low then f else co Q i * L) (hR1 : ∀ i, i < t - 1 → co R1 i = co R i * L - f * cs G low i) (hf : f = co R (t - 1)) (hd : co G d = L) (hG : ∀ i, d < i → co G i = 0) (ht : t = low + d + 1) :
    ∀ x : Rat, evQ F x * (L : Rat) ^ (m + 1) = evQ Q2 x * evQ G x + evQ (R1.take (t - 1)) x := fun x => by
  have e1 : evQ Q2 x = (L : Rat) * evQ Q x + (f : Rat) * x ^ low := by
    have : evQ Q2 x = evQ (padd (scaleP Q L) (scaleP (List.replicate low 0 ++ [1]) f)) x := evQ_congr x fun i => by
      rw [co_padd, co_scaleP, co_scaleP, cs_co, hQ2]
      by_cases h : i = low
      · subst h; rw [if_pos rfl, hQl]; simp [cs, co]
      · rw [if_neg h]
        have : cs [1] low i = 0 := by
          unfold cs
          by_cases h2 : low ≤ i
          · rw [if_pos h2]; have : i - low ≠ 0 := by omega
            cases hh : i - low with
            | zero => omega
            | succ j => simp [co]
          · rw [if_neg h2]
        rw [this]; omega
    rw [this, evQ_padd, evQ_scale, evQ_scale, evQ_shift]
    simp only [evQ]
    have h1 : ((1 : Int) : Rat) = 1 := rfl
    rw [h1]; grind
  have e2 : (L : Rat) * evQ (R.take t) x = (f : Rat) * (x ^ low * evQ G x) + evQ (R1.take (t - 1)) x := by
    rw [← evQ_shift, ← evQ_scale, ← evQ_scale, ← evQ_padd]
    refine evQ_congr x fun i => ?_
    rw [co_padd, co_scaleP, co_scaleP, cs_co, co_takeZ, co_takeZ]
    by_cases h1 : i < t - 1
    · rw [if_pos (by omega), if_pos h1, hR1 i h1, Int.mul_comm (cs G low i)]; omega
    · rw [if_neg h1]
      by_cases h2 : i < t
      · have hi : i = t - 1 := by omega
        rw [if_pos h2, hi, ← hf]
        have : cs G low (t - 1) = L := by unfold cs; rw [if_pos (by omega), show t - 1 - low = d by omega, hd]
        rw [this, Int.mul_comm]; omega
      · rw [if_neg h2]
        have : cs G low i = 0 := by unfold cs; rw [if_pos (by omega), hG _ (by omega)]
        rw [this]; simp
  have h := hI x
  rw [e1, Rat.pow_succ]
  grind
theorem exact_step {F G Q R Q2 R1 : List Int} {f : Int} {low : Nat} (hI : ∀ x : Rat, evQ F x = evQ Q x * evQ G x + evQ R x) (hQl : co Q low = 0)
    (hQ2 : ∀ i, co Q2 i = if i = low then f else co Q i) (hR1 : ∀ i, co R1 i = co R i - f * cs G low i) : ∀ x : Rat, evQ F x = evQ Q2 x * evQ G x + evQ R1 x := fun x => by
  have e1 : evQ Q2 x = evQ Q x + (f : Rat) * x ^ low := by
    have : evQ Q2 x = evQ (padd Q (scaleP (List.replicate low 0 ++ [1]) f)) x := evQ_congr x fun i => by
      rw [co_padd, co_scaleP, cs_co, hQ2]
      by_cases h : i = low
      · subst h; rw [if_pos rfl, hQl]; simp [cs, co]
      · rw [if_neg h]
        have : cs [1] low i = 0 := by
          unfold cs
          by_cases h2 : low ≤ i
          · rw [if_pos h2]
            cases hh : i - low with
            | zero => omega
            | succ j => simp [co]
          · rw [if_neg h2]
        rw [this]; omega
    rw [this, evQ_padd, evQ_scale, evQ_shift]
    simp only [evQ]
    have h1 : ((1 : Int) : Rat) = 1 := rfl
    rw [h1]; grind
  have e2 : evQ R x = (f : Rat) * (x ^ low * evQ G x) + evQ R1 x := by
    rw [← evQ_shift, ← evQ_scale, ← evQ_padd]
    refine evQ_congr x fun i => ?_
    rw [co_padd, co_scaleP, cs_co, hR1 i, Int.mul_comm (cs G low i)]; omega
  have h := hI x
  rw [e1]
  grind
theorem co_setZ {L : List Int} {k : Nat} {v : Int} (hk : k < L.length) (j : Nat) : co (L.set k v) j = if j = k then v else co L j := by
  by_cases e : j = k
  · subst e; rw [if_pos rfl]; simp [co, List.getD, List.getElem?_set_self hk]
  · rw [if_neg e]; simp only [co, List.getD]; rw [List.getElem?_set_ne (Ne.symm e)]
theorem mulq_step {Q Q1 : List Int} {j : Nat} {L v : Int} (h : ∀ i, co Q1 i = if i < j then co Q i * L else co Q i) (hj : j < Q1.length) (hv : v = co Q1 j * L) : ∀ i, co (Q1.set j v) i = if i < j + 1 then co Q i * L else co Q i := fun i => by
  rw [co_setZ hj]
  by_cases e : i = j
  · subst e; rw [if_pos rfl, if_pos (by omega), hv, h i, if_neg (by omega)]
  · rw [if_neg e, h i]
    by_cases h1 : i < j
    · rw [if_pos h1, if_pos (by omega)]
    · rw [if_neg h1, if_neg (by omega)]
theorem mulq_start {Q : List Int} {s : Nat} {L : Int} (h0 : ∀ i, i < s → co Q i = 0) : ∀ i, co Q i = if i < s then co Q i * L else co Q i := fun i => by
  by_cases h : i < s
  · rw [if_pos h, h0 i h]; simp
  · rw [if_neg h]
theorem rem_step {R R1 G : List Int} {j low : Nat} {L f v : Int} (h : ∀ i, co R1 i = if i < j then co R i * L - f * cs G low i else co R i) (hj : j < R1.length) (hv : v = co R1 j * L - f * cs G low j) : ∀ i, co (R1.set j v) i = if i < j + 1 then co R i * L - f * cs G low i else co R i := fun i => by
  rw [co_setZ hj]
  by_cases e : i = j
  · subst e; rw [if_pos rfl, if_pos (by omega), hv, h i, if_neg (by omega)]
  · rw [if_neg e, h i]
    by_cases h1 : i < j
    · rw [if_pos h1, if_pos (by omega)]
    · rw [if_neg h1, if_neg (by omega)]
theorem xsub_step {R R1 G : List Int} {j low : Nat} {f v : Int} (h : ∀ i, co R1 i = if i < low + j then co R i - f * cs G low i else co R i) (hj : low + j < R1.length) (hv : v = co R1 (low + j) - f * co G j) : ∀ i, co (R1.set (low + j) v) i = if i < low + (j + 1) then co R i - f * cs G low i else co R i := fun i => by
  rw [co_setZ hj]
  by_cases e : i = low + j
  · subst e; rw [if_pos rfl, if_pos (by omega), hv, h _, if_neg (by omega)]
    have : cs G low (low + j) = co G j := by unfold cs; rw [if_pos (by omega), show low + j - low = j by omega]
    rw [this]
  · rw [if_neg e, h i]
    by_cases h1 : i < low + j
    · rw [if_pos h1, if_pos (by omega)]
    · rw [if_neg h1, if_neg (by omega)]
theorem ld_deg {G : List Int} {d : Nat} (hd : (trimZ G).length = d + 1) : co G d = ldP G ∧ (∀ i, d < i → co G i = 0) ∧ ldP G ≠ 0 := by
  have h1 : ldP G = co (trimZ G) d := by unfold ldP; rw [hd, show (((d + 1 : Nat) : Int) - 1) = (d : Int) by omega, coI_nat]
  refine ⟨by rw [h1, co_trim], fun i hi => ?_, ?_⟩
  · rw [← co_trim]; exact zget_ge (n := d + 1) (by omega) i (by omega)
  · rw [h1]; have := canon_last (f := trimZ G) (canon_trim isZI G) (by omega); rwa [hd] at this
theorem bud_step {B M E s K : Nat} (h : B + E * s ≤ M + E * K) (hs : 0 < s) : B + E + E * (s - 1) ≤ M + E * K := by
  obtain ⟨t, rfl⟩ : ∃ t, s = t + 1 := ⟨s - 1, by omega⟩
  rw [Nat.mul_succ] at h
  rw [Nat.add_sub_cancel]
  omega
/-- How an inexact division shows itself. -/
def exFail (F G : List Int) : Prop := ∃ (Q R : List Int) (s : Nat), (∀ x : Rat, evQ F x = evQ Q x * evQ G x + evQ R x) ∧ (∀ i, s + ((trimZ G).length - 1) ≤ i → co R i = 0) ∧ ((0 < s ∧ ¬ ldP G ∣ co R (s - 1 + ((trimZ G).length - 1))) ∨ (s = 0 ∧ ∃ i, co R i ≠ 0))
theorem pq2 {Q Q1 : List Int} {low j : Nat} {L f : Int} (h : ∀ i, co Q1 i = if i < j then co Q i * L else co Q i) (hl : Q.length ≤ j) (hlow : low < Q1.length) : ∀ i, co (Q1.set low f) i = if i = low then f else co Q i * L := fun i => by
  rw [co_setZ hlow]
  by_cases e : i = low
  · rw [if_pos e, if_pos e]
  · rw [if_neg e, if_neg e, h i]
    by_cases h1 : i < j
    · rw [if_pos h1]
    · have hz : co Q i = 0 := zget_ge (n := j) hl i (by omega)
      rw [if_neg h1, hz]; simp
theorem ld_len {G : List Int} (h : ldP G ≠ 0) : ∃ d, (trimZ G).length = d + 1 := by
  rcases Nat.eq_zero_or_pos (trimZ G).length with h0 | h0
  · exfalso; apply h; unfold ldP; rw [← coI_out (.inl (by omega))]
  · exact ⟨(trimZ G).length - 1, by omega⟩
theorem co_zeros (m i : Nat) : co (zs (List.replicate m RI.zero)) i = 0 := by
  simp only [co, List.getD, List.getElem?_map, List.getElem?_replicate]
  by_cases h : i < m
  · simp [h, RI.zero, RI.z, zval, val]
  · simp [h]
theorem evQ_zeros (m : Nat) (x : Rat) : evQ (zs (List.replicate m RI.zero)) x = 0 := (evQ_congr x (g := []) fun i => by rw [co_zeros]; simp [co]).trans rfl
theorem xsub_start {R G : List Int} {low : Nat} {f : Int} : ∀ i, co R i = if i < low + 0 then co R i - f * cs G low i else co R i := fun i => by
  by_cases h : i < low + 0
  · rw [if_pos h]; unfold cs; rw [if_neg (by omega)]; simp
  · rw [if_neg h]
theorem xsub_all {R R1 G : List Int} {low d j : Nat} {f : Int} (h : ∀ i, co R1 i = if i < low + j then co R i - f * cs G low i else co R i) (hj : j = d + 1) (hG : ∀ i, d < i → co G i = 0) : ∀ i, co R1 i = co R i - f * cs G low i := fun i => by
  rw [h i]
  by_cases h1 : i < low + j
  · rw [if_pos h1]
  · rw [if_neg h1]
    have : cs G low i = 0 := by unfold cs; rw [if_pos (by omega), hG _ (by omega)]
    rw [this]; simp
theorem xsub_top {R R1 G : List Int} {low d s : Nat} {f L : Int} (h : ∀ i, co R1 i = co R i - f * cs G low i) (hs : s = low + 1) (h0 : ∀ i, s + d ≤ i → co R i = 0) (hd : co G d = L) (hG : ∀ i, d < i → co G i = 0) (hf : co R (low + d) = L * f) : ∀ i, s - 1 + d ≤ i → co R1 i = 0 := fun i hi => by
  rw [h i]
  by_cases e : i = low + d
  · subst e
    have : cs G low (low + d) = L := by unfold cs; rw [if_pos (by omega), show low + d - low = d by omega, hd]
    rw [this, hf, Int.mul_comm]; omega
  · have : cs G low i = 0 := by unfold cs; rw [if_pos (by omega), hG _ (by omega)]
    rw [this, h0 i (by omega)]; simp
theorem co_ne_of {R : List Int} (h : 0 ≤ ((trimZ R).length : Int) - 1) : ∃ i, co R i ≠ 0 := by
  have := canon_last (f := trimZ R) (canon_trim isZI R) (by omega)
  rw [co_trim] at this
  exact ⟨_, this⟩
theorem evQ_nil_of {R : List Int} {x : Rat} (h : ((trimZ R).length : Int) - 1 < 0) : evQ R x = 0 := by
  rw [← evQ_trim, List.eq_nil_of_length_eq_zero (by omega : (trimZ R).length = 0)]; rfl
/-- Nothing is left of x^2 divided by x. -/
theorem rest_none {q r : List Int} {L : Rat} {k : Nat} (h : ∀ x : Rat, evQ [0, 0, 1] x * L ^ k = evQ q x * evQ [0, 1] x + evQ r x) (hl : r.length ≤ 1) (ht : trimZ r = r) : r.length = 0 := by
  match r, hl, ht, h with
  | [], _, _, _ => rfl
  | [c], _, ht, h =>
    exfalso
    have h0 := h 0
    simp only [evQ] at h0
    have e0 : ((0 : Int) : Rat) = 0 := rfl
    have e1 : ((1 : Int) : Rat) = 1 := rfl
    rw [e0, e1] at h0
    have hc : (c : Rat) = 0 := by grind
    have : c = 0 := Rat.intCast_inj.1 (hc.trans e0.symm)
    subst this
    exact absurd ht (by decide)
  | _ :: _ :: _, hl, _, _ => simp at hl
theorem evQ_ppow (g : List Int) (x : Rat) : ∀ k, evQ (ppow g k) x = evQ g x ^ k
  | 0 => by
    show evQ [1] x = _
    simp only [evQ]
    have e1 : ((1 : Int) : Rat) = 1 := rfl
    rw [e1, Rat.pow_zero]; grind
  | k + 1 => by
    show evQ (pmul (ppow g k) g) x = _
    rw [evQ_pmul, evQ_ppow g x k, Rat.pow_succ]
/-- One factor more. -/
theorem mul3 {P2 P1 W F l : List Int} {i : Nat} {u xk x0 : Int} (hv : ∀ x : Rat, evQ P1 x = if i = 0 then (u : Rat) else (u : Rat) * evQ F x ^ xk.toNat) (hm : ∀ x, evQ P2 x = evQ P1 x * evQ W x) (hw : ∀ x, evQ W x = evQ l x ^ x0.toNat) (h0 : i = 0 → l = F ∧ x0 = xk) (h1 : i ≠ 0 → -3 ≤ x0 ∧ x0 ≤ 0) :
    ∀ x : Rat, evQ P2 x = if i + 1 = 0 then (u : Rat) else (u : Rat) * evQ F x ^ xk.toNat := fun x => by
  rw [if_neg (by omega), hm, hv, hw]
  by_cases h : i = 0
  · rw [if_pos h, (h0 h).1, (h0 h).2]
  · have h2 := h1 h
    rw [if_neg h, show x0.toNat = 0 by omega, Rat.pow_zero, Rat.mul_one]
/-- A factor 0 with a power. -/
theorem mul_dead {F l : List Int} {i : Nat} {u xk x0 d : Int} (h0 : i = 0 → l = F ∧ x0 = xk) (h1 : i ≠ 0 → -3 ≤ x0 ∧ x0 ≤ 0) (hx : 0 < x0) (hd : d = ((trimZ l).length : Int) - 1) (hn : d < 0) : ∀ x : Rat, evQ [] x = (u : Rat) * evQ F x ^ xk.toNat := fun x => by
  have hi : i = 0 := by rcases Nat.eq_zero_or_pos i with h | h; exact h; have := h1 (by omega); omega
  obtain ⟨h2, h3⟩ := h0 hi
  have hz : evQ F x = 0 := by rw [← h2]; exact evQ_nil_of (by omega)
  obtain ⟨k, hk⟩ : ∃ k, xk.toNat = k + 1 := ⟨xk.toNat - 1, by omega⟩
  rw [hz, hk, Rat.pow_succ]; simp [evQ]
end Go.Gx
