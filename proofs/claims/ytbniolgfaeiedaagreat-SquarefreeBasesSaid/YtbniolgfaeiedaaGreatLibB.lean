/-
  The laws of the walks and the plain laws of numbers and polynomials, part 2: SqMath2, Det, Subres, EndMath, InvMath, QPoly, Gauss, CountMath, Norm, Bound, GcdMath, GcdPreds, ValMath, SqfMath, QuoMath, YunMath, FacPreds, BasisMath, PolysPreds, BasisPreds, ExpMath, BasisWalk, MulMath, ZPreds, PZPreds, IntPreds, Known, Known2.
-/
import Derived.Test.YtbniolgfaeiedaaGreatLibA

/-
  Division of polynomials, step by step. Plain numbers; no program in sight.
-/
namespace Go.Gx
/-- The coefficient of x^i in x^low times G. -/
def cs (G : List Int) (low i : Nat) : Int := if low ≤ i then co G (i - low) else 0
theorem cs_co (G : List Int) (low i : Nat) : co (List.replicate low 0 ++ G) i = cs G low i := by
  unfold cs co
  by_cases h : low ≤ i
  · rw [if_pos h]; simp only [List.getD]; rw [List.getElem?_append_right (by simpa using h)]; simp
  · rw [if_neg h]; simp only [List.getD]; rw [List.getElem?_append_left (by simp; omega)]
    simp [List.getElem?_replicate, show i < low by omega]
theorem evQ_shift (q : Rat) (G : List Int) : ∀ low, evQ (List.replicate low 0 ++ G) q = q ^ low * evQ G q
  | 0 => by simp
  | low + 1 => by
    rw [List.replicate_succ, List.cons_append]
    simp only [evQ, evQ_shift q G low, Rat.pow_succ]
    have : ((0 : Int) : Rat) = 0 := rfl
    rw [this]; grind
theorem co_takeZ (R : List Int) (t i : Nat) : co (R.take t) i = if i < t then co R i else 0 := by
  simp only [co, List.getD, List.getElem?_take]
  by_cases h : i < t
  · rw [if_pos h, if_pos h]
  · rw [if_neg h, if_neg h]; rfl
theorem pseudo_step {F G Q R Q2 R1 : List Int} {L f : Int} {m t low d : Nat} (hI : ∀ x : Rat, evQ F x * (L : Rat) ^ m = evQ Q x * evQ G x + evQ (R.take t) x) (hQl : co Q low = 0)
    (hQ2 : ∀ i, co Q2 i = if i = low then f else co Q i * L) (hR1 : ∀ i, i < t - 1 → co R1 i = co R i * L - f * cs G low i) (hf : f = co R (t - 1)) (hd : co G d = L) (hG : ∀ i, d < i → co G i = 0) (ht : t = low + d + 1) :
    ∀ x : Rat, evQ F x * (L : Rat) ^ (m + 1) = evQ Q2 x * evQ G x + evQ (R1.take (t - 1)) x := fun x => by
  have e1 : evQ Q2 x = (L : Rat) * evQ Q x + (f : Rat) * x ^ low := by
    have : evQ Q2 x = evQ (padd (scaleP Q L) (scaleP (List.replicate low 0 ++ [1]) f)) x := evQ_congr x fun i => by
      rw [co_padd, co_scaleP, co_scaleP, cs_co, hQ2]
      by_cases h : i = low
      · subst h; rw [if_pos rfl, hQl]; simp [cs, co]
      · rw [if_neg h]
        have : cs [1] low i = 0 := by
          unfold cs
          by_cases h2 : low ≤ i
          · rw [if_pos h2]; have : i - low ≠ 0 := by omega
            cases hh : i - low with
            | zero => omega
            | succ j => simp [co]
          · rw [if_neg h2]
        rw [this]; omega
    rw [this, evQ_padd, evQ_scale, evQ_scale, evQ_shift]
    simp only [evQ]
    have h1 : ((1 : Int) : Rat) = 1 := rfl
    rw [h1]; grind
  have e2 : (L : Rat) * evQ (R.take t) x = (f : Rat) * (x ^ low * evQ G x) + evQ (R1.take (t - 1)) x := by
    rw [← evQ_shift, ← evQ_scale, ← evQ_scale, ← evQ_padd]
    refine evQ_congr x fun i => ?_
    rw [co_padd, co_scaleP, co_scaleP, cs_co, co_takeZ, co_takeZ]
    by_cases h1 : i < t - 1
    · rw [if_pos (by omega), if_pos h1, hR1 i h1, Int.mul_comm (cs G low i)]; omega
    · rw [if_neg h1]
      by_cases h2 : i < t
      · have hi : i = t - 1 := by omega
        rw [if_pos h2, hi, ← hf]
        have : cs G low (t - 1) = L := by unfold cs; rw [if_pos (by omega), show t - 1 - low = d by omega, hd]
        rw [this, Int.mul_comm]; omega
      · rw [if_neg h2]
        have : cs G low i = 0 := by unfold cs; rw [if_pos (by omega), hG _ (by omega)]
        rw [this]; simp
  have h := hI x
  rw [e1, Rat.pow_succ]
  grind
theorem exact_step {F G Q R Q2 R1 : List Int} {f : Int} {low : Nat} (hI : ∀ x : Rat, evQ F x = evQ Q x * evQ G x + evQ R x) (hQl : co Q low = 0)
    (hQ2 : ∀ i, co Q2 i = if i = low then f else co Q i) (hR1 : ∀ i, co R1 i = co R i - f * cs G low i) : ∀ x : Rat, evQ F x = evQ Q2 x * evQ G x + evQ R1 x := fun x => by
  have e1 : evQ Q2 x = evQ Q x + (f : Rat) * x ^ low := by
    have : evQ Q2 x = evQ (padd Q (scaleP (List.replicate low 0 ++ [1]) f)) x := evQ_congr x fun i => by
      rw [co_padd, co_scaleP, cs_co, hQ2]
      by_cases h : i = low
      · subst h; rw [if_pos rfl, hQl]; simp [cs, co]
      · rw [if_neg h]
        have : cs [1] low i = 0 := by
          unfold cs
          by_cases h2 : low ≤ i
          · rw [if_pos h2]
            cases hh : i - low with
            | zero => omega
            | succ j => simp [co]
          · rw [if_neg h2]
        rw [this]; omega
    rw [this, evQ_padd, evQ_scale, evQ_shift]
    simp only [evQ]
    have h1 : ((1 : Int) : Rat) = 1 := rfl
    rw [h1]; grind
  have e2 : evQ R x = (f : Rat) * (x ^ low * evQ G x) + evQ R1 x := by
    rw [← evQ_shift, ← evQ_scale, ← evQ_padd]
    refine evQ_congr x fun i => ?_
    rw [co_padd, co_scaleP, cs_co, hR1 i, Int.mul_comm (cs G low i)]; omega
  have h := hI x
  rw [e1]
  grind
theorem co_setZ {L : List Int} {k : Nat} {v : Int} (hk : k < L.length) (j : Nat) : co (L.set k v) j = if j = k then v else co L j := by
  by_cases e : j = k
  · subst e; rw [if_pos rfl]; simp [co, List.getD, List.getElem?_set_self hk]
  · rw [if_neg e]; simp only [co, List.getD]; rw [List.getElem?_set_ne (Ne.symm e)]
theorem mulq_step {Q Q1 : List Int} {j : Nat} {L v : Int} (h : ∀ i, co Q1 i = if i < j then co Q i * L else co Q i) (hj : j < Q1.length) (hv : v = co Q1 j * L) : ∀ i, co (Q1.set j v) i = if i < j + 1 then co Q i * L else co Q i := fun i => by
  rw [co_setZ hj]
  by_cases e : i = j
  · subst e; rw [if_pos rfl, if_pos (by omega), hv, h i, if_neg (by omega)]
  · rw [if_neg e, h i]
    by_cases h1 : i < j
    · rw [if_pos h1, if_pos (by omega)]
    · rw [if_neg h1, if_neg (by omega)]
theorem mulq_start {Q : List Int} {s : Nat} {L : Int} (h0 : ∀ i, i < s → co Q i = 0) : ∀ i, co Q i = if i < s then co Q i * L else co Q i := fun i => by
  by_cases h : i < s
  · rw [if_pos h, h0 i h]; simp
  · rw [if_neg h]
theorem rem_step {R R1 G : List Int} {j low : Nat} {L f v : Int} (h : ∀ i, co R1 i = if i < j then co R i * L - f * cs G low i else co R i) (hj : j < R1.length) (hv : v = co R1 j * L - f * cs G low j) : ∀ i, co (R1.set j v) i = if i < j + 1 then co R i * L - f * cs G low i else co R i := fun i => by
  rw [co_setZ hj]
  by_cases e : i = j
  · subst e; rw [if_pos rfl, if_pos (by omega), hv, h i, if_neg (by omega)]
  · rw [if_neg e, h i]
    by_cases h1 : i < j
    · rw [if_pos h1, if_pos (by omega)]
    · rw [if_neg h1, if_neg (by omega)]
theorem xsub_step {R R1 G : List Int} {j low : Nat} {f v : Int} (h : ∀ i, co R1 i = if i < low + j then co R i - f * cs G low i else co R i) (hj : low + j < R1.length) (hv : v = co R1 (low + j) - f * co G j) : ∀ i, co (R1.set (low + j) v) i = if i < low + (j + 1) then co R i - f * cs G low i else co R i := fun i => by
  rw [co_setZ hj]
  by_cases e : i = low + j
  · subst e; rw [if_pos rfl, if_pos (by omega), hv, h _, if_neg (by omega)]
    have : cs G low (low + j) = co G j := by unfold cs; rw [if_pos (by omega), show low + j - low = j by omega]
    rw [this]
  · rw [if_neg e, h i]
    by_cases h1 : i < low + j
    · rw [if_pos h1, if_pos (by omega)]
    · rw [if_neg h1, if_neg (by omega)]
theorem ld_deg {G : List Int} {d : Nat} (hd : (trimZ G).length = d + 1) : co G d = ldP G ∧ (∀ i, d < i → co G i = 0) ∧ ldP G ≠ 0 := by
  have h1 : ldP G = co (trimZ G) d := by unfold ldP; rw [hd, show (((d + 1 : Nat) : Int) - 1) = (d : Int) by omega, coI_nat]
  refine ⟨by rw [h1, co_trim], fun i hi => ?_, ?_⟩
  · rw [← co_trim]; exact zget_ge (n := d + 1) (by omega) i (by omega)
  · rw [h1]; have := canon_last (f := trimZ G) (canon_trim isZI G) (by omega); rwa [hd] at this
theorem bud_step {B M E s K : Nat} (h : B + E * s ≤ M + E * K) (hs : 0 < s) : B + E + E * (s - 1) ≤ M + E * K := by
  obtain ⟨t, rfl⟩ : ∃ t, s = t + 1 := ⟨s - 1, by omega⟩
  rw [Nat.mul_succ] at h
  rw [Nat.add_sub_cancel]
  omega
def psM (M G K : Nat) : Nat := M + (G + 6) * K
theorem psM_le {B M G t N K : Nat} (h : B + (G + 6) * t ≤ M + (G + 6) * N) (hK : N ≤ K + t) : B ≤ psM M G K := by
  have h1 : (G + 6) * N ≤ (G + 6) * (K + t) := Nat.mul_le_mul_left _ hK
  rw [Nat.mul_add] at h1
  unfold psM
  omega
def exM (M G K : Nat) : Nat := M + (G + 14) * K + 2
theorem exM_le {B M G t N K : Nat} (h : B + (G + 14) * t ≤ M + (G + 14) * N) (hK : N ≤ K) : B + 2 ≤ exM M G K := by
  have h1 : (G + 14) * N ≤ (G + 14) * K := Nat.mul_le_mul_left _ hK
  unfold exM
  omega
theorem exM_64 {M G K L : Nat} (hK : K ≤ L) : exM M G K ≤ M + L * (G + 14) + 2 := by
  have h1 : (G + 14) * K ≤ (G + 14) * L := Nat.mul_le_mul_left _ hK
  unfold exM
  rw [Nat.mul_comm L]
  omega
/-- How an inexact division shows itself. -/
def exFail (F G : List Int) : Prop := ∃ (Q R : List Int) (s : Nat), (∀ x : Rat, evQ F x = evQ Q x * evQ G x + evQ R x) ∧ (∀ i, s + ((trimZ G).length - 1) ≤ i → co R i = 0) ∧ ((0 < s ∧ ¬ ldP G ∣ co R (s - 1 + ((trimZ G).length - 1))) ∨ (s = 0 ∧ ∃ i, co R i ≠ 0))
theorem pq2 {Q Q1 : List Int} {low j : Nat} {L f : Int} (h : ∀ i, co Q1 i = if i < j then co Q i * L else co Q i) (hl : Q.length ≤ j) (hlow : low < Q1.length) : ∀ i, co (Q1.set low f) i = if i = low then f else co Q i * L := fun i => by
  rw [co_setZ hlow]
  by_cases e : i = low
  · rw [if_pos e, if_pos e]
  · rw [if_neg e, if_neg e, h i]
    by_cases h1 : i < j
    · rw [if_pos h1]
    · have hz : co Q i = 0 := zget_ge (n := j) hl i (by omega)
      rw [if_neg h1, hz]; simp
theorem ld_len {G : List Int} (h : ldP G ≠ 0) : ∃ d, (trimZ G).length = d + 1 := by
  rcases Nat.eq_zero_or_pos (trimZ G).length with h0 | h0
  · exfalso; apply h; unfold ldP; rw [← coI_out (.inl (by omega))]
  · exact ⟨(trimZ G).length - 1, by omega⟩
theorem co_zeros (m i : Nat) : co (zs (List.replicate m RI.zero)) i = 0 := by
  simp only [co, List.getD, List.getElem?_map, List.getElem?_replicate]
  by_cases h : i < m
  · simp [h, RI.zero, RI.z, zval, val]
  · simp [h]
theorem evQ_zeros (m : Nat) (x : Rat) : evQ (zs (List.replicate m RI.zero)) x = 0 := (evQ_congr x (g := []) fun i => by rw [co_zeros]; simp [co]).trans rfl
theorem xsub_start {R G : List Int} {low : Nat} {f : Int} : ∀ i, co R i = if i < low + 0 then co R i - f * cs G low i else co R i := fun i => by
  by_cases h : i < low + 0
  · rw [if_pos h]; unfold cs; rw [if_neg (by omega)]; simp
  · rw [if_neg h]
theorem xsub_all {R R1 G : List Int} {low d j : Nat} {f : Int} (h : ∀ i, co R1 i = if i < low + j then co R i - f * cs G low i else co R i) (hj : j = d + 1) (hG : ∀ i, d < i → co G i = 0) : ∀ i, co R1 i = co R i - f * cs G low i := fun i => by
  rw [h i]
  by_cases h1 : i < low + j
  · rw [if_pos h1]
  · rw [if_neg h1]
    have : cs G low i = 0 := by unfold cs; rw [if_pos (by omega), hG _ (by omega)]
    rw [this]; simp
theorem xsub_top {R R1 G : List Int} {low d s : Nat} {f L : Int} (h : ∀ i, co R1 i = co R i - f * cs G low i) (hs : s = low + 1) (h0 : ∀ i, s + d ≤ i → co R i = 0) (hd : co G d = L) (hG : ∀ i, d < i → co G i = 0) (hf : co R (low + d) = L * f) : ∀ i, s - 1 + d ≤ i → co R1 i = 0 := fun i hi => by
  rw [h i]
  by_cases e : i = low + d
  · subst e
    have : cs G low (low + d) = L := by unfold cs; rw [if_pos (by omega), show low + d - low = d by omega, hd]
    rw [this, hf, Int.mul_comm]; omega
  · have : cs G low i = 0 := by unfold cs; rw [if_pos (by omega), hG _ (by omega)]
    rw [this, h0 i (by omega)]; simp
theorem co_ne_of {R : List Int} (h : 0 ≤ ((trimZ R).length : Int) - 1) : ∃ i, co R i ≠ 0 := by
  have := canon_last (f := trimZ R) (canon_trim isZI R) (by omega)
  rw [co_trim] at this
  exact ⟨_, this⟩
theorem evQ_nil_of {R : List Int} {x : Rat} (h : ((trimZ R).length : Int) - 1 < 0) : evQ R x = 0 := by
  rw [← evQ_trim, List.eq_nil_of_length_eq_zero (by omega : (trimZ R).length = 0)]; rfl
theorem evQ_ppow (g : List Int) (x : Rat) : ∀ k, evQ (ppow g k) x = evQ g x ^ k
  | 0 => by
    show evQ [1] x = _
    simp only [evQ]
    have e1 : ((1 : Int) : Rat) = 1 := rfl
    rw [e1, Rat.pow_zero]; grind
  | k + 1 => by
    show evQ (pmul (ppow g k) g) x = _
    rw [evQ_pmul, evQ_ppow g x k, Rat.pow_succ]
end Go.Gx

/-
  Determinants by expansion along columns. Plain numbers; no program in sight.
-/
namespace Go.Gx
abbrev Row := Nat → Int
def lap (D : List Row → Int) (c : Nat) : List Row → List Row → Int
  | _, [] => 0
  | pre, r :: rs => r c * D (pre ++ rs) - lap D c (pre ++ [r]) rs
def det : List Nat → List Row → Int
  | [], [] => 1
  | [], _ :: _ => 0
  | c :: cl, rs => lap (det cl) c [] rs
structure Multi (D : List Row → Int) : Prop where
  add : ∀ (A : List Row) (u v : Row) (B : List Row), D (A ++ (fun c => u c + v c) :: B) = D (A ++ u :: B) + D (A ++ v :: B)
  smul : ∀ (A : List Row) (k : Int) (u : Row) (B : List Row), D (A ++ (fun c => k * u c) :: B) = k * D (A ++ u :: B)
  alt : ∀ (A : List Row) (u : Row) (B : List Row), D (A ++ u :: u :: B) = 0
section
variable {D : List Row → Int} (h : Multi D) (c : Nat)
include h
theorem lap_add_pre (A : List Row) (u v : Row) : ∀ (rs B : List Row), lap D c (A ++ (fun c => u c + v c) :: B) rs = lap D c (A ++ u :: B) rs + lap D c (A ++ v :: B) rs
  | [], B => by simp [lap]
  | r :: rs, B => by
    have ih := lap_add_pre A u v rs (B ++ [r])
    have h1 := h.add A u v (B ++ rs)
    simp only [lap, List.append_assoc, List.cons_append] at ih h1 ⊢
    rw [ih, h1, Int.mul_add]; omega
theorem lap_smul_pre (A : List Row) (k : Int) (u : Row) : ∀ (rs B : List Row), lap D c (A ++ (fun c => k * u c) :: B) rs = k * lap D c (A ++ u :: B) rs
  | [], B => by simp [lap]
  | r :: rs, B => by
    have ih := lap_smul_pre A k u rs (B ++ [r])
    have h1 := h.smul A k u (B ++ rs)
    simp only [lap, List.append_assoc, List.cons_append] at ih h1 ⊢
    rw [ih, h1, Int.mul_sub, ← Int.mul_assoc, Int.mul_comm (r c) k, Int.mul_assoc]
theorem lap_alt_pre (A : List Row) (u : Row) : ∀ (rs B : List Row), lap D c (A ++ u :: u :: B) rs = 0
  | [], B => by simp [lap]
  | r :: rs, B => by
    have ih := lap_alt_pre A u rs (B ++ [r])
    have h1 := h.alt A u (B ++ rs)
    simp only [lap, List.append_assoc, List.cons_append] at ih h1 ⊢
    rw [ih, h1]; simp
theorem lap_add (u v : Row) (B : List Row) : ∀ (A pre : List Row), lap D c pre (A ++ (fun c => u c + v c) :: B) = lap D c pre (A ++ u :: B) + lap D c pre (A ++ v :: B)
  | [], pre => by
    have h1 := lap_add_pre h c pre u v B []
    simp only [List.nil_append, lap]
    rw [h1, Int.add_mul]; omega
  | a :: A, pre => by
    have ih := lap_add u v B A (pre ++ [a])
    have h1 := h.add (pre ++ A) u v B
    simp only [List.append_assoc] at h1
    simp only [List.cons_append, lap]
    rw [ih, h1, Int.mul_add]; omega
theorem lap_smul (k : Int) (u : Row) (B : List Row) : ∀ (A pre : List Row), lap D c pre (A ++ (fun c => k * u c) :: B) = k * lap D c pre (A ++ u :: B)
  | [], pre => by
    have h1 := lap_smul_pre h c pre k u B []
    simp only [List.nil_append, lap]
    rw [h1, Int.mul_sub, Int.mul_assoc]
  | a :: A, pre => by
    have ih := lap_smul k u B A (pre ++ [a])
    have h1 := h.smul (pre ++ A) k u B
    simp only [List.append_assoc] at h1
    simp only [List.cons_append, lap]
    rw [ih, h1, Int.mul_sub, ← Int.mul_assoc, Int.mul_comm (a c) k, Int.mul_assoc]
theorem lap_alt (u : Row) (B : List Row) : ∀ (A pre : List Row), lap D c pre (A ++ u :: u :: B) = 0
  | [], pre => by
    have h1 := lap_alt_pre h c pre u B []
    simp only [List.nil_append, lap, List.append_assoc, List.cons_append]
    rw [h1]; omega
  | a :: A, pre => by
    have ih := lap_alt u B A (pre ++ [a])
    have h1 := h.alt (pre ++ A) u B
    simp only [List.append_assoc] at h1
    simp only [List.cons_append, lap]
    rw [ih, h1]; simp
end
theorem det_multi : ∀ cl, Multi (det cl)
  | [] => ⟨fun A u v B => by cases A <;> simp [det], fun A k u B => by cases A <;> simp [det], fun A u B => by cases A <;> simp [det]⟩
  | c :: cl => ⟨fun A u v B => lap_add (det_multi cl) c u v B A [], fun A k u B => lap_smul (det_multi cl) c k u B A [], fun A u B => lap_alt (det_multi cl) c u B A []⟩
/-- Only the first row meets the first column. -/
theorem lap_none {D : List Row → Int} {c : Nat} : ∀ (rs pre : List Row), (∀ r ∈ rs, r c = 0) → lap D c pre rs = 0
  | [], _, _ => rfl
  | r :: rs, pre, h => by
    simp only [lap]
    rw [h r (by simp), lap_none rs _ fun x hx => h x (by simp [hx])]; simp
theorem det_peel {c : Nat} {cl : List Nat} {u : Row} {rs : List Row} (h : ∀ r ∈ rs, r c = 0) : det (c :: cl) (u :: rs) = u c * det cl rs := by
  simp only [det, lap, List.nil_append]
  rw [lap_none rs _ h]; omega
section
variable {D : List Row → Int} (h : Multi D)
include h
theorem det_swap (A : List Row) (u v : Row) (B : List Row) : D (A ++ u :: v :: B) = - D (A ++ v :: u :: B) := by
  have h1 := h.alt A (fun c => u c + v c) B
  rw [h.add A u v ((fun c => u c + v c) :: B)] at h1
  have h2 := h.add (A ++ [u]) u v B
  have h3 := h.add (A ++ [v]) u v B
  simp only [List.append_assoc, List.cons_append, List.nil_append] at h2 h3
  rw [h2, h3, h.alt A u B, h.alt A v B] at h1
  omega
theorem det_perm {l l' : List Row} (p : l.Perm l') : ∀ A, (D (A ++ l)).natAbs = (D (A ++ l')).natAbs := by
  induction p with
  | nil => intro A; rfl
  | cons x _ ih => intro A; have := ih (A ++ [x]); simpa using this
  | swap x y l => intro A; rw [det_swap h A y x l]; omega
  | trans _ _ ih1 ih2 => intro A; rw [ih1 A, ih2 A]
theorem det_dup {A B : List Row} {u : Row} (hu : u ∈ A ∨ u ∈ B) : D (A ++ u :: B) = 0 := by
  have key : ∀ l : List Row, (A ++ u :: B).Perm (u :: u :: l) → D (A ++ u :: B) = 0 := fun l p => by
    have h1 := det_perm h p []
    have h2 := h.alt [] u l
    simp only [List.nil_append] at h1 h2
    rw [h2] at h1
    omega
  rcases hu with hu | hu
  · obtain ⟨s, t, rfl⟩ := List.append_of_mem hu
    refine key (s ++ (t ++ B)) ?_
    refine (List.perm_middle (a := u) (l₁ := s ++ u :: t) (l₂ := B)).trans (List.Perm.cons u ?_)
    rw [List.append_assoc, List.cons_append]
    exact List.perm_middle
  · obtain ⟨s, t, rfl⟩ := List.append_of_mem hu
    refine key (A ++ (s ++ t)) ?_
    refine List.perm_middle.trans (List.Perm.cons u ?_)
    rw [← List.append_assoc, ← List.append_assoc]
    exact List.perm_middle
/-- A row plus a combination of other rows. -/
theorem det_comb (A B : List Row) (w : Row) (k : Nat → Int) (v : Nat → Row) : ∀ n, (∀ t, t < n → v t ∈ A ∨ v t ∈ B) → D (A ++ (fun c => w c + rsum (fun t => k t * v t c) n) :: B) = D (A ++ w :: B)
  | 0, _ => by simp [rsum]
  | n + 1, hv => by
    have ih := det_comb A B w k v n fun t ht => hv t (by omega)
    have e : (fun c => w c + rsum (fun t => k t * v t c) (n + 1)) = (fun c => (fun c => w c + rsum (fun t => k t * v t c) n) c + (fun c => k n * v n c) c) := by
      funext c; simp only [rsum]; omega
    rw [e, h.add, ih, h.smul, det_dup h (hv n (by omega))]; omega
end
end Go.Gx

/-
  The subresultant sequence: its divisions are exact. Plain numbers; no program in sight.
-/
namespace Go.Gx
/-- x^(n-1) f, .., f -/
def rowsOf (f : List Int) : Nat → List Row
  | 0 => []
  | n + 1 => cs f n :: rowsOf f n
def colsOf : Nat → Nat → List Nat
  | _, 0 => []
  | hi, n + 1 => hi :: colsOf (hi - 1) n
/-- The coefficient of x^j of the subresultant of degree k of a and b, of degrees n and m. -/
def Sr (k : Nat) (a b : List Int) (n m j : Nat) : Int := det (colsOf (n + m - k - 1) (n + m - 2 * k - 1) ++ [j]) (rowsOf a (m - k) ++ rowsOf b (n - k))
theorem mem_rows {f : List Int} {t : Nat} : ∀ {n : Nat}, t < n → cs f t ∈ rowsOf f n
  | 0, h => by omega
  | n + 1, h => by
    rcases Nat.lt_or_ge t n with h1 | h1
    · exact List.mem_cons_of_mem _ (mem_rows h1)
    · obtain rfl : t = n := by omega
      exact List.mem_cons_self
theorem rows_mem {f : List Int} {r : Row} : ∀ {n : Nat}, r ∈ rowsOf f n → ∃ t, t < n ∧ r = cs f t
  | 0, h => by simp [rowsOf] at h
  | n + 1, h => by
    rcases List.mem_cons.1 h with h1 | h1
    · exact ⟨n, by omega, h1⟩
    · obtain ⟨t, h2, h3⟩ := rows_mem h1; exact ⟨t, by omega, h3⟩
theorem rows_replace {D : List Row → Int} (h : Multi D) {a b r : List Int} {L β : Int} {q : Nat → Int} {e : Nat} {Bs : List Row} :
    ∀ (i : Nat) (pre : List Row), (∀ t, t < i → ∀ c, L * cs a t c = β * cs r t c + rsum (fun u => q u * cs b (t + u) c) e) → (∀ t u, t < i → u < e → cs b (t + u) ∈ Bs) →
      L ^ i * D (pre ++ (rowsOf a i ++ Bs)) = β ^ i * D (pre ++ (rowsOf r i ++ Bs))
  | 0, pre, _, _ => by simp [rowsOf]
  | i + 1, pre, h1, h2 => by
    have ih := rows_replace h i (pre ++ [cs r i]) (fun t ht => h1 t (by omega)) (fun t u ht hu => h2 t u (by omega) hu)
    have e1 : (fun c => L * cs a i c) = (fun c => (fun c => β * cs r i c) c + rsum (fun u => q u * cs b (i + u) c) e) := by
      funext c; exact h1 i (by omega) c
    have s1 := h.smul pre L (cs a i) (rowsOf a i ++ Bs)
    have s2 := h.smul pre β (cs r i) (rowsOf a i ++ Bs)
    have s3 := det_comb h pre (rowsOf a i ++ Bs) (fun c => β * cs r i c) q (fun u => cs b (i + u)) e (fun u hu => .inr (List.mem_append_right _ (h2 i u (by omega) hu)))
    rw [← e1, s1, s2] at s3
    simp only [rowsOf, List.cons_append, List.append_assoc, List.nil_append] at ih ⊢
    rw [Int.pow_succ, Int.pow_succ, Int.mul_assoc, s3, ← Int.mul_assoc, Int.mul_comm (L ^ i) β, Int.mul_assoc, ih, ← Int.mul_assoc, Int.mul_comm β]
theorem rows_peel {b r : List Int} {L : Int} {i m s q : Nat} {js : List Nat} (hL : co b m = L) (hb : ∀ x, m < x → co b x = 0) (hr : ∀ t c, t < s → i + m ≤ c → cs r t c = 0) :
    ∀ p, det (colsOf (i + p + m - 1) (p + q) ++ js) (rowsOf b (i + p) ++ rowsOf r s) = L ^ p * det (colsOf (i + m - 1) q ++ js) (rowsOf b i ++ rowsOf r s)
  | 0 => by simp
  | p + 1 => by
    have ih := rows_peel (q := q) (js := js) hL hb hr p
    rw [show i + (p + 1) + m - 1 = i + p + m by omega, show p + 1 + q = (p + q) + 1 by omega, show i + (p + 1) = (i + p) + 1 by omega]
    simp only [colsOf, rowsOf, List.cons_append]
    rw [det_peel (fun x hx => ?_), ih, ← Int.mul_assoc, Int.pow_succ, Int.mul_comm (L ^ p)]
    · congr 2
      unfold cs; rw [if_pos (by omega), show i + p + m - (i + p) = m by omega, hL]
    · rcases List.mem_append.1 hx with h1 | h1
      · obtain ⟨t, ht, rfl⟩ := rows_mem h1
        unfold cs; rw [if_pos (by omega)]; exact hb _ (by omega)
      · obtain ⟨t, ht, rfl⟩ := rows_mem h1
        exact hr t _ ht (by omega)
theorem row_id {a b q r : List Int} {L β : Int} {d : Nat} (hq : ∀ u, d < u → co q u = 0) (h : ∀ x, L * co a x = co (pmul q b) x + β * co r x) (t c : Nat) :
    L * cs a t c = β * cs r t c + rsum (fun u => co q u * cs b (t + u) c) (d + 1) := by
  by_cases hc : t ≤ c
  · have e0 : rsum (fun u => co q u * cs b (t + u) c) (d + 1) = co (pmul q b) (c - t) := by
      rw [co_pmul]
      unfold conv convF
      have e1 := rsum_more (F := fun u => co q u * cs b (t + u) c) (n := d + 1) (m := max (d + 1) (c - t + 1)) (by omega) (fun u h1 h2 => by rw [hq u (by omega), Int.zero_mul])
      have e2 := rsum_more (F := fun u => co q u * cs b (t + u) c) (n := c - t + 1) (m := max (d + 1) (c - t + 1)) (by omega) (fun u h1 h2 => by unfold cs; rw [if_neg (by omega), Int.mul_zero])
      rw [← e1, e2]
      refine rsum_congr fun u hu => ?_
      unfold cs
      rw [if_pos (by omega), show c - (t + u) = c - t - u by omega]
    have h1 := h (c - t)
    rw [e0]
    unfold cs
    rw [if_pos hc, if_pos hc]
    omega
  · have e0 : rsum (fun u => co q u * cs b (t + u) c) (d + 1) = 0 := rsum_zero fun u _ => by unfold cs; rw [if_neg (by omega), Int.mul_zero]
    rw [e0]
    unfold cs
    rw [if_neg hc, if_neg hc]; simp
/-- One step of the sequence. -/
theorem sub_down {a b q r : List Int} {L L1 β : Int} {n m d nr k j : Nat} (hL : co b m = L) (hb : ∀ x, m < x → co b x = 0) (hr : ∀ x, nr < x → co r x = 0) (hq : ∀ u, d < u → co q u = 0)
    (h : ∀ x, L1 * co a x = co (pmul q b) x + β * co r x) (hn : n = m + d) (hnr : nr < m) (hk : k ≤ nr) :
    (L1 ^ (m - k) * Sr k a b n m j).natAbs = (β ^ (m - k) * (L ^ (n - nr) * Sr k b r m nr j)).natAbs := by
  have e1 := rows_replace (det_multi (colsOf (n + m - k - 1) (n + m - 2 * k - 1) ++ [j])) (a := a) (b := b) (r := r) (L := L1) (β := β) (q := co q) (e := d + 1) (Bs := rowsOf b (n - k)) (m - k) []
    (fun t _ c => row_id hq h t c) (fun t u ht hu => mem_rows (by omega))
  have e2 := det_perm (det_multi (colsOf (n + m - k - 1) (n + m - 2 * k - 1) ++ [j])) (List.perm_append_comm (l₁ := rowsOf r (m - k)) (l₂ := rowsOf b (n - k))) []
  have e3 := rows_peel (b := b) (r := r) (L := L) (i := nr - k) (m := m) (s := m - k) (q := m + nr - 2 * k - 1) (js := [j]) hL hb (fun t c ht hc => by
    unfold cs; split
    · exact hr _ (by omega)
    · rfl) (n - nr)
  rw [show nr - k + (n - nr) + m - 1 = n + m - k - 1 by omega, show n - nr + (m + nr - 2 * k - 1) = n + m - 2 * k - 1 by omega, show nr - k + (n - nr) = n - k by omega, show nr - k + m - 1 = m + nr - k - 1 by omega] at e3
  simp only [List.nil_append] at e1 e2
  unfold Sr
  rw [e1, Int.natAbs_mul, Int.natAbs_mul, e2, e3]
/-- The rest of the pseudo-division is a subresultant. -/
theorem sub_prem {a b q R : List Int} {L : Int} {n m d j : Nat} (hL : co b m = L) (hL0 : L ≠ 0) (hb : ∀ x, m < x → co b x = 0) (hr : ∀ x, m ≤ x → co R x = 0) (hq : ∀ u, d < u → co q u = 0)
    (h : ∀ x, L ^ (d + 1) * co a x = co (pmul q b) x + co R x) (hn : n = m + d) (hm : 1 ≤ m) : (Sr (m - 1) a b n m j).natAbs = (co R j).natAbs := by
  have e1 := rows_replace (det_multi (colsOf (n + m - (m - 1) - 1) (n + m - 2 * (m - 1) - 1) ++ [j])) (a := a) (b := b) (r := R) (L := L ^ (d + 1)) (β := 1) (q := co q) (e := d + 1) (Bs := rowsOf b (n - (m - 1))) 1 []
    (fun t _ c => row_id hq (fun x => by rw [h x]; omega) t c) (fun t u ht hu => mem_rows (by omega))
  have e2 := det_perm (det_multi (colsOf (n + m - (m - 1) - 1) (n + m - 2 * (m - 1) - 1) ++ [j])) (List.perm_append_comm (l₁ := rowsOf R 1) (l₂ := rowsOf b (n - (m - 1)))) []
  have e3 := rows_peel (b := b) (r := R) (L := L) (i := 0) (m := m) (s := 1) (q := 0) (js := [j]) hL hb (fun t c ht hc => by
    unfold cs; split
    · exact hr _ (by omega)
    · rfl) (d + 1)
  rw [show 0 + (d + 1) + m - 1 = n + m - (m - 1) - 1 by omega, show d + 1 + 0 = n + m - 2 * (m - 1) - 1 by omega, show 0 + (n + m - 2 * (m - 1) - 1) = n - (m - 1) by omega] at e3
  have e4 : det (colsOf (0 + m - 1) 0 ++ [j]) (rowsOf b 0 ++ rowsOf R 1) = co R j := by
    simp only [colsOf, rowsOf, List.nil_append]
    rw [det_peel (by simp)]
    simp [det, cs]
  rw [e4] at e3
  simp only [List.nil_append, Int.pow_one, Int.one_mul] at e1 e2
  have e5 : (L ^ (d + 1)).natAbs * (Sr (m - 1) a b n m j).natAbs = (L ^ (d + 1)).natAbs * (co R j).natAbs := by
    unfold Sr
    rw [← Int.natAbs_mul, show m - (m - 1) = 1 by omega, e1, e2, e3, Int.natAbs_mul]
    rw [show n + m - 2 * (m - 1) - 1 = d + 1 by omega]
  have hp : (L ^ (d + 1)).natAbs ≠ 0 := Int.natAbs_ne_zero.2 (Int.pow_ne_zero hL0)
  exact Nat.eq_of_mul_eq_mul_left (by omega) e5
/-- The regular subresultant. -/
theorem sub_reg {a b : List Int} {L : Int} {n m : Nat} (hL : co b m = L) (hb : ∀ x, m < x → co b x = 0) (hn : m < n) : Sr m a b n m m = L ^ (n - m) := by
  have e3 := rows_peel (b := b) (r := []) (L := L) (i := 1) (m := m) (s := 0) (q := 0) (js := [m]) hL hb (fun t c ht hc => by omega) (n - m - 1)
  unfold Sr
  rw [show 1 + (n - m - 1) + m - 1 = n + m - m - 1 by omega, show n - m - 1 + 0 = n + m - 2 * m - 1 by omega, show 1 + (n - m - 1) = n - m by omega] at e3
  rw [show m - m = 0 by omega]
  simp only [rowsOf, List.append_nil] at e3
  simp only [rowsOf, List.nil_append]
  rw [e3]
  simp only [colsOf, List.nil_append]
  rw [det_peel (by simp)]
  simp only [det, cs]
  rw [if_pos (by omega), Nat.sub_zero, hL, Int.mul_one, ← Int.pow_succ]
  congr 1
  omega
theorem sub_exp {L l s s' D X A B u e d : Nat} (hL : 0 < L) (hl : 0 < l) (hs : 0 < s) (hu : 1 ≤ u) (he : e ≤ u) (h1 : (L ^ (d + 1)) ^ u * A = D ^ u * (L ^ (d + u - e) * B)) (h2 : A = l ^ u * s ^ (u - 1 + d) * X) (h3 : D = l * s ^ d)
    (h4 : (d = 0 ∧ s' = s) ∨ (1 ≤ d ∧ s' * s ^ (d - 1) = L ^ d)) : B = L ^ e * s' ^ (u - 1) * X := by
  obtain ⟨w, rfl⟩ : ∃ w, u = w + 1 := ⟨u - 1, by omega⟩
  rw [Nat.add_sub_cancel] at h2 ⊢
  have key : (L ^ (d + 1)) ^ (w + 1) * s ^ (w + d) = s ^ (d * (w + 1)) * L ^ (d + (w + 1)) * s' ^ w := by
    rcases h4 with ⟨rfl, rfl⟩ | ⟨hd, h4⟩
    · rw [Nat.zero_mul, Nat.pow_zero, Nat.one_mul, ← Nat.pow_mul]
      congr 2; omega
    · obtain ⟨c, rfl⟩ : ∃ c, d = c + 1 := ⟨d - 1, by omega⟩
      rw [Nat.add_sub_cancel] at h4
      have e1 : s' ^ w * s ^ (c * w) = L ^ ((c + 1) * w) := by rw [Nat.pow_mul, ← Nat.mul_pow, h4, ← Nat.pow_mul]
      have e2 : s ^ ((c + 1) * (w + 1)) = s ^ (c * w) * s ^ (w + (c + 1)) := by rw [← Nat.pow_add]; congr 1; rw [Nat.add_mul, Nat.mul_add]; omega
      have e3 : (L ^ (c + 1 + 1)) ^ (w + 1) = L ^ (c + 1 + (w + 1)) * L ^ ((c + 1) * w) := by
        rw [← Nat.pow_mul, ← Nat.pow_add]; congr 1
        rw [Nat.add_mul, Nat.mul_add]; omega
      rw [e2, e3, ← e1]
      generalize s ^ (c * w) = x
      generalize s ^ (w + (c + 1)) = y
      generalize L ^ (c + 1 + (w + 1)) = z
      generalize s' ^ w = t
      grind
  have e4 : D ^ (w + 1) = l ^ (w + 1) * s ^ (d * (w + 1)) := by rw [h3, Nat.mul_pow, ← Nat.pow_mul]
  have e5 : L ^ (d + (w + 1)) = L ^ (d + (w + 1) - e) * L ^ e := by rw [← Nat.pow_add]; congr 1; omega
  have p1 : 0 < l ^ (w + 1) := Nat.pow_pos hl
  have p2 : 0 < s ^ (d * (w + 1)) := Nat.pow_pos hs
  have p3 : 0 < L ^ (d + (w + 1) - e) := Nat.pow_pos hL
  have e6 : l ^ (w + 1) * (s ^ (d * (w + 1)) * (L ^ (d + (w + 1) - e) * B)) = l ^ (w + 1) * (s ^ (d * (w + 1)) * (L ^ (d + (w + 1) - e) * (L ^ e * s' ^ w * X))) := by
    rw [e4, h2] at h1
    rw [e5] at key
    generalize l ^ (w + 1) = x1 at *
    generalize s ^ (d * (w + 1)) = x2 at *
    generalize L ^ (d + (w + 1) - e) = x3 at *
    generalize L ^ e = x4 at *
    generalize s' ^ w = x5 at *
    generalize s ^ (w + d) = x6 at *
    generalize (L ^ (d + 1)) ^ (w + 1) = x7 at *
    have h5 : x1 * (x2 * (x3 * B)) = x1 * (x7 * x6) * X := by rw [← Nat.mul_assoc x1 x2, ← h1]; grind
    rw [h5, key]; grind
  exact Nat.eq_of_mul_eq_mul_left p3 (Nat.eq_of_mul_eq_mul_left p2 (Nat.eq_of_mul_eq_mul_left p1 e6))
/-- The invariant of the sequence that starts from a0 and b0. -/
structure SubI (a0 b0 : List Int) (n0 m0 : Nat) (a b : List Int) (n m : Nat) (l s : Int) : Prop where
  le : m ≤ n
  top : co b m ≠ 0
  hb : ∀ x, m < x → co b x = 0
  ha : ∀ x, n < x → co a x = 0
  l0 : l ≠ 0
  s0 : s ≠ 0
  sr : ∀ k j, k ≤ m → k < n → (Sr k a b n m j).natAbs = l.natAbs ^ (m - k) * s.natAbs ^ (n - k - 1) * (Sr k a0 b0 n0 m0 j).natAbs
section
variable {a0 b0 a b q R r : List Int} {n0 m0 n m d nr : Nat} {l s D l' s' : Int}
theorem SubI.start (h1 : m ≤ n) (h2 : co b m ≠ 0) (h3 : ∀ x, m < x → co b x = 0) (h4 : ∀ x, n < x → co a x = 0) (hl : l.natAbs = 1) (hs : s.natAbs = 1) : SubI a b n m a b n m l s :=
  ⟨h1, h2, h3, h4, by omega, by omega, fun k j _ _ => by rw [hl, hs]; simp⟩
theorem SubI.exact (h : SubI a0 b0 n0 m0 a b n m l s) (hr : ∀ x, m ≤ x → co R x = 0) (hq : ∀ u, n - m < u → co q u = 0) (hid : ∀ x, co b m ^ (n - m + 1) * co a x = co (pmul q b) x + co R x) (hD : D.natAbs = l.natAbs * s.natAbs ^ (n - m)) (j : Nat) : D ∣ co R j := by
  rcases Nat.lt_or_ge j m with hj | hj
  · have e1 := sub_prem (n := n) (m := m) (d := n - m) (j := j) rfl h.top h.hb hr hq hid (by have := h.le; omega) (by omega)
    have e2 := h.sr (m - 1) j (by omega) (by have := h.le; omega)
    rw [e1, show m - (m - 1) = 1 by omega, show n - (m - 1) - 1 = n - m by omega, Nat.pow_one] at e2
    rw [← Int.natAbs_dvd_natAbs, e2, hD]
    exact Nat.dvd_mul_right _ _
  · rw [hr j hj]; exact Int.dvd_zero _
theorem SubI.reg (h : SubI a0 b0 n0 m0 a b n m l s) (hn : m < n) : s.natAbs ^ (n - m - 1) ∣ (co b m).natAbs ^ (n - m) := by
  have e1 := h.sr m m (Nat.le_refl _) hn
  rw [sub_reg rfl h.hb hn, Int.natAbs_pow, Nat.sub_self, Nat.pow_zero, Nat.one_mul] at e1
  rw [e1]; exact Nat.dvd_mul_right _ _
theorem SubI.next (h : SubI a0 b0 n0 m0 a b n m l s) (hq : ∀ u, n - m < u → co q u = 0) (hid : ∀ x, co b m ^ (n - m + 1) * co a x = co (pmul q b) x + D * co r x) (hD : D.natAbs = l.natAbs * s.natAbs ^ (n - m))
    (ht : co r nr ≠ 0) (hr : ∀ x, nr < x → co r x = 0) (hnr : nr < m) (hl : l'.natAbs = (co b m).natAbs) (hs : (n = m ∧ s' = s) ∨ (m < n ∧ s'.natAbs * s.natAbs ^ (n - m - 1) = (co b m).natAbs ^ (n - m))) : SubI a0 b0 n0 m0 b r m nr l' s' := by
  have hL := h.top
  have hle := h.le
  have h0 := h.l0
  have h1 := h.s0
  refine ⟨by omega, ht, hr, h.hb, by omega, ?_, fun k j hk hkm => ?_⟩
  · rcases hs with ⟨_, rfl⟩ | ⟨_, hs⟩
    · exact h1
    · intro e
      rw [e, Int.natAbs_zero, Nat.zero_mul] at hs
      have : 0 < (co b m).natAbs ^ (n - m) := Nat.pow_pos (by omega)
      omega
  · have e1 := sub_down (n := n) (m := m) (d := n - m) (j := j) rfl h.hb hr hq hid (by omega) hnr hk
    have e2 := h.sr k j (by omega) (by omega)
    rw [Int.natAbs_mul, Int.natAbs_mul, Int.natAbs_mul, Int.natAbs_pow, Int.natAbs_pow, Int.natAbs_pow, Int.natAbs_pow] at e1
    rw [hl]
    have := sub_exp (L := (co b m).natAbs) (l := l.natAbs) (s := s.natAbs) (s' := s'.natAbs) (D := D.natAbs) (X := (Sr k a0 b0 n0 m0 j).natAbs) (A := (Sr k a b n m j).natAbs) (B := (Sr k b r m nr j).natAbs) (u := m - k) (e := nr - k) (d := n - m)
      (by omega) (by omega) (by omega) (by omega) (by omega) (by rw [e1, show n - nr = n - m + (m - k) - (nr - k) by omega]) (by rw [e2, show n - k - 1 = m - k - 1 + (n - m) by omega]) hD
      (hs.imp (fun h => ⟨by omega, by rw [h.2]⟩) (fun h => ⟨by omega, h.2⟩))
    exact this
end
end Go.Gx

/-
  Signs of polynomials beyond their roots. Plain numbers; no program in sight.
-/
namespace Go.Gx
def evI : List Int → Int → Int
  | [], _ => 0
  | a :: l, x => a + x * evI l x
theorem evQ_int (x : Int) : ∀ f : List Int, evQ f (x : Rat) = ((evI f x : Int) : Rat)
  | [] => rfl
  | a :: l => by simp only [evQ, evI, evQ_int x l, Rat.intCast_add, Rat.intCast_mul]
theorem big_sign {x : Int} {H : Nat} (hx : (H : Int) + 2 ≤ x ∨ x ≤ -((H : Int) + 2)) : ∀ (F : List Int), F.length ≠ 0 → co F (F.length - 1) ≠ 0 → hgt F ≤ H → evI F x ≠ 0 ∧ (0 < x → (0 < evI F x ↔ 0 < co F (F.length - 1))) ∧ (x < 0 → (0 < evI F x ↔ (if (F.length - 1) % 2 = 0 then 0 < co F (F.length - 1) else co F (F.length - 1) < 0)))
  | [], h, _, _ => absurd rfl h
  | [a], _, h1, _ => by simp [evI, co] at h1 ⊢; exact h1
  | a :: b :: l, _, h1, h2 => by
    have e1 : co (a :: b :: l) ((a :: b :: l).length - 1) = co (b :: l) ((b :: l).length - 1) := by simp [co]
    rw [e1] at h1 ⊢
    simp only [hgt] at h2
    have ih := big_sign hx (b :: l) (by simp) h1 (by simp only [hgt]; omega)
    have ha : a.natAbs ≤ H := by omega
    show a + x * evI (b :: l) x ≠ 0 ∧ (0 < x → (0 < a + x * evI (b :: l) x ↔ _)) ∧ (x < 0 → (0 < a + x * evI (b :: l) x ↔ _))
    generalize evI (b :: l) x = E at *
    generalize co (b :: l) ((b :: l).length - 1) = c at *
    obtain ⟨hE, hp, hn⟩ := ih
    have hl : (a :: b :: l).length - 1 = (b :: l).length - 1 + 1 := by simp
    rw [hl]
    generalize (b :: l).length - 1 = k at *
    rcases hx with hx | hx
    · rcases Int.lt_or_gt_of_ne hE with h | h
      · have h3 : x * E ≤ x * (-1) := Int.mul_le_mul_of_nonneg_left (by omega) (by omega)
        refine ⟨by omega, fun _ => ⟨fun h4 => by omega, fun h4 => ?_⟩, fun h4 => by omega⟩
        have := (hp (by omega)).2 h4; omega
      · have h3 : x * 1 ≤ x * E := Int.mul_le_mul_of_nonneg_left (by omega) (by omega)
        refine ⟨by omega, fun _ => ⟨fun _ => (hp (by omega)).1 h, fun h4 => by omega⟩, fun h4 => by omega⟩
    · have hn' := hn (by omega)
      rcases Int.lt_or_gt_of_ne hE with h | h
      · have h3 : (-x) * 1 ≤ (-x) * (-E) := Int.mul_le_mul_of_nonneg_left (by omega) (by omega)
        rw [Int.neg_mul_neg] at h3
        have hpos : 0 < a + x * E := by omega
        refine ⟨by omega, fun h4 => by omega, fun _ => ⟨fun _ => ?_, fun _ => hpos⟩⟩
        have hne : ¬ (if k % 2 = 0 then 0 < c else c < 0) := fun h5 => by have := hn'.2 h5; omega
        by_cases hk : k % 2 = 0
        · rw [if_pos hk] at hne; rw [if_neg (by omega)]; omega
        · rw [if_neg hk] at hne; rw [if_pos (by omega)]; omega
      · have h3 : (-x) * 1 ≤ (-x) * E := Int.mul_le_mul_of_nonneg_left (by omega) (by omega)
        have e3 : (-x) * E = -(x * E) := Int.neg_mul x E
        have hneg : a + x * E < 0 := by omega
        refine ⟨by omega, fun h4 => by omega, fun _ => ⟨fun h4 => by omega, fun h5 => ?_⟩⟩
        exfalso
        have h6 := hn'.1 h
        by_cases hk : k % 2 = 0
        · rw [if_pos hk] at h6; rw [if_neg (by omega)] at h5; omega
        · rw [if_neg hk] at h6; rw [if_pos (by omega)] at h5; omega
end Go.Gx
namespace Go.Gx
end Go.Gx

/-
  Inverses of shifts and reversals; sums of fractions. Plain numbers; no program in sight.
-/
namespace Go.Gx
theorem evQ_zero {f : List Int} (h : ∀ x : Int, evI f x = 0) : trimZ f = [] := by
  by_cases h0 : (trimZ f).length = 0
  · exact List.eq_nil_of_length_eq_zero h0
  · exfalso
    have hl := canon_last (canon_trim isZI f) h0
    have hb := big_sign (x := (hgt (trimZ f) : Int) + 2) (H := hgt (trimZ f)) (.inl (Int.le_refl _)) (trimZ f) h0 hl (Nat.le_refl _)
    apply hb.1
    have e : ((evI (trimZ f) ((hgt (trimZ f) : Int) + 2) : Int) : Rat) = ((evI f ((hgt (trimZ f) : Int) + 2) : Int) : Rat) := by rw [← evQ_int, ← evQ_int, evQ_trim]
    rw [Rat.intCast_inj.1 e]
    exact h _
theorem evQ_psub (q : Rat) (f g : List Int) : evQ (psub f g) q = evQ f q - evQ g q := by
  rw [evQ_congr q (g := padd f (scaleP g (-1))) (fun i => by rw [co_psub, co_padd, co_scaleP]; omega), evQ_padd, evQ_scale]
  show evQ f q + ((-1 : Int) : Rat) * evQ g q = _
  have : ((-1 : Int) : Rat) = -1 := rfl
  rw [this]; grind
theorem poly_eq {f g : List Int} (h : ∀ x : Int, evQ f (x : Rat) = evQ g (x : Rat)) : trimZ f = trimZ g := by
  have h1 : trimZ (psub f g) = [] := evQ_zero fun x => by
    have := evQ_psub (x : Rat) f g
    rw [h x, evQ_int] at this
    have e : evQ g (x : Rat) - evQ g (x : Rat) = ((0 : Int) : Rat) := by
      have : ((0 : Int) : Rat) = 0 := rfl
      rw [this]; grind
    rw [e] at this
    exact Rat.intCast_inj.1 this
  refine trim_inj fun i => ?_
  have h2 := co_trim (psub f g) i
  rw [h1, co_psub] at h2
  have : co [] i = 0 := by simp [co]
  omega
end Go.Gx
namespace Go.Gx
theorem prod_rule_co (F G : List Int) (k : Nat) : co (derivP (pmul F G)) k = co (padd (pmul (derivP F) G) (pmul F (derivP G))) k := by
  rw [co_derivP, co_pmul, co_padd, co_pmul, co_pmul]
  have hA : conv (derivP F) G k = rsum (fun j => ((j : Nat) : Int) * (co F j * co G (k + 1 - j))) (k + 2) := by
    rw [rsum_head]
    unfold conv convF
    rw [rsum_congr (G := fun i => ((i + 1 : Nat) : Int) * (co F (i + 1) * co G (k + 1 - (i + 1)))) (fun i hi => by
      rw [co_derivP, show k + 1 - (i + 1) = k - i by omega]; grind)]
    simp
  have hB : conv F (derivP G) k = rsum (fun j => ((k + 1 - j : Nat) : Int) * (co F j * co G (k + 1 - j))) (k + 2) := by
    rw [rsum_succ]
    unfold conv convF
    rw [rsum_congr (G := fun j => ((k + 1 - j : Nat) : Int) * (co F j * co G (k + 1 - j))) (fun i hi => by
      rw [co_derivP, show k - i + 1 = k + 1 - i by omega]; grind)]
    simp
  rw [hA, hB, ← rsum_add]
  unfold conv convF
  rw [← rsum_mul_r]
  refine rsum_congr fun j hj => ?_
  have e : ((j : Nat) : Int) + ((k + 1 - j : Nat) : Int) = ((k + 1 : Nat) : Int) := by omega
  rw [← Int.add_mul, e, Int.mul_comm]
end Go.Gx

/-
  Polynomials with rational coefficients: degrees, divisibility, division with rest, common divisors. Plain numbers; no program in sight.
-/
namespace Go.Gx
/-- A polynomial function. -/
structure QP where
  v : Rat → Rat
  p : ∃ (c : Int) (l : List Int), c ≠ 0 ∧ ∀ x, (c : Rat) * v x = evQ l x
theorem QP.eq {f g : QP} (h : ∀ x, f.v x = g.v x) : f = g := by
  cases f; cases g
  simp only [QP.mk.injEq]
  exact funext h
theorem one_cast : ((1 : Int) : Rat) = 1 := rfl
theorem zero_cast : ((0 : Int) : Rat) = 0 := rfl
/-- The polynomial with these coefficients. -/
def P (l : List Int) : QP := ⟨evQ l, 1, l, by decide, fun x => by rw [one_cast]; grind⟩
instance : Add QP := ⟨fun f g => ⟨fun x => f.v x + g.v x, by
  obtain ⟨c, l, hc, h⟩ := f.p
  obtain ⟨d, m, hd, k⟩ := g.p
  exact ⟨c * d, padd (scaleP l d) (scaleP m c), Int.mul_ne_zero hc hd, fun x => by rw [evQ_padd, evQ_scale, evQ_scale, ← h, ← k, Rat.intCast_mul]; grind⟩⟩⟩
instance : Neg QP := ⟨fun f => ⟨fun x => - f.v x, by
  obtain ⟨c, l, hc, h⟩ := f.p
  exact ⟨-c, l, by omega, fun x => by rw [← h, Rat.intCast_neg]; grind⟩⟩⟩
instance : Sub QP := ⟨fun f g => ⟨fun x => f.v x - g.v x, by
  obtain ⟨c, l, hc, h⟩ := f.p
  obtain ⟨d, m, hd, k⟩ := g.p
  exact ⟨c * d, psub (scaleP l d) (scaleP m c), Int.mul_ne_zero hc hd, fun x => by rw [evQ_psub, evQ_scale, evQ_scale, ← h, ← k, Rat.intCast_mul]; grind⟩⟩⟩
instance : Mul QP := ⟨fun f g => ⟨fun x => f.v x * g.v x, by
  obtain ⟨c, l, hc, h⟩ := f.p
  obtain ⟨d, m, hd, k⟩ := g.p
  exact ⟨c * d, pmul l m, Int.mul_ne_zero hc hd, fun x => by rw [evQ_pmul, ← h, ← k, Rat.intCast_mul]; grind⟩⟩⟩
theorem den_ne (r : Rat) : ((r.den : Int) : Rat) ≠ 0 := cast_ne (by have := r.den_nz; omega)
theorem den_mul (r : Rat) : ((r.den : Int) : Rat) * r = (r.num : Rat) := by
  have h : (r.num : Rat) / ((r.den : Int) : Rat) = r := by
    rw [← Rat.divInt_eq_div]; exact Rat.num_divInt_den r
  have := den_ne r
  grind
/-- A constant. -/
def K (r : Rat) : QP := ⟨fun _ => r, r.den, [r.num], by have := r.den_nz; omega, fun x => by rw [den_mul]; simp only [evQ]; grind⟩
instance : OfNat QP 0 := ⟨K 0⟩
instance : OfNat QP 1 := ⟨K 1⟩
theorem pow_ne {a : Rat} (h : a ≠ 0) : ∀ n : Nat, a ^ n ≠ 0
  | 0 => by rw [Rat.pow_zero]; decide
  | n + 1 => by rw [Rat.pow_succ]; exact fun e => (Rat.mul_eq_zero.1 e).elim (pow_ne h n) h
theorem rat_mul_pow (a b : Rat) : ∀ n : Nat, (a * b) ^ n = a ^ n * b ^ n
  | 0 => by simp only [Rat.pow_zero]; grind
  | n + 1 => by simp only [Rat.pow_succ, rat_mul_pow a b n]; grind
theorem rat_pow_add (a : Rat) (m : Nat) : ∀ n : Nat, a ^ (m + n) = a ^ m * a ^ n
  | 0 => by simp only [Rat.pow_zero, Nat.add_zero]; grind
  | n + 1 => by rw [← Nat.add_assoc]; simp only [Rat.pow_succ, rat_pow_add a m n]; grind
instance : HPow QP Nat QP := ⟨fun f n => ⟨fun x => f.v x ^ n, by
  obtain ⟨c, l, hc, h⟩ := f.p
  refine ⟨c ^ n, ppow l n, Int.pow_ne_zero hc, fun x => ?_⟩
  rw [evQ_ppow, ← h, rat_mul_pow, cast_pow]⟩⟩
theorem v_add (f g : QP) (x : Rat) : (f + g).v x = f.v x + g.v x := rfl
theorem v_sub (f g : QP) (x : Rat) : (f - g).v x = f.v x - g.v x := rfl
theorem v_neg (f : QP) (x : Rat) : (-f).v x = - f.v x := rfl
theorem v_mul (f g : QP) (x : Rat) : (f * g).v x = f.v x * g.v x := rfl
theorem v_pow (f : QP) (n : Nat) (x : Rat) : (f ^ n).v x = f.v x ^ n := rfl
theorem v_K (r x : Rat) : (K r).v x = r := rfl
theorem v_0 (x : Rat) : (0 : QP).v x = 0 := rfl
theorem v_1 (x : Rat) : (1 : QP).v x = 1 := rfl
theorem v_P (l : List Int) (x : Rat) : (P l).v x = evQ l x := rfl
theorem qat {f g : QP} (h : f = g) (x : Rat) : f.v x = g.v x := by rw [h]
theorem P_mul (f g : List Int) : P (pmul f g) = P f * P g := QP.eq fun x => evQ_pmul x f g
theorem P_add (f g : List Int) : P (padd f g) = P f + P g := QP.eq fun x => evQ_padd x f g
theorem P_sub (f g : List Int) : P (psub f g) = P f - P g := QP.eq fun x => evQ_psub x f g
theorem P_scale (f : List Int) (c : Int) : P (scaleP f c) = K c * P f := QP.eq fun x => evQ_scale x c f
theorem P_trim (f : List Int) : P (trimZ f) = P f := QP.eq fun x => evQ_trim f x
theorem P_pow (f : List Int) (n : Nat) : P (ppow f n) = P f ^ n := QP.eq fun x => evQ_ppow f x n
theorem P_nil : P [] = 0 := QP.eq fun _ => rfl
theorem P_congr {f g : List Int} (h : ∀ i, co f i = co g i) : P f = P g := QP.eq fun x => evQ_congr x h
theorem P_inj {f g : List Int} (h : P f = P g) : trimZ f = trimZ g := poly_eq fun x => qat h (x : Rat)
theorem P_co {f g : List Int} (h : P f = P g) (i : Nat) : co f i = co g i := by rw [← co_trim f, ← co_trim g, P_inj h]
theorem tlen_spec (l : List Int) : (∀ i, (trimZ l).length ≤ i → co l i = 0) ∧ ((trimZ l).length = 0 ∨ co l ((trimZ l).length - 1) ≠ 0) := by
  refine ⟨fun i hi => ?_, ?_⟩
  · rw [← co_trim]; exact co_ge hi
  · rcases Nat.eq_zero_or_pos (trimZ l).length with h | h
    · exact .inl h
    · right; rw [← co_trim]; exact canon_last (f := trimZ l) (canon_trim isZI l) (by omega)
theorem tlen_of {l : List Int} {n : Nat} (hz : ∀ i, n ≤ i → co l i = 0) (hn : n = 0 ∨ co l (n - 1) ≠ 0) : (trimZ l).length = n := by
  have ⟨a, b⟩ := tlen_spec l
  rcases Nat.lt_trichotomy (trimZ l).length n with h | h | h
  · exact absurd (a (n - 1) (by omega)) (hn.resolve_left (by omega))
  · exact h
  · exact absurd (hz _ (by omega)) (b.resolve_left (by omega))
theorem tlen_scale (l : List Int) {c : Int} (hc : c ≠ 0) : (trimZ (scaleP l c)).length = (trimZ l).length := by
  have ⟨a, b⟩ := tlen_spec l
  refine tlen_of (fun i hi => by rw [co_scaleP, a i hi, Int.zero_mul]) (b.imp id fun h => ?_)
  rw [co_scaleP]; exact Int.mul_ne_zero h hc
theorem co_top {f g : List Int} {m n : Nat} (hf : ∀ i, m < i → co f i = 0) (hg : ∀ i, n < i → co g i = 0) : co (pmul f g) (m + n) = co f m * co g n ∧ ∀ i, m + n < i → co (pmul f g) i = 0 := by
  constructor
  · rw [co_pmul]
    unfold conv convF
    rw [rsum_more (n := m + 1) (by omega) (fun i h1 h2 => by rw [hf i (by omega), Int.zero_mul]), rsum_succ, rsum_zero (fun i hi => by rw [hg (m + n - i) (by omega), Int.mul_zero]), show m + n - m = n by omega, Int.zero_add]
  · intro i hi
    rw [co_pmul]
    refine rsum_zero fun j hj => ?_
    rcases Nat.lt_or_ge m j with h | h
    · rw [hf j h, Int.zero_mul]
    · rw [hg (i - j) (by omega), Int.mul_zero]
theorem tlen_mul {f g : List Int} (hf : (trimZ f).length ≠ 0) (hg : (trimZ g).length ≠ 0) : (trimZ (pmul f g)).length + 1 = (trimZ f).length + (trimZ g).length := by
  have ⟨a, b⟩ := tlen_spec f
  have ⟨c, d⟩ := tlen_spec g
  have ⟨t1, t2⟩ := co_top (f := f) (g := g) (m := (trimZ f).length - 1) (n := (trimZ g).length - 1) (fun i hi => a i (by omega)) (fun i hi => c i (by omega))
  have := tlen_of (l := pmul f g) (n := (trimZ f).length + (trimZ g).length - 1) (fun i hi => t2 i (by omega)) (.inr (by
    rw [show (trimZ f).length + (trimZ g).length - 1 - 1 = (trimZ f).length - 1 + ((trimZ g).length - 1) by omega, t1]
    exact Int.mul_ne_zero (b.resolve_left hf) (d.resolve_left hg)))
  omega
/-- The degree and one more; 0 for 0. -/
noncomputable def dg (f : QP) : Nat := (trimZ (Classical.choose (Classical.choose_spec f.p))).length
theorem dg_eq {f : QP} {c : Int} {l : List Int} (hc : c ≠ 0) (h : ∀ x, (c : Rat) * f.v x = evQ l x) : dg f = (trimZ l).length := by
  have h2 := Classical.choose_spec (Classical.choose_spec f.p)
  revert h2
  unfold dg
  generalize Classical.choose (Classical.choose_spec f.p) = m
  generalize Classical.choose f.p = d
  intro ⟨hd, h2⟩
  have : trimZ (scaleP m c) = trimZ (scaleP l d) := poly_eq fun x => by rw [evQ_scale, evQ_scale, ← h, ← h2]; grind
  rw [← tlen_scale m hc, this, tlen_scale l hd]
theorem dg_P (l : List Int) : dg (P l) = (trimZ l).length := dg_eq (c := 1) (by decide) fun x => by rw [one_cast]; simp only [v_P]; grind
theorem dg_rep (f : QP) : ∃ (c : Int) (l : List Int), c ≠ 0 ∧ K c * f = P l ∧ dg f = (trimZ l).length := by
  obtain ⟨c, l, hc, h⟩ := f.p
  exact ⟨c, l, hc, QP.eq h, dg_eq hc h⟩
theorem K_ne {r : Rat} (h : r ≠ 0) : K r ≠ 0 := fun e => h (qat e 0)
theorem dg_zero {f : QP} : dg f = 0 ↔ f = 0 := by
  obtain ⟨c, l, hc, h, hd⟩ := dg_rep f
  constructor
  · intro h0
    rw [h0] at hd
    have hl : trimZ l = [] := List.eq_nil_of_length_eq_zero hd.symm
    refine QP.eq fun x => ?_
    have h1 := qat h x
    rw [← P_trim, hl, P_nil] at h1
    simp only [v_mul, v_K, v_0] at h1 ⊢
    exact (Rat.mul_eq_zero.1 h1).resolve_left (cast_ne hc)
  · rintro rfl
    have : P l = P [] := by rw [← h, P_nil]; refine QP.eq fun x => ?_; simp only [v_mul, v_0]; grind
    rw [hd, P_inj this]; rfl
theorem dg_pos {f : QP} : f ≠ 0 ↔ 0 < dg f := by
  constructor
  · intro h; rcases Nat.eq_zero_or_pos (dg f) with h0 | h0
    · exact absurd (dg_zero.1 h0) h
    · exact h0
  · intro h e; rw [dg_zero.2 e] at h; omega
theorem dg_mul {f g : QP} (hf : f ≠ 0) (hg : g ≠ 0) : dg (f * g) + 1 = dg f + dg g := by
  obtain ⟨c, l, hc, h, hd⟩ := dg_rep f
  obtain ⟨d, m, hd', k, hk⟩ := dg_rep g
  have : dg (f * g) = (trimZ (pmul l m)).length := dg_eq (c := c * d) (Int.mul_ne_zero hc hd') fun x => by
    rw [evQ_pmul]
    have h1 := qat h x
    have h2 := qat k x
    simp only [v_mul, v_K, v_P] at h1 h2 ⊢
    rw [← h1, ← h2, Rat.intCast_mul]; grind
  rw [this, hd, hk]
  have h1 := dg_pos.1 hf
  have h2 := dg_pos.1 hg
  exact tlen_mul (by omega) (by omega)
theorem qp_dom {f g : QP} (h : f * g = 0) : f = 0 ∨ g = 0 := by
  by_cases hf : f = 0
  · exact .inl hf
  · by_cases hg : g = 0
    · exact .inr hg
    · have h1 := dg_mul hf hg
      have h2 := dg_pos.1 hf
      have h3 := dg_pos.1 hg
      rw [h, dg_zero.2 rfl] at h1
      omega
theorem qp_mul_ne {f g : QP} (hf : f ≠ 0) (hg : g ≠ 0) : f * g ≠ 0 := fun h => (qp_dom h).elim hf hg
theorem qp_cancel {f g h : QP} (hh : h ≠ 0) (e : f * h = g * h) : f = g := by
  have : (f - g) * h = 0 := QP.eq fun x => by have := qat e x; simp only [v_mul, v_sub, v_0] at this ⊢; grind
  have := (qp_dom this).resolve_right hh
  exact QP.eq fun x => by have := qat this x; simp only [v_sub, v_0] at this; grind
theorem qp_pow_ne {f : QP} (hf : f ≠ 0) : ∀ n : Nat, f ^ n ≠ 0
  | 0 => by
    have : f ^ 0 = 1 := QP.eq fun x => by rw [v_pow, v_1, Rat.pow_zero]
    rw [this]; exact K_ne (by decide)
  | n + 1 => by
    have : f ^ (n + 1) = f ^ n * f := QP.eq fun x => by rw [v_pow, v_mul, v_pow, Rat.pow_succ]
    rw [this]; exact qp_mul_ne (qp_pow_ne hf n) hf
theorem qp_pow_add (f : QP) (m n : Nat) : f ^ (m + n) = f ^ m * f ^ n := QP.eq fun x => by simp only [v_pow, v_mul, rat_pow_add]
theorem qp_pow_succ (f : QP) (n : Nat) : f ^ (n + 1) = f ^ n * f := QP.eq fun x => by rw [v_pow, v_mul, v_pow, Rat.pow_succ]
theorem qp_pow_zero (f : QP) : f ^ 0 = 1 := QP.eq fun x => by rw [v_pow, v_1, Rat.pow_zero]
instance : Dvd QP := ⟨fun g f => ∃ q, f = q * g⟩
theorem dg_add (f g : QP) : dg (f + g) ≤ max (dg f) (dg g) := by
  obtain ⟨c, l, hc, h, hd⟩ := dg_rep f
  obtain ⟨d, m, hd', k, hk⟩ := dg_rep g
  have : dg (f + g) = (trimZ (padd (scaleP l d) (scaleP m c))).length := dg_eq (c := c * d) (Int.mul_ne_zero hc hd') fun x => by
    rw [evQ_padd, evQ_scale, evQ_scale]
    have h1 := qat h x
    have h2 := qat k x
    simp only [v_mul, v_K, v_P, v_add] at h1 h2 ⊢
    rw [← h1, ← h2, Rat.intCast_mul]; grind
  rw [this, hd, hk]
  have ⟨a, _⟩ := tlen_spec l
  have ⟨a', _⟩ := tlen_spec m
  have ⟨_, b⟩ := tlen_spec (padd (scaleP l d) (scaleP m c))
  rcases b with b | b
  · omega
  · apply Classical.byContradiction
    intro hn
    apply b
    rw [co_padd, co_scaleP, co_scaleP, a _ (by omega), a' _ (by omega)]; simp
theorem dg_K {r : Rat} (h : r ≠ 0) : dg (K r) = 1 := by
  have : dg (K r) = (trimZ [r.num]).length := dg_eq (c := r.den) (by have := r.den_nz; omega) fun x => by rw [v_K, den_mul]; simp only [evQ]; grind
  rw [this]
  refine tlen_of (fun i hi => co_ge (by simpa using hi)) (.inr ?_)
  simp [co]
  exact h
theorem dg_Kmul {r : Rat} (h : r ≠ 0) (f : QP) : dg (K r * f) = dg f := by
  by_cases hf : f = 0
  · subst hf
    have : K r * 0 = 0 := QP.eq fun x => by simp only [v_mul, v_0]; grind
    rw [this]
  · have := dg_mul (K_ne h) hf
    rw [dg_K h] at this
    omega
theorem dg_neg (f : QP) : dg (-f) = dg f := by
  have : -f = K (-1) * f := QP.eq fun x => by simp only [v_neg, v_mul, v_K]; grind
  rw [this, dg_Kmul (by decide)]
theorem dg_sub (f g : QP) : dg (f - g) ≤ max (dg f) (dg g) := by
  have : f - g = f + -g := QP.eq fun x => by simp only [v_sub, v_add, v_neg]; grind
  rw [this]
  have := dg_add f (-g)
  rwa [dg_neg] at this
theorem dg_one {f : QP} (h : dg f ≤ 1) : ∃ r, f = K r := by
  obtain ⟨c, l, hc, e, hd⟩ := dg_rep f
  have : P l = P [co l 0] := P_congr fun i => by
    cases i with
    | zero => simp [co]
    | succ i => rw [(tlen_spec l).1 (i + 1) (by omega)]; simp [co]
  refine ⟨(co l 0 : Rat) / (c : Rat), QP.eq fun x => ?_⟩
  rw [this] at e
  have h1 := qat e x
  have h2 := cast_ne hc
  simp only [v_mul, v_K, v_P, evQ] at h1 ⊢
  grind
theorem dvd_small {f g : QP} (h : g ∣ f) (hd : dg f < dg g) : f = 0 := by
  obtain ⟨q, rfl⟩ := h
  by_cases hq : q = 0
  · subst hq; exact QP.eq fun x => by simp only [v_mul, v_0]; grind
  · have hg : g ≠ 0 := dg_pos.2 (by omega)
    have := dg_mul hq hg
    have := dg_pos.1 hq
    omega
theorem dvd_le {f g : QP} (h : g ∣ f) (hf : f ≠ 0) : dg g ≤ dg f := by
  apply Classical.byContradiction
  intro hn
  exact hf (dvd_small h (by omega))
theorem qp_step {f g : QP} (hg : g ≠ 0) (h : dg g ≤ dg f) : ∃ q, dg (f - q * g) < dg f := by
  obtain ⟨c, l, hc, e, hd⟩ := dg_rep f
  obtain ⟨d, m, hd', k, hk⟩ := dg_rep g
  have hg' := dg_pos.1 hg
  have ⟨a, b⟩ := tlen_spec l
  have ⟨a', b'⟩ := tlen_spec m
  replace b := b.resolve_left (by omega)
  replace b' := b'.resolve_left (by omega)
  have h1 := cast_ne hc
  have h2 := cast_ne hd'
  have h3 := cast_ne b'
  refine ⟨K (((co l ((trimZ l).length - 1) : Int) : Rat) * (d : Rat) / ((c : Rat) * ((co m ((trimZ m).length - 1) : Int) : Rat))) * P (List.replicate (dg f - dg g) 0 ++ [1]), ?_⟩
  have : dg (f - K (((co l ((trimZ l).length - 1) : Int) : Rat) * (d : Rat) / ((c : Rat) * ((co m ((trimZ m).length - 1) : Int) : Rat))) * P (List.replicate (dg f - dg g) 0 ++ [1]) * g) =
      (trimZ (psub (scaleP l (co m ((trimZ m).length - 1))) (scaleP (List.replicate (dg f - dg g) 0 ++ m) (co l ((trimZ l).length - 1))))).length :=
    dg_eq (c := c * co m ((trimZ m).length - 1)) (Int.mul_ne_zero hc b') fun x => by
      rw [evQ_psub, evQ_scale, evQ_scale, evQ_shift]
      have e1 := qat e x
      have e2 := qat k x
      simp only [v_mul, v_K, v_P, v_sub, evQ_shift] at e1 e2 ⊢
      rw [← e1, ← e2, Rat.intCast_mul]
      simp only [evQ, one_cast]
      grind
  rw [this]
  have hz : ∀ i, dg f - 1 ≤ i → co (psub (scaleP l (co m ((trimZ m).length - 1))) (scaleP (List.replicate (dg f - dg g) 0 ++ m) (co l ((trimZ l).length - 1)))) i = 0 := fun i hi => by
    rw [co_psub, co_scaleP, co_scaleP, cs_co]
    unfold cs
    rw [if_pos (by omega)]
    by_cases h4 : i = dg f - 1
    · rw [show i - (dg f - dg g) = (trimZ m).length - 1 by omega, show i = (trimZ l).length - 1 by omega, Int.mul_comm]; omega
    · rw [a i (by omega), a' (i - (dg f - dg g)) (by omega)]; simp
  have ⟨_, t⟩ := tlen_spec (psub (scaleP l (co m ((trimZ m).length - 1))) (scaleP (List.replicate (dg f - dg g) 0 ++ m) (co l ((trimZ l).length - 1))))
  rcases t with t | t
  · omega
  · apply Classical.byContradiction
    intro hn
    exact t (hz _ (by omega))
theorem divmod_ {g : QP} (hg : g ≠ 0) : ∀ (n : Nat) (f : QP), dg f ≤ n → ∃ q r, f = q * g + r ∧ dg r < dg g
  | 0, f, h => ⟨0, f, QP.eq fun x => by simp only [v_add, v_mul, v_0]; grind, by have := dg_pos.1 hg; omega⟩
  | n + 1, f, h => by
    rcases Nat.lt_or_ge (dg f) (dg g) with h1 | h1
    · exact ⟨0, f, QP.eq fun x => by simp only [v_add, v_mul, v_0]; grind, h1⟩
    · obtain ⟨q, hq⟩ := qp_step hg h1
      obtain ⟨q', r, e, hr⟩ := divmod_ hg n (f - q * g) (by omega)
      exact ⟨q + q', r, QP.eq fun x => by have := qat e x; simp only [v_add, v_mul, v_sub] at this ⊢; grind, hr⟩
theorem qp_divmod {g : QP} (hg : g ≠ 0) (f : QP) : ∃ q r, f = q * g + r ∧ dg r < dg g := divmod_ hg _ f (Nat.le_refl _)
theorem qdvd_refl (f : QP) : f ∣ f := ⟨1, QP.eq fun x => by simp only [v_mul, v_1]; grind⟩
theorem qdvd_zero (f : QP) : f ∣ 0 := ⟨0, QP.eq fun x => by simp only [v_mul, v_0]; grind⟩
theorem qdvd_trans {f g h : QP} : f ∣ g → g ∣ h → f ∣ h := by
  rintro ⟨q, rfl⟩ ⟨r, rfl⟩
  exact ⟨r * q, QP.eq fun x => by simp only [v_mul]; grind⟩
theorem qdvd_add {f g h : QP} : f ∣ g → f ∣ h → f ∣ g + h := by
  rintro ⟨q, rfl⟩ ⟨r, rfl⟩
  exact ⟨q + r, QP.eq fun x => by simp only [v_mul, v_add]; grind⟩
theorem qdvd_sub {f g h : QP} : f ∣ g → f ∣ h → f ∣ g - h := by
  rintro ⟨q, rfl⟩ ⟨r, rfl⟩
  exact ⟨q - r, QP.eq fun x => by simp only [v_mul, v_sub]; grind⟩
theorem qdvd_mulL {f g : QP} (h : QP) : f ∣ g → f ∣ h * g := by
  rintro ⟨q, rfl⟩
  exact ⟨h * q, QP.eq fun x => by simp only [v_mul]; grind⟩
theorem qdvd_mulR {f g : QP} (h : QP) : f ∣ g → f ∣ g * h := by
  rintro ⟨q, rfl⟩
  exact ⟨h * q, QP.eq fun x => by simp only [v_mul]; grind⟩
theorem qmul_comm (f g : QP) : f * g = g * f := QP.eq fun x => by simp only [v_mul]; grind
theorem qmul_assoc (f g h : QP) : f * g * h = f * (g * h) := QP.eq fun x => by simp only [v_mul]; grind
theorem qmul_mul {f g h k : QP} : f ∣ g → h ∣ k → f * h ∣ g * k := by
  rintro ⟨q, rfl⟩ ⟨r, rfl⟩
  exact ⟨q * r, QP.eq fun x => by simp only [v_mul]; grind⟩
theorem zero_qdvd {f : QP} : (0 : QP) ∣ f → f = 0 := by
  rintro ⟨q, rfl⟩
  exact QP.eq fun x => by simp only [v_mul, v_0]; grind
def Mul_ (f g : QP) (k : Nat) : Prop := ∃ r, f = r * g ^ k ∧ ¬ g ∣ r
theorem mul_le {f g : QP} {k m : Nat} (hg : g ≠ 0) (h : Mul_ f g k) : g ^ m ∣ f ↔ m ≤ k := by
  obtain ⟨r, rfl, hr⟩ := h
  constructor
  · rintro ⟨q, e⟩
    apply Classical.byContradiction
    intro hn
    obtain ⟨j, rfl⟩ : ∃ j, m = k + j + 1 := ⟨m - k - 1, by omega⟩
    apply hr
    refine ⟨q * g ^ j, qp_cancel (qp_pow_ne hg k) ?_⟩
    rw [e, qp_pow_succ, qp_pow_add]
    exact QP.eq fun x => by simp only [v_mul]; grind
  · intro hm
    obtain ⟨j, rfl⟩ : ∃ j, k = j + m := ⟨k - m, by omega⟩
    exact ⟨r * g ^ j, by rw [qp_pow_add]; exact QP.eq fun x => by simp only [v_mul]; grind⟩
theorem mul_unique {f g : QP} {k m : Nat} (hg : g ≠ 0) (h : Mul_ f g k) (h' : Mul_ f g m) : k = m := by
  have h1 := (mul_le (m := k) hg h').1 ((mul_le (m := k) hg h).2 (Nat.le_refl _))
  have h2 := (mul_le (m := m) hg h).1 ((mul_le (m := m) hg h').2 (Nat.le_refl _))
  omega
theorem dvd_K {f g : QP} {r : Rat} (hr : r ≠ 0) : (g ∣ K r * f) ↔ g ∣ f := by
  constructor
  · rintro ⟨q, e⟩
    exact ⟨K (1 / r) * q, QP.eq fun x => by have := qat e x; simp only [v_mul, v_K] at this ⊢; grind⟩
  · exact qdvd_mulL _
theorem K_dvd {f g : QP} {r : Rat} (hr : r ≠ 0) : (K r * g ∣ f) ↔ g ∣ f := by
  constructor
  · rintro ⟨q, rfl⟩
    exact ⟨q * K r, QP.eq fun x => by simp only [v_mul, v_K]; grind⟩
  · rintro ⟨q, rfl⟩
    exact ⟨K (1 / r) * q, QP.eq fun x => by simp only [v_mul, v_K]; grind⟩
end Go.Gx

/-
  Primitive polynomials: Gauss' lemma, exact division. Plain numbers; no program in sight.
-/
namespace Go.Gx
theorem prime_in : ∀ (m n : Nat), n ≤ m → 2 ≤ n → ∃ p : Nat, 2 ≤ p ∧ p ∣ n ∧ ∀ a b : Nat, p ∣ a * b → p ∣ a ∨ p ∣ b
  | 0, n, h, h2 => by omega
  | m + 1, n, h, h2 => by
    by_cases hd : ∃ d, 2 ≤ d ∧ d < n ∧ d ∣ n
    · obtain ⟨d, h3, h4, h5⟩ := hd
      obtain ⟨p, hp, hpd, hpp⟩ := prime_in m d (by omega) h3
      exact ⟨p, hp, Nat.dvd_trans hpd h5, hpp⟩
    · refine ⟨n, h2, Nat.dvd_refl n, fun a b hab => ?_⟩
      have hg := Nat.gcd_dvd_left n a
      have hg0 : 0 < Nat.gcd n a := Nat.gcd_pos_of_pos_left _ (by omega)
      have hle := Nat.le_of_dvd (by omega) hg
      rcases Nat.lt_or_ge (Nat.gcd n a) 2 with h1 | h1
      · right
        have : Nat.gcd n a = 1 := by omega
        exact Nat.Coprime.dvd_of_dvd_mul_left this hab
      · left
        have : Nat.gcd n a = n := Classical.byContradiction fun hne => hd ⟨_, h1, by omega, hg⟩
        rw [← this]; exact Nat.gcd_dvd_right n a
theorem prime_int {n : Nat} (h : 2 ≤ n) : ∃ p : Nat, 2 ≤ p ∧ p ∣ n ∧ ∀ a b : Int, (p : Int) ∣ a * b → (p : Int) ∣ a ∨ (p : Int) ∣ b := by
  obtain ⟨p, h1, h2, h3⟩ := prime_in n n (Nat.le_refl _) h
  refine ⟨p, h1, h2, fun a b hab => ?_⟩
  rw [Int.ofNat_dvd_left] at hab ⊢
  rw [Int.ofNat_dvd_left]
  rw [Int.natAbs_mul] at hab
  exact h3 _ _ hab
theorem rsum_but {p : Int} {F : Nat → Int} {i : Nat} : ∀ n, (∀ a, a < n → a ≠ i → p ∣ F a) → p ∣ rsum F n - (if i < n then F i else 0)
  | 0, _ => by simp [rsum]
  | n + 1, h => by
    have ih := rsum_but (p := p) (F := F) (i := i) n fun a ha hi => h a (by omega) hi
    rw [rsum_succ]
    by_cases h1 : n = i
    · subst h1
      rw [if_neg (by omega)] at ih
      rw [if_pos (by omega), show rsum F n + F n - F n = rsum F n - 0 by omega]
      exact ih
    · have h2 := h n (by omega) h1
      by_cases h3 : i < n
      · rw [if_pos h3] at ih
        rw [if_pos (by omega), show rsum F n + F n - F i = (rsum F n - F i) + F n by omega]
        exact Int.dvd_add ih h2
      · rw [if_neg h3] at ih
        rw [if_neg (by omega), show rsum F n + F n - 0 = (rsum F n - 0) + F n by omega]
        exact Int.dvd_add ih h2
theorem least {Q : Nat → Prop} : ∀ n, Q n → ∃ j, Q j ∧ ∀ i, i < j → ¬ Q i := fun n => by
  induction n using Nat.strongRecOn with
  | ind n ih =>
    intro h
    by_cases h1 : ∃ i, i < n ∧ Q i
    · obtain ⟨i, h2, h3⟩ := h1; exact ih i h2 h3
    · exact ⟨n, h, fun i hi hq => h1 ⟨i, hi, hq⟩⟩
theorem gauss_prime {p : Int} (hp : ∀ a b : Int, p ∣ a * b → p ∣ a ∨ p ∣ b) {l d : List Int} (h : ∀ i, p ∣ co (pmul l d) i) (hd : ∃ j, ¬ p ∣ co d j) : ∀ i, p ∣ co l i := by
  obtain ⟨j0, hj0⟩ := hd
  obtain ⟨j, hj, hl⟩ := least (Q := fun j => ¬ p ∣ co d j) j0 hj0
  intro i
  induction i using Nat.strongRecOn with
  | ind i ih =>
    have h1 := h (i + j)
    rw [co_pmul] at h1
    have h2 := rsum_but (p := p) (F := fun a => co l a * co d (i + j - a)) (i := i) (i + j + 1) (fun a ha hai => by
      rcases Nat.lt_or_ge a i with h3 | h3
      · exact Int.dvd_mul_of_dvd_left (ih a h3)
      · exact Int.dvd_mul_of_dvd_right (Classical.not_not.1 (hl (i + j - a) (by omega))))
    rw [if_pos (by omega), show i + j - i = j by omega] at h2
    have h3 : p ∣ co l i * co d j := by
      have := Int.dvd_sub h1 h2
      have e : conv l d (i + j) - (rsum (fun a => co l a * co d (i + j - a)) (i + j + 1) - co l i * co d j) = co l i * co d j := by unfold conv convF; omega
      rwa [e] at this
    exact (hp _ _ h3).resolve_right hj
theorem cont_dvd {k : Nat} : ∀ {F : List Int}, (∀ i, (k : Int) ∣ co F i) → k ∣ contP F
  | [], _ => by simp [contP]
  | a :: F, h => by
    rw [contP_cons]
    refine Nat.dvd_gcd (cont_dvd fun i => ?_) ?_
    · have := h (i + 1); simpa [co] using this
    · have := h 0; exact Int.ofNat_dvd_left.1 (by simpa [co] using this)
theorem dvd_cont : ∀ (F : List Int) (i : Nat), (contP F : Int) ∣ co F i
  | [], i => by simp [co]
  | a :: F, i => by
    rw [contP_cons]
    cases i with
    | zero =>
      have : co (a :: F) 0 = a := by simp [co]
      rw [this]; exact Int.ofNat_dvd_left.2 (Nat.gcd_dvd_right _ _)
    | succ i =>
      have : co (a :: F) (i + 1) = co F i := by simp [co]
      rw [this]
      exact Int.dvd_trans (Int.ofNat_dvd.2 (Nat.gcd_dvd_left _ _)) (dvd_cont F i)
theorem co_div (l : List Int) (p : Int) (i : Nat) : co (l.map (fun x => x / p)) i = co l i / p := by
  simp only [co, List.getD, List.getElem?_map]
  cases l[i]? <;> simp
theorem gauss {d R : List Int} (hd : contP d = 1) : ∀ (n : Nat) (c : Int) (l : List Int), c.natAbs ≤ n → c ≠ 0 → (∀ i, co R i * c = co (pmul l d) i) → ∃ W, ∀ i, co l i = c * co W i
  | 0, c, l, hn, hc, _ => by omega
  | n + 1, c, l, hn, hc, h => by
    by_cases h1 : c.natAbs < 2
    · have : c = 1 ∨ c = -1 := by omega
      refine ⟨scaleP l c, fun i => ?_⟩
      rw [co_scaleP]
      rcases this with rfl | rfl <;> omega
    · obtain ⟨p, hp2, hpc, hpp⟩ := prime_int (n := c.natAbs) (by omega)
      have hpc' : (p : Int) ∣ c := Int.ofNat_dvd_left.2 hpc
      obtain ⟨c', rfl⟩ := hpc'
      have hj : ∃ j, ¬ (p : Int) ∣ co d j := by
        apply Classical.byContradiction
        intro hn'
        have : p ∣ contP d := cont_dvd fun i => Classical.byContradiction fun h => hn' ⟨i, h⟩
        rw [hd] at this
        have := Nat.le_of_dvd (by omega) this
        omega
      have hl := gauss_prime hpp (l := l) (d := d) (fun i => by rw [← h i, ← Int.mul_assoc, Int.mul_comm (co R i)]; exact ⟨co R i * c', by rw [Int.mul_assoc]⟩) hj
      have hp0 : (p : Int) ≠ 0 := by omega
      have hc' : c' ≠ 0 := fun e => hc (by rw [e, Int.mul_zero])
      have hco : ∀ i, co l i = p * co (l.map (fun x => x / (p : Int))) i := fun i => by rw [co_div]; exact (Int.mul_ediv_cancel' (hl i)).symm
      have e2 : ∀ i, co (pmul l d) i = p * co (pmul (l.map (fun x => x / (p : Int))) d) i := fun i => by
        rw [co_pmul, co_pmul]
        unfold conv convF
        rw [← rsum_mul]
        exact rsum_congr fun a _ => by rw [hco a, Int.mul_assoc]
      obtain ⟨W, hW⟩ := gauss hd n c' (l.map (fun x => x / (p : Int))) (by
        rw [Int.natAbs_mul] at hn
        have h3 : 2 * c'.natAbs ≤ (p : Int).natAbs * c'.natAbs := Nat.mul_le_mul_right _ (by omega)
        have : c'.natAbs ≠ 0 := by omega
        omega) hc' (fun i => by
        have := h i
        rw [e2 i, ← Int.mul_assoc, Int.mul_comm (co R i), Int.mul_assoc] at this
        exact Int.eq_of_mul_eq_mul_left hp0 this)
      exact ⟨W, fun i => by rw [hco i, hW i, Int.mul_assoc]⟩
/-- Gauss: what a primitive polynomial divides, it divides over the integers. -/
theorem gauss_dvd {d R : List Int} (hd : contP d = 1) (h : P d ∣ P R) : ∃ W, P R = P W * P d := by
  obtain ⟨q, e⟩ := h
  obtain ⟨c, l, hc, hq, _⟩ := dg_rep q
  have e1 : P (scaleP R c) = P (pmul l d) := by rw [P_scale, P_mul, ← hq, e, qmul_assoc]
  obtain ⟨W, hW⟩ := gauss hd _ c l (Nat.le_refl _) hc fun i => by rw [← co_scaleP]; exact P_co e1 i
  refine ⟨W, ?_⟩
  have e2 : P l = K c * P W := by rw [← P_scale]; exact P_congr fun i => by rw [hW i, co_scaleP, Int.mul_comm]
  refine QP.eq fun x => ?_
  have h1 := qat e x
  have h2 := qat hq x
  have h3 := qat e2 x
  have h4 := cast_ne hc
  simp only [v_mul, v_K] at h1 h2 h3 ⊢
  grind
theorem exFail_not {F G : List Int} (hp : contP G = 1) (hl : ldP G ≠ 0) (h : exFail F G) : ¬ P G ∣ P F := by
  intro hd
  obtain ⟨W, hW⟩ := gauss_dvd hp hd
  obtain ⟨Q, R, s, hI, hz, hs⟩ := h
  obtain ⟨d, hdl⟩ := ld_len hl
  have ⟨hdL, hdz, _⟩ := ld_deg hdl
  rw [hdl, show d + 1 - 1 = d from rfl] at hz hs
  have e : P R = P (pmul (psub W Q) G) := QP.eq fun x => by
    have h1 := qat hW x
    have h2 := hI x
    rw [P_mul, P_sub]
    simp only [v_mul, v_sub, v_P] at h1 ⊢
    grind
  have hR : ∀ n, (∀ i, n ≤ i → co R i = 0) → dg (P R) ≤ n := fun n hn => by
    rw [dg_P]
    rcases (tlen_spec R).2 with h | h
    · omega
    · apply Classical.byContradiction
      intro hc; exact h (hn _ (by omega))
  rcases hs with ⟨hs, hs2⟩ | ⟨rfl, i, hi⟩
  · apply hs2
    have hU : ∀ i, s - 1 < i → co (psub W Q) i = 0 := fun i hi => by
      by_cases h0 : P (psub W Q) = 0
      · have := P_co (h0.trans P_nil.symm) i; rw [this]; simp [co]
      · have h1 := hR _ hz
        rw [e, P_mul] at h1
        have h2 := dg_mul h0 (g := P G) (dg_pos.2 (by rw [dg_P]; omega))
        rw [dg_P, dg_P G] at h2
        exact (tlen_spec _).1 i (by omega)
    rw [P_co e, (co_top hU hdz).1, hdL]
    exact Int.dvd_mul_left _ _
  · apply hi
    have h1 := hR d fun i hi => hz i (by omega)
    have h2 : P R = 0 := dvd_small (g := P G) ⟨P (psub W Q), by rw [e, P_mul]⟩ (by rw [dg_P G]; omega)
    have := P_co (h2.trans P_nil.symm) i
    rw [this]; simp [co]
theorem primC_abs (F : List Int) : (primC F).natAbs = contP F := by unfold primC; split <;> omega
theorem primC_ne {F : List Int} (h : ldP F ≠ 0) : primC F ≠ 0 := by have := cont_pos h; have := primC_abs F; omega
theorem primC_dvd (F : List Int) (i : Nat) : primC F ∣ co F i := by rw [← Int.natAbs_dvd, primC_abs]; exact dvd_cont F i
theorem co_tdiv (l : List Int) (p : Int) (i : Nat) : co (l.map (fun x => x.tdiv p)) i = (co l i).tdiv p := by
  simp only [co, List.getD, List.getElem?_map]
  cases l[i]? <;> simp
theorem co_prim (F : List Int) (i : Nat) : primC F * co (primP F) i = co F i := by
  unfold primP; rw [co_tdiv, co_trim]; exact Int.mul_tdiv_cancel' (primC_dvd F i)
theorem P_prim (F : List Int) : P F = K (primC F) * P (primP F) := by
  rw [← P_scale]; exact P_congr fun i => by rw [co_scaleP, Int.mul_comm, co_prim]
theorem P_primP {F : List Int} (h : ldP F ≠ 0) : P (primP F) = K (1 / (primC F : Rat)) * P F := QP.eq fun x => by
  have h1 := qat (P_prim F) x
  have h2 := cast_ne (primC_ne h)
  simp only [v_mul, v_K] at h1 ⊢
  grind
theorem cont_prim {F : List Int} (h : ldP F ≠ 0) : contP (primP F) = 1 := by
  have h0 := cont_pos h
  have h1 : contP F * contP (primP F) ∣ contP F := cont_dvd fun i => by
    rw [← co_prim F i]
    have := dvd_cont (primP F) i
    obtain ⟨z, hz⟩ := this
    rw [hz]
    rw [Int.ofNat_dvd_left, Int.natAbs_mul, Int.natAbs_mul, primC_abs]
    exact ⟨z.natAbs, by simp [Nat.mul_assoc]⟩
  have h2 := Nat.le_of_dvd h0 h1
  have h3 : contP (primP F) ≠ 0 := fun e => by rw [e, Nat.mul_zero] at h1; have := Nat.eq_zero_of_zero_dvd h1; omega
  apply Classical.byContradiction
  intro hn
  have : contP F * 2 ≤ contP F * contP (primP F) := Nat.mul_le_mul_left _ (by omega)
  omega
theorem prim_len (F : List Int) : (primP F).length = (trimZ F).length := by unfold primP; simp
theorem prim_trim (F : List Int) : trimZ (primP F) = primP F := by
  by_cases h : ldP F = 0
  · rw [← primP_zero h]; rfl
  · refine canon_of_last ?_
    by_cases h0 : (primP F).length = 0
    · exact .inl h0
    · right
      intro e
      have h1 := co_prim F ((primP F).length - 1)
      rw [e, Int.mul_zero, prim_len] at h1
      rw [prim_len] at h0
      exact (tlen_spec F).2.resolve_left h0 h1.symm
theorem ld_prim {F : List Int} (h : ldP F ≠ 0) : 0 < ldP (primP F) := by
  obtain ⟨d, hd⟩ := ld_len h
  have ⟨h1, _, _⟩ := ld_deg hd
  have ⟨h2, _, h5⟩ := ld_deg (G := primP F) (d := d) (by rw [prim_trim, prim_len, hd])
  have h3 := co_prim F d
  rw [h1, h2] at h3
  have h4 := cont_pos h
  unfold primC at h3
  by_cases hn : ldP F < 0
  · rw [if_pos hn] at h3
    apply Classical.byContradiction
    intro hc
    have : 0 ≤ (contP F : Int) * (-(ldP (primP F))) := Int.mul_nonneg (by omega) (by omega)
    have e : -(contP F : Int) * ldP (primP F) = (contP F : Int) * (-(ldP (primP F))) := by rw [Int.neg_mul, Int.mul_neg]
    omega
  · rw [if_neg hn] at h3
    apply Classical.byContradiction
    intro hc
    have : 0 ≤ (contP F : Int) * (-(ldP (primP F))) := Int.mul_nonneg (by omega) (by omega)
    rw [Int.mul_neg] at this
    omega
theorem ld_zero_iff (F : List Int) : ldP F = 0 ↔ P F = 0 := by
  constructor
  · intro h; rw [← P_trim, ld_zero h, P_nil]
  · intro h
    have := P_inj (h.trans P_nil.symm)
    unfold ldP; rw [this]; rfl
theorem ld_ne_iff (F : List Int) : ldP F ≠ 0 ↔ P F ≠ 0 := not_congr (ld_zero_iff F)
end Go.Gx

/-
  Divisibility and multiplicities, as the program finds them. Plain numbers; no program in sight.
-/
namespace Go.Gx
theorem ld_of_deg {G : List Int} {x : Int} (h : x = ((trimZ G).length : Int) - 1) (hx : ¬ x < 0) : ldP G ≠ 0 := by
  rw [ld_ne_iff, dg_pos, dg_P]; omega
end Go.Gx

/-
  Sizes of coefficients; the law on multiplicities. No program in sight.
-/
namespace Go.Gx
def nrm (l : List Int) : Nat := l.foldr (fun a s => a.natAbs + s) 0
theorem nrm_cons (a : Int) (l : List Int) : nrm (a :: l) = a.natAbs + nrm l := rfl
theorem nrm_head (l : List Int) : nrm l = (co l 0).natAbs + nrm l.tail := by
  cases l with
  | nil => simp [nrm, co]
  | cons a l => simp [nrm_cons, co]
theorem nrm_ext : ∀ (n : Nat) (f g : List Int), f.length + g.length ≤ n → (∀ i, co f i = co g i) → nrm f = nrm g
  | 0, f, g, hn, _ => by
    have h1 : f = [] := List.eq_nil_of_length_eq_zero (by omega)
    have h2 : g = [] := List.eq_nil_of_length_eq_zero (by omega)
    rw [h1, h2]
  | n + 1, f, g, hn, h => by
    rcases Nat.eq_zero_or_pos (f.length + g.length) with h0 | h0
    · have h1 : f = [] := List.eq_nil_of_length_eq_zero (by omega)
      have h2 : g = [] := List.eq_nil_of_length_eq_zero (by omega)
      rw [h1, h2]
    · rw [nrm_head f, nrm_head g, h 0, nrm_ext n f.tail g.tail (by simp; omega) (fun i => by rw [co_tail, co_tail]; exact h (i + 1))]
theorem nrm_congr {f g : List Int} (h : ∀ i, co f i = co g i) : nrm f = nrm g := nrm_ext _ f g (Nat.le_refl _) h
theorem nrm_trim (f : List Int) : nrm (trimZ f) = nrm f := nrm_congr fun i => co_trim f i
theorem nrm_co : ∀ (l : List Int) (i : Nat), (co l i).natAbs ≤ nrm l
  | [], i => by simp [co]
  | a :: l, 0 => by simp [co, nrm_cons]
  | a :: l, i + 1 => by
    have := nrm_co l i
    have e : co (a :: l) (i + 1) = co l i := by simp [co]
    rw [e, nrm_cons]; omega
theorem nrm_padd : ∀ f g : List Int, nrm (padd f g) ≤ nrm f + nrm g
  | [], g => by rw [nrm_congr (g := g) (fun i => by rw [co_padd]; simp [co])]; omega
  | a :: f, [] => by rw [nrm_congr (g := a :: f) (fun i => by rw [co_padd]; simp [co])]; omega
  | a :: f, b :: g => by
    have ih := nrm_padd f g
    rw [nrm_congr (g := (a + b) :: padd f g) (fun i => by
      rw [co_padd]
      cases i with
      | zero => simp [co]
      | succ i =>
        have := co_padd f g i
        simp only [co, List.getD_cons_succ] at this ⊢
        omega)]
    rw [nrm_cons, nrm_cons, nrm_cons]
    omega
theorem nrm_scale (c : Int) : ∀ f : List Int, nrm (scaleP f c) = c.natAbs * nrm f
  | [] => by simp [scaleP, nrm]
  | a :: f => by
    have ih := nrm_scale c f
    simp only [scaleP, List.map_cons, nrm_cons, Int.natAbs_mul] at ih ⊢
    rw [ih, Nat.mul_add, Nat.mul_comm]
theorem nrm_pmul : ∀ f g : List Int, nrm (pmul f g) ≤ nrm f * nrm g
  | [], g => by simp [pmul, nrm]
  | a :: f, g => by
    have ih := nrm_pmul f g
    have h1 := nrm_padd (scaleP g a) (0 :: pmul f g)
    rw [nrm_congr (co_pmul_cons a f g), nrm_cons, Nat.add_mul]
    rw [nrm_scale, nrm_cons] at h1
    simp at h1
    omega
theorem PolyR.tight {w : World} {S : Nat → Prop} {A : Option Addr} {n c M : Nat} {l : List RI} {K : Nat} (h : PolyR w S A n c l M) (hc : AllC l) (hn : nrm (zs l) < BS ^ K) : PolyR w S A n c l K := by
  refine ⟨h.1, fun r hr => ⟨(h.2 r hr).1, ?_⟩⟩
  have hN := (h.2 r hr).1
  obtain ⟨i, hi, e⟩ := List.getElem_of_mem hr
  have h1 := nrm_co (zs l) i
  have e1 : co (zs l) i = r.z := by simp [co, List.getD, List.getElem?_eq_getElem hi, e]
  rw [e1] at h1
  have e2 : r.z.natAbs = val r.d := by unfold RI.z zval; split <;> omega
  have h2 := lt_val_len (hc r hr).1 (k := K) (by omega)
  have h3 : r.d.length = r.n := by have := hN.1.1; simpa using this
  omega
theorem dg_pow_succ {g : QP} (hg : g ≠ 0) (n : Nat) : dg (g ^ (n + 1)) + 1 = dg (g ^ n) + dg g := by rw [qp_pow_succ]; exact dg_mul (qp_pow_ne hg n) hg
theorem dg_pow_ge {g : QP} (hg : 2 ≤ dg g) : ∀ n, n + 1 ≤ dg (g ^ n)
  | 0 => by rw [qp_pow_zero]; exact Nat.le_of_eq (dg_K (by decide)).symm
  | n + 1 => by have := dg_pow_succ (g := g) (dg_pos.2 (by omega)) n; have := dg_pow_ge hg n; omega
theorem P_len {F : List Int} (h : P F = 0) : (trimZ F).length = 0 := by rw [← dg_P]; exact dg_zero.2 h
end Go.Gx

/-
  Bounds on subresultants and on divisors of polynomials. Plain numbers; no program in sight.
-/
namespace Go.Gx
def rho (cl : List Nat) (r : Row) : Nat := cl.foldr (fun c s => (r c).natAbs + s) 0
def rprod (cl : List Nat) (rs : List Row) : Nat := rs.foldr (fun r s => rho cl r * s) 1
theorem rprod_cons (cl : List Nat) (r : Row) (rs : List Row) : rprod cl (r :: rs) = rho cl r * rprod cl rs := rfl
theorem rho_cons (c : Nat) (cl : List Nat) (r : Row) : rho (c :: cl) r = (r c).natAbs + rho cl r := rfl
theorem rprod_append (cl : List Nat) : ∀ a b : List Row, rprod cl (a ++ b) = rprod cl a * rprod cl b
  | [], b => by simp [rprod]
  | r :: a, b => by rw [List.cons_append, rprod_cons, rprod_cons, rprod_append cl a b, Nat.mul_assoc]
theorem rprod_le (c : Nat) (cl : List Nat) : ∀ rs : List Row, rprod cl rs ≤ rprod (c :: cl) rs
  | [] => Nat.le_refl _
  | r :: rs => by rw [rprod_cons, rprod_cons]; exact Nat.mul_le_mul (by rw [rho_cons]; omega) (rprod_le c cl rs)
theorem lap_bd {D : List Row → Int} {cl : List Nat} {c : Nat} (hD : ∀ rs, (D rs).natAbs ≤ rprod cl rs) : ∀ rs pre : List Row, (lap D c pre rs).natAbs ≤ rprod cl pre * rprod (c :: cl) rs
  | [], pre => by simp [lap]
  | r :: rs, pre => by
    have ih := lap_bd (c := c) hD rs (pre ++ [r])
    have h1 := hD (pre ++ rs)
    rw [rprod_append] at h1 ih
    rw [show rprod cl [r] = rho cl r from Nat.mul_one _] at ih
    have h2 := rprod_le c cl rs
    simp only [lap]
    rw [rprod_cons, rho_cons]
    have h3 : (r c * D (pre ++ rs)).natAbs ≤ (r c).natAbs * (rprod cl pre * rprod (c :: cl) rs) := by
      rw [Int.natAbs_mul]
      exact Nat.mul_le_mul_left _ (Nat.le_trans h1 (Nat.mul_le_mul_left _ h2))
    have h4 : rprod cl pre * (((r c).natAbs + rho cl r) * rprod (c :: cl) rs) = (r c).natAbs * (rprod cl pre * rprod (c :: cl) rs) + rprod cl pre * rho cl r * rprod (c :: cl) rs := by
      generalize rprod cl pre = x
      generalize rprod (c :: cl) rs = y
      generalize (r c).natAbs = z
      generalize rho cl r = t
      grind
    omega
theorem det_bd : ∀ (cl : List Nat) (rs : List Row), (det cl rs).natAbs ≤ rprod cl rs
  | [], [] => by decide
  | [], r :: rs => by simp [det]
  | c :: cl, rs => by
    have := lap_bd (c := c) (det_bd cl) rs []
    rw [show rprod cl [] = 1 from rfl, Nat.one_mul] at this
    exact this
theorem rho_le {r : Row} {H : Nat} (h : ∀ c, (r c).natAbs ≤ H) : ∀ cl : List Nat, rho cl r ≤ cl.length * H
  | [] => by simp [rho]
  | c :: cl => by have := rho_le h cl; have := h c; rw [rho_cons, List.length_cons, Nat.succ_mul]; omega
theorem rprod_pow {cl : List Nat} {X : Nat} : ∀ rs : List Row, (∀ r ∈ rs, rho cl r ≤ X) → rprod cl rs ≤ X ^ rs.length
  | [], _ => by simp [rprod]
  | r :: rs, h => by
    rw [rprod_cons, List.length_cons, Nat.pow_succ, Nat.mul_comm]
    exact Nat.mul_le_mul (rprod_pow rs fun x hx => h x (by simp [hx])) (h r (by simp))
theorem cols_len : ∀ (n hi : Nat), (colsOf hi n).length = n
  | 0, _ => rfl
  | n + 1, hi => by simp [colsOf, cols_len n]
theorem rows_len (f : List Int) : ∀ n, (rowsOf f n).length = n
  | 0 => rfl
  | n + 1 => by simp [rowsOf, rows_len f n]
theorem cs_le {f : List Int} {H : Nat} (h : ∀ i, (co f i).natAbs ≤ H) (t c : Nat) : (cs f t c).natAbs ≤ H := by
  unfold cs; split
  · exact h _
  · simp
theorem Sr_bd {a b : List Int} {n m k j H N : Nat} (ha : ∀ i, (co a i).natAbs ≤ H) (hb : ∀ i, (co b i).natAbs ≤ H) (hH : 1 ≤ H) (hN : n + m ≤ N) (hk : k ≤ m) (hkn : k < n) : (Sr k a b n m j).natAbs ≤ (N * H) ^ N := by
  unfold Sr
  refine Nat.le_trans (det_bd _ _) (Nat.le_trans (rprod_pow (X := N * H) _ fun r hr => ?_) (Nat.pow_le_pow_right (Nat.mul_pos (by omega) hH) ?_))
  · refine Nat.le_trans (rho_le (H := H) (fun c => ?_) _) (Nat.mul_le_mul_right _ (by rw [List.length_append, cols_len]; simp; omega))
    rcases List.mem_append.1 hr with h | h
    · obtain ⟨t, _, rfl⟩ := rows_mem h; exact cs_le ha t c
    · obtain ⟨t, _, rfl⟩ := rows_mem h; exact cs_le hb t c
  · rw [List.length_append, rows_len, rows_len]; omega
def quoL (x : Int) : List Int → List Int
  | [] => []
  | _ :: l => evI l x :: quoL x l
theorem quoL_ev (x : Int) (y : Rat) : ∀ f : List Int, evQ f y = ((evI f x : Int) : Rat) + (y - (x : Rat)) * evQ (quoL x f) y
  | [] => by simp only [evQ, quoL]; rw [show evI [] x = 0 from rfl, zero_cast]; grind
  | a :: l => by
    have ih := quoL_ev x y l
    have e : evI (a :: l) x = a + x * evI l x := rfl
    simp only [evQ, quoL]
    rw [e, Rat.intCast_add, Rat.intCast_mul]
    grind
theorem evI_zero {x : Int} : ∀ {f : List Int}, (∀ i, co f i = 0) → evI f x = 0
  | [], _ => rfl
  | a :: l, h => by
    have h0 := h 0
    have h1 : evI l x = 0 := evI_zero fun i => by have := h (i + 1); simpa [co] using this
    show a + x * evI l x = 0
    rw [h1]
    simp [co] at h0
    omega
theorem quoL_deg {x : Int} : ∀ {f : List Int} {e : Nat}, (∀ i, e < i → co f i = 0) → ∀ i, e ≤ i → co (quoL x f) i = 0
  | [], e, _, i, _ => by simp [quoL, co]
  | a :: l, e, h, i, hi => by
    cases i with
    | zero =>
      have : evI l x = 0 := evI_zero fun i => by have := h (i + 1) (by omega); simpa [co] using this
      simpa [quoL, co] using this
    | succ i =>
      have := quoL_deg (x := x) (f := l) (e := e - 1) (fun j hj => by have := h (j + 1) (by omega); simpa [co] using this) i (by omega)
      simpa [quoL, co] using this
theorem quoL_nrm (x : Nat) (f : List Int) : nrm f ≤ (evI f x).natAbs + (1 + x) * nrm (quoL x f) := by
  have e : P f = P (padd [evI f x] (pmul [-(x : Int), 1] (quoL x f))) := by
    rw [P_add, P_mul]
    refine QP.eq fun y => ?_
    have := quoL_ev x y f
    simp only [v_add, v_mul, v_P, evQ] at this ⊢
    rw [this, Rat.intCast_neg, one_cast]
    grind
  rw [nrm_congr (P_co e)]
  refine Nat.le_trans (nrm_padd _ _) (Nat.add_le_add (by simp [nrm]) (Nat.le_trans (nrm_pmul _ _) (Nat.mul_le_mul_right _ ?_)))
  simp [nrm]; omega
theorem quoL_at (x : Int) (y : Int) (f : List Int) : evI f y = evI f x + (y - x) * evI (quoL x f) y := by
  have h := quoL_ev x (y : Rat) f
  rw [evQ_int, evQ_int, ← Rat.intCast_sub, ← Rat.intCast_mul, ← Rat.intCast_add] at h
  exact Rat.intCast_inj.1 h
theorem newton_bd : ∀ (e : Nat) (g : List Int) (x V X : Nat), (∀ i, e < i → co g i = 0) → x + e ≤ X → (∀ i : Nat, i ≤ e → (evI g ((x + i : Nat) : Int)).natAbs ≤ V) → nrm g ≤ V * (2 * X + 3) ^ e
  | 0, g, x, V, X, h, _, hv => by
    have h1 := quoL_nrm x g
    have h2 : nrm (quoL (x : Int) g) = 0 := by rw [nrm_congr (g := []) (fun i => by rw [quoL_deg h i (by omega)]; simp [co])]; rfl
    have h3 := hv 0 (Nat.le_refl _)
    rw [Nat.add_zero] at h3
    rw [h2] at h1
    simp
    omega
  | e + 1, g, x, V, X, h, hX, hv => by
    have h1 := quoL_nrm x g
    have h3 := hv 0 (by omega)
    rw [Nat.add_zero] at h3
    have ih := newton_bd e (quoL (x : Int) g) (x + 1) (2 * V) X (fun i hi => quoL_deg h i (by omega)) (by omega) (fun i hi => by
      have h4 := hv (i + 1) (by omega)
      have h5 := quoL_at (x : Int) ((x + (i + 1) : Nat) : Int) g
      rw [show x + 1 + i = x + (i + 1) by omega]
      have h6 : (evI (quoL (x : Int) g) ((x + (i + 1) : Nat) : Int)).natAbs ≤ (((x + (i + 1) : Nat) : Int) - (x : Int)).natAbs * (evI (quoL (x : Int) g) ((x + (i + 1) : Nat) : Int)).natAbs :=
        Nat.le_mul_of_pos_left _ (by omega)
      rw [← Int.natAbs_mul] at h6
      omega)
    have h7 : (1 + x) * nrm (quoL (x : Int) g) ≤ (X + 1) * (2 * V * (2 * X + 3) ^ e) := Nat.mul_le_mul (by omega) ih
    have h8 : 1 ≤ (2 * X + 3) ^ e := Nat.pow_pos (by omega)
    have h9 : V ≤ V * (2 * X + 3) ^ e := Nat.le_mul_of_pos_right _ h8
    rw [Nat.pow_succ]
    have h10 : V * ((2 * X + 3) ^ e * (2 * X + 3)) = (X + 1) * (2 * V * (2 * X + 3) ^ e) + V * (2 * X + 3) ^ e := by
      generalize (2 * X + 3) ^ e = z
      grind
    omega
theorem evI_bd {x X : Nat} (hX : x ≤ X) (h1 : 1 ≤ X) : ∀ (f : List Int) (n : Nat), (∀ i, n < i → co f i = 0) → (evI f (x : Int)).natAbs ≤ nrm f * X ^ n
  | [], n, _ => by simp [evI]
  | a :: l, n, h => by
    have e : evI (a :: l) (x : Int) = a + x * evI l (x : Int) := rfl
    rw [e, nrm_cons]
    have hp : 1 ≤ X ^ n := Nat.pow_pos (by omega)
    have ha : a.natAbs ≤ a.natAbs * X ^ n := Nat.le_mul_of_pos_right _ hp
    cases n with
    | zero =>
      have : evI l (x : Int) = 0 := evI_zero fun i => by have := h (i + 1) (by omega); simpa [co] using this
      rw [this]; simp
    | succ n =>
      have ih := evI_bd hX h1 l n fun i hi => by have := h (i + 1) (by omega); simpa [co] using this
      have h2 : ((x : Int) * evI l (x : Int)).natAbs ≤ nrm l * X ^ (n + 1) := by
        rw [Int.natAbs_mul, Int.natAbs_natCast, Nat.pow_succ, ← Nat.mul_assoc, Nat.mul_comm]
        exact Nat.mul_le_mul ih hX
      rw [Nat.add_mul]
      omega
theorem hgt_nrm : ∀ f : List Int, hgt f ≤ nrm f
  | [] => Nat.le_refl _
  | a :: l => by have := hgt_nrm l; rw [nrm_cons]; show max _ _ ≤ _; omega
/-- A divisor of a polynomial has small coefficients. -/
theorem div_bd {f g : List Int} {F n : Nat} (hd : ∃ h : List Int, P f = P g * P h) (h0 : P f ≠ 0) (hF : nrm f ≤ F) (hn : (trimZ f).length ≤ n + 1) : nrm g ≤ F * (2 * (F + n) + 7) ^ (2 * n) := by
  obtain ⟨h, e⟩ := hd
  have hg0 : P g ≠ 0 := fun e' => h0 (by rw [e, e']; exact QP.eq fun x => by simp only [v_mul, v_0]; grind)
  have hh0 : P h ≠ 0 := fun e' => h0 (by rw [e, e']; exact QP.eq fun x => by simp only [v_mul, v_0]; grind)
  have hdg := dg_mul hg0 hh0
  rw [← e, dg_P, dg_P, dg_P] at hdg
  have hp := dg_pos.1 hh0
  rw [dg_P] at hp
  have hf1 := dg_pos.1 h0
  rw [dg_P] at hf1
  have hgt1 : hgt (trimZ f) ≤ F := by rw [hgt_trim]; exact Nat.le_trans (hgt_nrm f) hF
  have hev : ∀ x : Nat, F + 2 ≤ x → x ≤ F + 2 + n → (evI g (x : Int)).natAbs ≤ F * (F + 2 + n) ^ n := fun x hx hx2 => by
    have h1 : evI f (x : Int) = evI g (x : Int) * evI h (x : Int) := by
      have := qat e (x : Rat)
      simp only [v_mul, v_P] at this
      have e2 : ((x : Nat) : Rat) = (((x : Nat) : Int) : Rat) := rfl
      rw [e2, evQ_int, evQ_int, evQ_int, ← Rat.intCast_mul] at this
      exact Rat.intCast_inj.1 this
    have h2 := (big_sign (x := (x : Int)) (H := F) (.inl (by omega)) (trimZ f) (by omega) (canon_last (canon_trim isZI f) (by omega)) hgt1).1
    have h3 : evI (trimZ f) (x : Int) = evI f (x : Int) := by
      have : ((evI (trimZ f) (x : Int) : Int) : Rat) = ((evI f (x : Int) : Int) : Rat) := by rw [← evQ_int, ← evQ_int, evQ_trim]
      exact Rat.intCast_inj.1 this
    rw [h3, h1] at h2
    have h4 : evI h (x : Int) ≠ 0 := fun e' => h2 (by rw [e', Int.mul_zero])
    have h5 := evI_bd (x := x) (X := F + 2 + n) hx2 (by omega) f n fun i hi => (tlen_spec f).1 i (by omega)
    rw [h1, Int.natAbs_mul] at h5
    have h6 : (evI g (x : Int)).natAbs ≤ (evI g (x : Int)).natAbs * (evI h (x : Int)).natAbs := Nat.le_mul_of_pos_right _ (by omega)
    exact Nat.le_trans h6 (Nat.le_trans h5 (Nat.mul_le_mul_right _ hF))
  have h7 := newton_bd n g (F + 2) (F * (F + 2 + n) ^ n) (F + 2 + n) (fun i hi => (tlen_spec g).1 i (by omega)) (Nat.le_refl _) fun i hi => hev (F + 2 + i) (by omega) (by omega)
  refine Nat.le_trans h7 ?_
  rw [Nat.mul_assoc, Nat.two_mul n, Nat.pow_add]
  exact Nat.mul_le_mul_left _ (Nat.mul_le_mul (Nat.pow_le_pow_left (by omega) n) (Nat.pow_le_pow_left (by omega) n))
end Go.Gx

/-
  Greatest common divisors, as the subresultant sequence finds them. Plain numbers; no program in sight.
-/
namespace Go.Gx
/-- A combination of two polynomials. -/
def InI (F G h : QP) : Prop := ∃ u v, h = u * F + v * G
theorem InI.left (F G : QP) : InI F G F := ⟨1, 0, QP.eq fun x => by simp only [v_add, v_mul, v_1, v_0]; grind⟩
theorem InI.right (F G : QP) : InI F G G := ⟨0, 1, QP.eq fun x => by simp only [v_add, v_mul, v_1, v_0]; grind⟩
theorem InI.lin {F G a b : QP} (ha : InI F G a) (hb : InI F G b) (u v : QP) : InI F G (u * a + v * b) := by
  obtain ⟨u1, v1, rfl⟩ := ha
  obtain ⟨u2, v2, rfl⟩ := hb
  exact ⟨u * u1 + v * u2, u * v1 + v * v2, QP.eq fun x => by simp only [v_add, v_mul]; grind⟩
/-- G divides F and g and is a combination of them. -/
def GcdQ (F G g : QP) : Prop := g ∣ F ∧ g ∣ G ∧ InI F G g
theorem GcdQ.dvd {F G g h : QP} (H : GcdQ F G g) (hF : h ∣ F) (hG : h ∣ G) : h ∣ g := by
  obtain ⟨_, _, u, v, rfl⟩ := H
  exact qdvd_add (qdvd_mulL _ hF) (qdvd_mulL _ hG)
theorem GcdQ.symm {F G g : QP} (H : GcdQ F G g) : GcdQ G F g := by
  obtain ⟨h1, h2, u, v, rfl⟩ := H
  exact ⟨h2, h1, v, u, QP.eq fun x => by simp only [v_add, v_mul]; grind⟩
theorem GcdQ.scale {F G g : QP} {a b c : Rat} (H : GcdQ F G g) (ha : a ≠ 0) (hb : b ≠ 0) (hc : c ≠ 0) : GcdQ (K a * F) (K b * G) (K c * g) := by
  obtain ⟨h1, h2, u, v, h3⟩ := H
  refine ⟨(K_dvd hc).2 (qdvd_mulL _ h1), (K_dvd hc).2 (qdvd_mulL _ h2), K (c / a) * u, K (c / b) * v, QP.eq fun x => ?_⟩
  have := qat h3 x
  simp only [v_add, v_mul, v_K] at this ⊢
  rw [this]; grind
theorem GcdQ.zero (F : QP) : GcdQ F 0 F := ⟨qdvd_refl _, qdvd_zero _, InI.left _ _⟩
/-- All common divisors. -/
def Com (F G a b : QP) : Prop := ∀ h : QP, h ∣ a → h ∣ b → h ∣ F ∧ h ∣ G
/-- Where the sequence stands. -/
structure RemI (a0 b0 a b : List Int) (l s D : Int) : Prop where
  sub : SubI a0 b0 ((trimZ a0).length - 1) ((trimZ b0).length - 1) a b ((trimZ a).length - 1) ((trimZ b).length - 1) l s
  hD : D.natAbs = l.natAbs * s.natAbs ^ ((trimZ a).length - (trimZ b).length)
  pa : 1 ≤ (trimZ a).length
  pb : 1 ≤ (trimZ b).length
  ia : InI (P a0) (P b0) (P a)
  ib : InI (P a0) (P b0) (P b)
  cm : Com (P a0) (P b0) (P a) (P b)
theorem pow_abs (x : Int) (n : Nat) : (x ^ n).natAbs = x.natAbs ^ n := Int.natAbs_pow x n
theorem RemI.start {a b : List Int} {D : Int} (h1 : (trimZ b).length ≤ (trimZ a).length) (h2 : 1 ≤ (trimZ b).length) (hD : D = (-1) ^ ((trimZ a).length - (trimZ b).length + 1)) : RemI a b a b 1 (-1) D := by
  have ⟨x1, x2⟩ := tlen_spec a
  have ⟨y1, y2⟩ := tlen_spec b
  refine ⟨SubI.start (by omega) (y2.resolve_left (by omega)) (fun x hx => y1 x (by omega)) (fun x hx => x1 x (by omega)) rfl rfl, ?_, by omega, h2, InI.left _ _, InI.right _ _, fun h ha hb => ⟨ha, hb⟩⟩
  rw [hD, pow_abs, show (-1 : Int).natAbs = 1 from rfl, show (1 : Int).natAbs = 1 from rfl]; simp
section
variable {a0 b0 a b q R r : List Int} {l s D : Int}
theorem RemI.D0 (h : RemI a0 b0 a b l s D) : D ≠ 0 := by
  have h1 := h.sub.l0
  have h2 := h.sub.s0
  have h3 := h.hD
  have : 0 < l.natAbs * s.natAbs ^ ((trimZ a).length - (trimZ b).length) := Nat.mul_pos (by omega) (Nat.pow_pos (by omega))
  omega
theorem RemI.ldb (h : RemI a0 b0 a b l s D) : ldP b = co b ((trimZ b).length - 1) ∧ ldP b ≠ 0 := by
  obtain ⟨d, hd⟩ : ∃ d, (trimZ b).length = d + 1 := ⟨(trimZ b).length - 1, by have := h.pb; omega⟩
  have ⟨h1, _, h3⟩ := ld_deg hd
  exact ⟨by rw [hd, Nat.add_sub_cancel, h1], h3⟩
/-- What a pseudo-division says of the coefficients. -/
structure Psd (a b q R : List Int) : Prop where
  id : ∀ x : Rat, evQ a x * ((ldP b : Int) : Rat) ^ ((trimZ a).length - ((trimZ b).length - 1)) = evQ q x * evQ b x + evQ R x
  lt : R.length + 1 ≤ (trimZ b).length
  tr : trimZ R = R
theorem Psd.poly (h : Psd a b q R) : K (((ldP b : Int) : Rat) ^ ((trimZ a).length - ((trimZ b).length - 1))) * P a = P q * P b + P R := QP.eq fun x => by
  have := h.id x
  simp only [v_mul, v_K, v_add, v_P]; grind
theorem RemI.coid (h : RemI a0 b0 a b l s D) (p : Psd a b q R) : (∀ x, co b ((trimZ b).length - 1) ^ ((trimZ a).length - 1 - ((trimZ b).length - 1) + 1) * co a x = co (pmul q b) x + co R x) ∧ (∀ u, (trimZ a).length - 1 - ((trimZ b).length - 1) < u → co q u = 0) ∧ ∀ x, (trimZ b).length - 1 ≤ x → co R x = 0 := by
  have h1 := h.pa
  have h2 := h.pb
  have h3 := h.sub.le
  have ⟨e1, e2⟩ := h.ldb
  have hp := p.poly
  have hlt := p.lt
  refine ⟨fun x => ?_, fun u hu => ?_, fun x hx => co_ge (by omega)⟩
  · have : P (scaleP a (ldP b ^ ((trimZ a).length - ((trimZ b).length - 1)))) = P (padd (pmul q b) R) := by rw [P_scale, cast_pow, P_add, P_mul]; exact hp
    have := P_co this x
    rw [co_scaleP, co_padd] at this
    rw [← e1, show (trimZ a).length - 1 - ((trimZ b).length - 1) + 1 = (trimZ a).length - ((trimZ b).length - 1) by omega, Int.mul_comm]
    exact this
  · by_cases hq : P q = 0
    · rw [P_co (hq.trans P_nil.symm) u]; simp [co]
    · have hb : P b ≠ 0 := dg_pos.2 (by rw [dg_P]; omega)
      have d1 := dg_mul hq hb
      have d2 : P q * P b = K (((ldP b : Int) : Rat) ^ ((trimZ a).length - ((trimZ b).length - 1))) * P a - P R := by rw [hp]; exact QP.eq fun x => by simp only [v_add, v_sub]; grind
      have d3 := dg_sub (K (((ldP b : Int) : Rat) ^ ((trimZ a).length - ((trimZ b).length - 1))) * P a) (P R)
      rw [← d2, dg_Kmul (pow_ne (cast_ne e2) _), dg_P, dg_P R, p.tr] at d3
      rw [dg_P, dg_P] at d1
      exact (tlen_spec q).1 u (by omega)
theorem RemI.exact (h : RemI a0 b0 a b l s D) (p : Psd a b q R) (j : Nat) : D ∣ co R j := by
  have ⟨h1, h2, h3⟩ := h.coid p
  have h4 := h.sub.le
  have h5 := h.pb
  refine h.sub.exact h3 h2 h1 (h.hD.trans ?_) j
  rw [show (trimZ a).length - 1 - ((trimZ b).length - 1) = (trimZ a).length - (trimZ b).length by omega]
/-- The quotient of the rest. -/
theorem RemI.quo (h : RemI a0 b0 a b l s D) (p : Psd a b q R) (hr : r = (trimZ R).map (fun x => x.tdiv D)) : (∀ x, co R x = D * co r x) ∧ (trimZ r).length = R.length ∧ r.length = R.length ∧ P R = K D * P r := by
  have h1 : ∀ x, co R x = D * co r x := fun x => by rw [hr, co_tdiv, co_trim]; exact (Int.mul_tdiv_cancel' (h.exact p x)).symm
  have h2 : P R = K D * P r := by rw [← P_scale]; exact P_congr fun i => by rw [co_scaleP, h1 i, Int.mul_comm]
  have h3 : dg (P R) = dg (P r) := by rw [h2, dg_Kmul (cast_ne h.D0)]
  rw [dg_P, dg_P, p.tr] at h3
  exact ⟨h1, h3.symm, by rw [hr, p.tr]; simp, h2⟩
theorem RemI.done (h : RemI a0 b0 a b l s D) (p : Psd a b q R) (h0 : R.length = 0) : GcdQ (P a0) (P b0) (P b) := by
  have hR : R = [] := List.eq_nil_of_length_eq_zero h0
  have hp := p.poly
  have ⟨_, e2⟩ := h.ldb
  have hd : P b ∣ P a := by
    refine (dvd_K (pow_ne (cast_ne e2) ((trimZ a).length - ((trimZ b).length - 1)))).1 ⟨P q, ?_⟩
    rw [hp, hR, P_nil]; exact QP.eq fun x => by simp only [v_add, v_0]; grind
  have := h.cm _ hd (qdvd_refl _)
  exact ⟨this.1, this.2, h.ib⟩
theorem const_dvd {f : QP} {l : List Int} (h : (trimZ l).length = 1) : P l ∣ f := by
  have hl : P l ≠ 0 := dg_pos.2 (by rw [dg_P]; omega)
  obtain ⟨c, hc⟩ := dg_one (f := P l) (by rw [dg_P]; omega)
  have hc0 : c ≠ 0 := fun e => hl (by rw [hc, e]; rfl)
  exact ⟨K (1 / c) * f, QP.eq fun x => by rw [hc]; simp only [v_mul, v_K]; grind⟩
theorem gcd_const {F G : QP} {l : List Int} (h : (trimZ l).length = 1) (hi : InI F G (P l)) : GcdQ F G (P l) := ⟨const_dvd h, const_dvd h, hi⟩
theorem RemI.inr (h : RemI a0 b0 a b l s D) (p : Psd a b q R) (hr : r = (trimZ R).map (fun x => x.tdiv D)) : InI (P a0) (P b0) (P r) := by
  have ⟨_, _, _, e⟩ := h.quo p hr
  have hp := p.poly
  have := h.ia.lin h.ib (K (((ldP b : Int) : Rat) ^ ((trimZ a).length - ((trimZ b).length - 1)) / (D : Rat))) (K (-1 / (D : Rat)) * P q)
  have e2 : K (((ldP b : Int) : Rat) ^ ((trimZ a).length - ((trimZ b).length - 1)) / (D : Rat)) * P a + K (-1 / (D : Rat)) * P q * P b = P r := QP.eq fun x => by
    have h1 := qat hp x
    have h2 := qat e x
    have h3 := cast_ne h.D0
    simp only [v_add, v_mul, v_K] at h1 h2 ⊢
    grind
  rwa [e2] at this
theorem RemI.next {s' D' : Int} (h : RemI a0 b0 a b l s D) (p : Psd a b q R) (hr : r = (trimZ R).map (fun x => x.tdiv D)) (hR : R.length ≠ 0)
    (hs : ((trimZ a).length = (trimZ b).length ∧ s' = s) ∨ ((trimZ b).length < (trimZ a).length ∧ s' = ((-ldP b) ^ ((trimZ a).length - (trimZ b).length)).tdiv (s ^ ((trimZ a).length - (trimZ b).length - 1))))
    (hD' : D' = -ldP b * s' ^ ((trimZ b).length - (trimZ r).length)) : RemI a0 b0 b r (-ldP b) s' D' := by
  have ⟨h1, h2, h3⟩ := h.coid p
  have ⟨q1, q2, q3, q4⟩ := h.quo p hr
  have ⟨e1, e2⟩ := h.ldb
  have hle := h.sub.le
  have hpa := h.pa
  have hpb := h.pb
  have hlt := p.lt
  have ⟨z1, z2⟩ := tlen_spec r
  have hreg : ((trimZ b).length < (trimZ a).length) → s'.natAbs * s.natAbs ^ ((trimZ a).length - 1 - ((trimZ b).length - 1) - 1) = (co b ((trimZ b).length - 1)).natAbs ^ ((trimZ a).length - 1 - ((trimZ b).length - 1)) := fun hlt' => by
    have hd := h.sub.reg (by omega)
    rcases hs with ⟨hs, _⟩ | ⟨_, hs⟩
    · omega
    · rw [hs, Int.natAbs_tdiv, pow_abs, pow_abs, Int.natAbs_neg, e1, show (trimZ a).length - 1 - ((trimZ b).length - 1) = (trimZ a).length - (trimZ b).length by omega] at *
      exact Nat.div_mul_cancel hd
  refine ⟨h.sub.next (D := D) (nr := (trimZ r).length - 1) h2 (fun x => by rw [← q1 x]; exact h1 x) ?_ (z2.resolve_left (by omega)) (fun x hx => z1 x (by omega)) (by omega) (by rw [Int.natAbs_neg, e1]) ?_, ?_, hpb, by omega, h.ib, h.inr p hr, fun x hx1 hx2 => ?_⟩
  · rw [h.hD, show (trimZ a).length - 1 - ((trimZ b).length - 1) = (trimZ a).length - (trimZ b).length by omega]
  · rcases hs with ⟨hs, e⟩ | ⟨hs, e⟩
    · exact .inl ⟨by omega, e⟩
    · exact .inr ⟨by omega, hreg hs⟩
  · rw [hD', Int.natAbs_mul, pow_abs]
  · have hxa : x ∣ P a := by
      refine (dvd_K (pow_ne (cast_ne e2) ((trimZ a).length - ((trimZ b).length - 1)))).1 ?_
      rw [p.poly, q4]
      exact qdvd_add (qdvd_mulL _ hx1) (qdvd_mulL _ hx2)
    exact h.cm x hxa hx1
/-- Sizes. -/
theorem RemI.size (h : RemI a0 b0 a b l s D) (p : Psd a b q R) (hr : r = (trimZ R).map (fun x => x.tdiv D)) {H N : Nat} (ha : ∀ i, (co a0 i).natAbs ≤ H) (hb : ∀ i, (co b0 i).natAbs ≤ H) (hH : 1 ≤ H) (hN : (trimZ a0).length + (trimZ b0).length ≤ N) (h0 : (trimZ b).length ≤ (trimZ b0).length) (h00 : (trimZ b0).length ≤ (trimZ a0).length) (j : Nat) : (co r j).natAbs ≤ (N * H) ^ N := by
  have ⟨h1, h2, h3⟩ := h.coid p
  have ⟨q1, _, _, _⟩ := h.quo p hr
  have hle := h.sub.le
  have hpb := h.pb
  rcases Nat.lt_or_ge j ((trimZ b).length - 1) with hj | hj
  · have e1 := sub_prem (n := (trimZ a).length - 1) (m := (trimZ b).length - 1) (d := (trimZ a).length - 1 - ((trimZ b).length - 1)) (j := j) rfl h.sub.top h.sub.hb h3 h2 h1 (by omega) (by omega)
    have e2 := h.sub.sr ((trimZ b).length - 1 - 1) j (by omega) (by omega)
    rw [e1, show (trimZ b).length - 1 - ((trimZ b).length - 1 - 1) = 1 by omega, show (trimZ a).length - 1 - ((trimZ b).length - 1 - 1) - 1 = (trimZ a).length - (trimZ b).length by omega, Nat.pow_one, ← h.hD, q1, Int.natAbs_mul] at e2
    have e3 := Nat.eq_of_mul_eq_mul_left (by have := h.D0; omega) e2
    rw [e3]
    exact Sr_bd ha hb hH (by omega) (by omega) (by omega)
  · have : D * co r j = 0 := by rw [← q1]; exact h3 j hj
    rcases Int.mul_eq_zero.1 this with e | e
    · exact absurd e h.D0
    · rw [e]; simp
theorem RemI.sizeS {s' : Int} (h : RemI a0 b0 a b l s D) (hlt : (trimZ b).length < (trimZ a).length) (hs : s' = ((-ldP b) ^ ((trimZ a).length - (trimZ b).length)).tdiv (s ^ ((trimZ a).length - (trimZ b).length - 1))) {H N : Nat} (ha : ∀ i, (co a0 i).natAbs ≤ H) (hb : ∀ i, (co b0 i).natAbs ≤ H) (hH : 1 ≤ H) (hN : (trimZ a0).length + (trimZ b0).length ≤ N) (h0 : (trimZ b).length ≤ (trimZ b0).length) (h00 : (trimZ b).length < (trimZ a0).length) (h01 : 1 ≤ (trimZ b0).length) : s'.natAbs ≤ (N * H) ^ N := by
  have hpb := h.pb
  have ⟨e1, _⟩ := h.ldb
  have hd := h.sub.reg (by omega)
  have e2 := h.sub.sr ((trimZ b).length - 1) ((trimZ b).length - 1) (Nat.le_refl _) (by omega)
  rw [sub_reg rfl h.sub.hb (by omega), pow_abs, Nat.sub_self, Nat.pow_zero, Nat.one_mul] at e2
  have hp : 0 < s.natAbs ^ ((trimZ a).length - (trimZ b).length - 1) := Nat.pow_pos (by have := h.sub.s0; omega)
  have e3 : s'.natAbs = (Sr ((trimZ b).length - 1) a0 b0 ((trimZ a0).length - 1) ((trimZ b0).length - 1) ((trimZ b).length - 1)).natAbs := by
    rw [hs, Int.natAbs_tdiv, pow_abs, pow_abs, Int.natAbs_neg, e1]
    rw [show (trimZ a).length - 1 - ((trimZ b).length - 1) = (trimZ a).length - (trimZ b).length by omega] at e2
    rw [e2]
    exact Nat.mul_div_cancel_left _ hp
  rw [e3]
  exact Sr_bd ha hb hH (by omega) (by omega) (by omega)
end
end Go.Gx

/-
  Sizes of numbers in memory out of their values; greatest common divisors as the program returns them. No program in sight.
-/
namespace Go.Gx
theorem BS_pos : 1 < BS := by decide
theorem PolyR.coef {w : World} {S : Nat → Prop} {A : Option Addr} {n c M : Nat} {l : List RI} (h : PolyR w S A n c l M) {K : Nat} (hM : M ≤ K) (i : Nat) : (co (zs l) i).natAbs ≤ BS ^ K := by
  rcases Nat.lt_or_ge i l.length with hi | hi
  · have e1 : co (zs l) i = (l[i]).z := by simp [co, List.getD, List.getElem?_eq_getElem hi]
    have hN := h.2 l[i] (List.getElem_mem hi)
    have h3 : (l[i]).d.length = (l[i]).n := by have := hN.1.1.1; simpa using this
    have e2 : (l[i]).z.natAbs = val (l[i]).d := by unfold RI.z zval; split <;> omega
    rw [e1, e2]
    exact Nat.le_trans (Nat.le_of_lt (val_lt _ hN.1.2)) (Nat.pow_le_pow_right (by decide) (by have := hN.2; omega))
  · have e1 : co (zs l) i = 0 := co_ge (by simpa using hi)
    rw [e1]; simp
theorem PolyR.tightC {w : World} {S : Nat → Prop} {A : Option Addr} {n c M : Nat} {l : List RI} {K : Nat} (h : PolyR w S A n c l M) (hc : AllC l) (hn : ∀ i, (co (zs l) i).natAbs < BS ^ K) : PolyR w S A n c l K := by
  refine ⟨h.1, fun r hr => ⟨(h.2 r hr).1, ?_⟩⟩
  have hN := (h.2 r hr).1
  obtain ⟨i, hi, e⟩ := List.getElem_of_mem hr
  have h1 := hn i
  have e1 : co (zs l) i = r.z := by simp [co, List.getD, List.getElem?_eq_getElem hi, e]
  rw [e1] at h1
  have e2 : r.z.natAbs = val r.d := by unfold RI.z zval; split <;> omega
  have h2 := lt_val_len (hc r hr).1 (k := K) (by omega)
  have h3 : r.d.length = r.n := by have := hN.1.1; simpa using this
  omega
theorem int_tight {g : Bool} {d : List Nat} {n K : Nat} (hc : ICan g d) (hl : d.length = n) (hv : (zval g d).natAbs < BS ^ K) : n ≤ K := by
  have e2 : (zval g d).natAbs = val d := by unfold zval; split <;> omega
  have := lt_val_len hc.1 (k := K) (by omega)
  omega
theorem sr_big {K Z : Nat} (h : (K + 1) * 22 < Z) : (22 * BS ^ K) ^ 22 < BS ^ Z := by
  have h1 : 22 * BS ^ K ≤ BS ^ (K + 1) := by rw [Nat.pow_succ, Nat.mul_comm]; exact Nat.mul_le_mul_left _ (by decide)
  refine Nat.lt_of_le_of_lt (Nat.pow_le_pow_left h1 22) ?_
  rw [← Nat.pow_mul]
  exact Nat.pow_lt_pow_right BS_pos h
theorem sr_big1 (K : Nat) : 1 ≤ BS ^ K := Nat.pow_pos (by decide)
def capK : Nat := 2401
def capZ : Nat := 60000
theorem cap_le : capZ ≤ 60000 := Nat.le_refl _
theorem cap_of {M : Nat} (h : M ≤ 2401) : M ≤ capK := h
theorem RemI.sizeZ {a0 b0 a b q R r : List Int} {l s D : Int} (h : RemI a0 b0 a b l s D) (p : Psd a b q R) (hr : r = (trimZ R).map (fun x => x.tdiv D)) (ha : ∀ i, (co a0 i).natAbs ≤ BS ^ capK) (hb : ∀ i, (co b0 i).natAbs ≤ BS ^ capK) (hN : (trimZ a0).length + (trimZ b0).length ≤ 22) (h0 : (trimZ b).length ≤ (trimZ b0).length) (h00 : (trimZ b0).length ≤ (trimZ a0).length) (j : Nat) : (co r j).natAbs < BS ^ capZ :=
  Nat.lt_of_le_of_lt (h.size p hr ha hb (sr_big1 capK) hN h0 h00 j) (sr_big (by decide))
theorem RemI.sizeSZ {a0 b0 a b : List Int} {l s D s' : Int} (h : RemI a0 b0 a b l s D) (hlt : (trimZ b).length < (trimZ a).length) (hs : s' = ((-ldP b) ^ ((trimZ a).length - (trimZ b).length)).tdiv (s ^ ((trimZ a).length - (trimZ b).length - 1))) (ha : ∀ i, (co a0 i).natAbs ≤ BS ^ capK) (hb : ∀ i, (co b0 i).natAbs ≤ BS ^ capK) (hN : (trimZ a0).length + (trimZ b0).length ≤ 22) (h0 : (trimZ b).length ≤ (trimZ b0).length) (h00 : (trimZ b).length < (trimZ a0).length) (h01 : 1 ≤ (trimZ b0).length) : s'.natAbs < BS ^ capZ :=
  Nat.lt_of_le_of_lt (h.sizeS hlt hs ha hb (sr_big1 capK) hN h0 h00 h01) (sr_big (by decide))
theorem trim_len2 {A F : List Int} (e : A = trimZ F) : (trimZ A).length = A.length ∧ (trimZ A).length = (trimZ F).length ∧ P A = P F := by
  have h : trimZ A = A := by rw [e]; exact canon_trim isZI F
  exact ⟨by rw [h], by rw [h, e], by rw [e, P_trim]⟩
theorem gcd_trim {A B F G g : List Int} (ha : P A = P F) (hb : P B = P G) (h : GcdQ (P A) (P B) (P g)) : GcdQ (P F) (P G) (P g) := by rw [← ha, ← hb]; exact h
theorem P_of_len {F : List Int} (h : 1 ≤ (trimZ F).length) : P F ≠ 0 := dg_pos.2 (by rw [dg_P]; exact h)
/-- The greatest common divisor over the integers. -/
structure IsGcd (F G R : List Int) : Prop where
  q : GcdQ (P F) (P G) (P R)
  c : contP R = Nat.gcd (contP F) (contP G)
  s : 0 ≤ ldP R
  t : trimZ R = R
def posP (F : List Int) : List Int := if ldP F < 0 then scaleP F (-1) else F
theorem contP_congr {F G : List Int} (h : ∀ i, co F i = co G i) : contP F = contP G :=
  Nat.dvd_antisymm (cont_dvd fun i => by rw [← h]; exact dvd_cont F i) (cont_dvd fun i => by rw [h]; exact dvd_cont G i)
theorem contP_trim (F : List Int) : contP (trimZ F) = contP F := contP_congr fun i => co_trim F i
theorem contP_scale (F : List Int) (c : Int) : contP (scaleP F c) = c.natAbs * contP F := by
  refine Nat.dvd_antisymm ?_ (cont_dvd fun i => ?_)
  · by_cases hc : c = 0
    · subst hc; simp
    · have h1 : c.natAbs ∣ contP (scaleP F c) := cont_dvd fun i => by rw [co_scaleP]; exact Int.dvd_trans (Int.natAbs_dvd.2 (Int.dvd_refl c)) (Int.dvd_mul_left _ _)
      obtain ⟨k, hk⟩ := h1
      rw [hk]
      refine Nat.mul_dvd_mul_left _ (cont_dvd fun i => ?_)
      have h2 := dvd_cont (scaleP F c) i
      rw [hk, co_scaleP, Int.ofNat_dvd_left, Int.natAbs_mul, Nat.mul_comm (co F i).natAbs] at h2
      rw [Int.ofNat_dvd_left]
      exact Nat.dvd_of_mul_dvd_mul_left (by omega) h2
  · rw [co_scaleP, Int.ofNat_dvd_left, Int.natAbs_mul, Nat.mul_comm]
    exact Nat.mul_dvd_mul (Int.ofNat_dvd_left.1 (dvd_cont F i)) (Nat.dvd_refl _)
theorem ld_scale (F : List Int) (c : Int) : ldP (scaleP F c) = c * ldP F := by
  by_cases h : ldP F = 0
  · rw [h, Int.mul_zero]
    have h1 := (ld_zero_iff F).1 h
    refine (ld_zero_iff _).2 ?_
    rw [P_scale, h1]; exact QP.eq fun x => by simp only [v_mul, v_0]; grind
  · by_cases hc : c = 0
    · subst hc
      rw [Int.zero_mul]
      refine (ld_zero_iff _).2 ?_
      rw [P_scale]; exact QP.eq fun x => by simp only [v_mul, v_K, v_0]; rw [zero_cast]; grind
    · obtain ⟨d, hd⟩ := ld_len h
      have ⟨h1, _, _⟩ := ld_deg hd
      have ⟨h2, _, _⟩ := ld_deg (G := scaleP F c) (d := d) (by rw [tlen_scale F hc, hd])
      rw [← h1, ← h2, co_scaleP, Int.mul_comm]
theorem ld_trim (F : List Int) : ldP (trimZ F) = ldP F := by unfold ldP; rw [show trimZ (trimZ F) = trimZ F from canon_trim isZI F]
theorem trim_trim (F : List Int) : trimZ (trimZ F) = trimZ F := canon_trim isZI F
theorem P_pos (F : List Int) : ∃ c : Rat, c ≠ 0 ∧ P (posP F) = K c * P F := by
  unfold posP
  split
  · exact ⟨((-1 : Int) : Rat), by decide, P_scale F (-1)⟩
  · exact ⟨1, by decide, QP.eq fun x => by simp only [v_mul, v_K]; grind⟩
theorem isGcd_pos {F G R : List Int} (hG : (trimZ G).length = 0) (e : R = trimZ (posP F)) : IsGcd F G R := by
  have hg : P G = 0 := dg_zero.1 (by rw [dg_P]; exact hG)
  have hc : contP G = 0 := by rw [← contP_trim, List.eq_nil_of_length_eq_zero hG]; rfl
  obtain ⟨c, hc0, hp⟩ := P_pos F
  refine ⟨?_, ?_, ?_, by rw [e, trim_trim]⟩
  · rw [e, P_trim, hp, hg]
    refine ⟨(K_dvd hc0).2 (qdvd_refl _), qdvd_zero _, K c, 0, QP.eq fun x => by simp only [v_add, v_mul, v_0]; grind⟩
  · rw [e, contP_trim, hc, Nat.gcd_zero_right]
    unfold posP; split
    · rw [contP_scale]; simp
    · rfl
  · rw [e, ld_trim]
    unfold posP; split
    · rw [ld_scale]; omega
    · omega
theorem IsGcd.symm {F G R : List Int} (h : IsGcd F G R) : IsGcd G F R := ⟨h.q.symm, by rw [h.c, Nat.gcd_comm], h.s, h.t⟩
theorem isGcd_main {F G A B L R : List Int} {c : Int} (hF : ldP F ≠ 0) (hG : ldP G ≠ 0) (hA : A = primP F) (hB : B = primP G) (hL : GcdQ (P A) (P B) (P L)) (h0 : P L ≠ 0) (hc : c = (Nat.gcd (contP F) (contP G) : Int)) (e : R = trimZ (scaleP (primP L) c)) : IsGcd F G R := by
  have hc0 : 0 < c := by rw [hc]; have := Nat.gcd_pos_of_pos_left (contP G) (cont_pos hF); omega
  have hl := (ld_ne_iff L).2 h0
  have hp := ld_prim hl
  refine ⟨?_, ?_, ?_, by rw [e, trim_trim]⟩
  · rw [e, P_trim, P_scale, P_primP hl]
    have h1 := hL.scale (cast_ne (primC_ne hF)) (cast_ne (primC_ne hG)) (c := (c : Rat) * (1 / (primC L : Rat))) (by have := cast_ne (primC_ne hl); have := cast_ne (show c ≠ 0 by omega); grind)
    rw [hA, hB, ← P_prim, ← P_prim] at h1
    have e2 : K ((c : Rat) * (1 / (primC L : Rat))) * P L = K (c : Rat) * (K (1 / (primC L : Rat)) * P L) := QP.eq fun x => by simp only [v_mul, v_K]; grind
    rwa [e2] at h1
  · rw [e, contP_trim, contP_scale, cont_prim hl, hc]; simp
  · rw [e, ld_trim, ld_scale]
    exact Int.le_of_lt (Int.mul_pos hc0 hp)
end Go.Gx
namespace Go.Gx
/-- No common factor of positive degree. -/
def CopQ (f g : QP) : Prop := InI f g 1
end Go.Gx

/-
  Irreducible polynomials over the rationals, their multiplicities, derivatives. Plain numbers; no program in sight.
-/
namespace Go.Gx
theorem qp_bezout_ : ∀ (n : Nat) (f g : QP), dg g ≤ n → ∃ d, GcdQ f g d
  | 0, f, g, h => by
    obtain rfl : g = 0 := dg_zero.1 (by omega)
    exact ⟨f, GcdQ.zero f⟩
  | n + 1, f, g, h => by
    by_cases hg : g = 0
    · subst hg; exact ⟨f, GcdQ.zero f⟩
    · obtain ⟨q, r, e, hr⟩ := qp_divmod hg f
      obtain ⟨d, h1, h2, u, v, h3⟩ := qp_bezout_ n g r (by omega)
      refine ⟨d, ?_, h1, v, u - v * q, ?_⟩
      · rw [e]; exact qdvd_add (qdvd_mulL _ h1) h2
      · rw [h3, e]; exact QP.eq fun x => by simp only [v_add, v_mul, v_sub]; grind
theorem qp_bezout (f g : QP) : ∃ d, GcdQ f g d := qp_bezout_ _ f g (Nat.le_refl _)
/-- An irreducible polynomial. -/
def Irr (π : QP) : Prop := 2 ≤ dg π ∧ ∀ a b : QP, π = a * b → dg a = 1 ∨ dg b = 1
theorem Irr.ne {π : QP} (h : Irr π) : π ≠ 0 := dg_pos.2 (by have := h.1; omega)
theorem qmul_zero (f : QP) : f * 0 = 0 := QP.eq fun x => by simp only [v_mul, v_0]; grind
theorem zero_qmul (f : QP) : 0 * f = 0 := QP.eq fun x => by simp only [v_mul, v_0]; grind
theorem qmul_one (f : QP) : f * 1 = f := QP.eq fun x => by simp only [v_mul, v_1]; grind
theorem one_qmul (f : QP) : 1 * f = f := QP.eq fun x => by simp only [v_mul, v_1]; grind
theorem dg_1 : dg (1 : QP) = 1 := dg_K (by decide)
theorem one_ne : (1 : QP) ≠ 0 := K_ne (by decide)
theorem irr_ex : ∀ (n : Nat) (f : QP), dg f ≤ n → 2 ≤ dg f → ∃ π, Irr π ∧ π ∣ f
  | 0, f, h, h2 => by omega
  | n + 1, f, h, h2 => by
    by_cases hi : Irr f
    · exact ⟨f, hi, qdvd_refl f⟩
    · have : ∃ a b : QP, f = a * b ∧ dg a ≠ 1 ∧ dg b ≠ 1 := by
        apply Classical.byContradiction
        intro hn
        refine hi ⟨h2, fun a b e => ?_⟩
        apply Classical.byContradiction
        intro hc
        exact hn ⟨a, b, e, fun h => hc (.inl h), fun h => hc (.inr h)⟩
      obtain ⟨a, b, rfl, ha, hb⟩ := this
      have hab : a * b ≠ 0 := dg_pos.2 (by omega)
      have ha0 : a ≠ 0 := fun e => hab (by rw [e, zero_qmul])
      have hb0 : b ≠ 0 := fun e => hab (by rw [e, qmul_zero])
      have h3 := dg_mul ha0 hb0
      have h4 := dg_pos.1 ha0
      have h5 := dg_pos.1 hb0
      obtain ⟨π, hπ, hd⟩ := irr_ex n a (by omega) (by omega)
      exact ⟨π, hπ, qdvd_mulR _ hd⟩
theorem irr_factor {f : QP} (h : 2 ≤ dg f) : ∃ π, Irr π ∧ π ∣ f := irr_ex _ f (Nat.le_refl _) h
theorem dg_one_ne {a : QP} (h : dg a = 1) : ∃ r : Rat, r ≠ 0 ∧ a = K r := by
  obtain ⟨r, e⟩ := dg_one (f := a) (by omega)
  exact ⟨r, fun e' => by rw [e, e', show K 0 = 0 from rfl, dg_zero.2 rfl] at h; omega, e⟩
theorem irr_prime {π a b : QP} (h : Irr π) (hd : π ∣ a * b) : π ∣ a ∨ π ∣ b := by
  obtain ⟨d, ⟨q, e⟩, hda, u, v, e3⟩ := qp_bezout π a
  rcases h.2 q d e with h1 | h1
  · left
    obtain ⟨r, hr, rfl⟩ := dg_one_ne h1
    rw [e]
    exact (K_dvd hr).2 hda
  · right
    obtain ⟨r, hr, rfl⟩ := dg_one_ne h1
    have : b = K (1 / r) * (u * b * π + v * (a * b)) := QP.eq fun x => by
      have := qat e3 x
      simp only [v_add, v_mul, v_K] at this ⊢
      grind
    rw [this]
    exact qdvd_mulL _ (qdvd_add (qdvd_mulL _ (qdvd_refl π)) (qdvd_mulL _ hd))
theorem irr_not_one {π : QP} (h : Irr π) : ¬ π ∣ 1 := fun hd => by
  have := dvd_le hd one_ne
  rw [dg_1] at this
  have := h.1
  omega
theorem mul_ex {π : QP} (hπ : 2 ≤ dg π) : ∀ (n : Nat) (f : QP), dg f ≤ n → f ≠ 0 → ∃ k, Mul_ f π k
  | 0, f, h, h0 => by have := dg_pos.1 h0; omega
  | n + 1, f, h, h0 => by
    by_cases hd : π ∣ f
    · obtain ⟨q, rfl⟩ := hd
      have hq : q ≠ 0 := fun e => h0 (by rw [e, zero_qmul])
      have := dg_mul hq (dg_pos.2 (by omega) : π ≠ 0)
      obtain ⟨k, r, e, hr⟩ := mul_ex hπ n q (by omega) hq
      exact ⟨k + 1, r, by rw [qp_pow_succ, ← qmul_assoc, ← e], hr⟩
    · exact ⟨0, f, by rw [qp_pow_zero, qmul_one], hd⟩
/-- The multiplicity. -/
noncomputable def va (π f : QP) : Nat := @dite _ (∃ k, Mul_ f π k) (Classical.propDecidable _) (fun h => Classical.choose h) (fun _ => 0)
theorem va_spec {π f : QP} (hπ : Irr π) (hf : f ≠ 0) : Mul_ f π (va π f) := by
  have h := mul_ex hπ.1 _ f (Nat.le_refl _) hf
  unfold va
  rw [dif_pos h]
  exact Classical.choose_spec h
theorem va_of {π f : QP} {k : Nat} (hπ : Irr π) (hf : f ≠ 0) (h : Mul_ f π k) : va π f = k := mul_unique hπ.ne (va_spec hπ hf) h
theorem va_dvd {π f : QP} (hπ : Irr π) (hf : f ≠ 0) (m : Nat) : π ^ m ∣ f ↔ m ≤ va π f := mul_le hπ.ne (va_spec hπ hf)
theorem qp_pow_one (f : QP) : f ^ 1 = f := by rw [qp_pow_succ, qp_pow_zero, one_qmul]
theorem va_pos {π f : QP} (hπ : Irr π) (hf : f ≠ 0) : π ∣ f ↔ 1 ≤ va π f := by rw [← va_dvd hπ hf, qp_pow_one]
theorem va_mul {π f g : QP} (hπ : Irr π) (hf : f ≠ 0) (hg : g ≠ 0) : va π (f * g) = va π f + va π g := by
  obtain ⟨r, e, hr⟩ := va_spec hπ hf
  obtain ⟨s, e', hs⟩ := va_spec hπ hg
  refine va_of hπ (qp_mul_ne hf hg) ⟨r * s, ?_, fun hd => (irr_prime hπ hd).elim hr hs⟩
  rw [qp_pow_add]
  refine QP.eq fun x => ?_
  have h1 := qat e x
  have h2 := qat e' x
  simp only [v_mul] at h1 h2 ⊢
  grind
theorem va_K {π : QP} {r : Rat} (hπ : Irr π) (hr : r ≠ 0) : va π (K r) = 0 := va_of hπ (K_ne hr) ⟨K r, by rw [qp_pow_zero, qmul_one], fun hd => by
  have := dvd_le hd (K_ne hr)
  rw [dg_K hr] at this
  have := hπ.1
  omega⟩
theorem va_pow {π f : QP} (hπ : Irr π) (hf : f ≠ 0) : ∀ n, va π (f ^ n) = n * va π f
  | 0 => by rw [qp_pow_zero, Nat.zero_mul]; exact va_K hπ (by decide)
  | n + 1 => by rw [qp_pow_succ, va_mul hπ (qp_pow_ne hf n) hf, va_pow hπ hf n, Nat.succ_mul]
theorem va_Kmul {π f : QP} {r : Rat} (hπ : Irr π) (hr : r ≠ 0) (hf : f ≠ 0) : va π (K r * f) = va π f := by rw [va_mul hπ (K_ne hr) hf, va_K hπ hr, Nat.zero_add]
theorem dvd_of_va_ : ∀ (n : Nat) (f g : QP), dg f ≤ n → f ≠ 0 → g ≠ 0 → (∀ π, Irr π → va π f ≤ va π g) → f ∣ g
  | 0, f, g, h, hf, _, _ => by have := dg_pos.1 hf; omega
  | n + 1, f, g, h, hf, hg, hv => by
    rcases Nat.lt_or_ge (dg f) 2 with h1 | h1
    · obtain ⟨r, hr, rfl⟩ := dg_one_ne (a := f) (by have := dg_pos.1 hf; omega)
      exact ⟨K (1 / r) * g, QP.eq fun x => by simp only [v_mul, v_K]; grind⟩
    · obtain ⟨π, hπ, q, rfl⟩ := irr_factor h1
      have hq : q ≠ 0 := fun e => hf (by rw [e, zero_qmul])
      have h2 : 1 ≤ va π (q * π) := (va_pos hπ hf).1 ⟨q, rfl⟩
      obtain ⟨s, rfl⟩ := (va_pos hπ hg).2 (Nat.le_trans h2 (hv π hπ))
      have hs : s ≠ 0 := fun e => hg (by rw [e, zero_qmul])
      have h3 := dg_mul hq hπ.ne
      have h4 := hπ.1
      refine qmul_mul (dvd_of_va_ n q s (by omega) hq hs fun ρ hρ => ?_) (qdvd_refl π)
      have h5 := hv ρ hρ
      rw [va_mul hρ hq hπ.ne, va_mul hρ hs hπ.ne] at h5
      omega
theorem dvd_of_va {f g : QP} (hf : f ≠ 0) (hg : g ≠ 0) (h : ∀ π, Irr π → va π f ≤ va π g) : f ∣ g := dvd_of_va_ _ f g (Nat.le_refl _) hf hg h
theorem va_le_of_dvd {π f g : QP} (hπ : Irr π) (hf : f ≠ 0) (hg : g ≠ 0) (h : f ∣ g) : va π f ≤ va π g := by
  obtain ⟨q, rfl⟩ := h
  have hq : q ≠ 0 := fun e => hg (by rw [e, zero_qmul])
  rw [va_mul hπ hq hf]; omega
theorem va_gcd {π f g d : QP} (hπ : Irr π) (hf : f ≠ 0) (hg : g ≠ 0) (hd : d ≠ 0) (h : GcdQ f g d) : va π d = min (va π f) (va π g) := by
  have h1 := va_le_of_dvd hπ hd hf h.1
  have h2 := va_le_of_dvd hπ hd hg h.2.1
  have h3 := (va_dvd hπ hd (min (va π f) (va π g))).1 (h.dvd ((va_dvd hπ hf _).2 (by omega)) ((va_dvd hπ hg _).2 (by omega)))
  omega
theorem va_dg {π f : QP} (hπ : Irr π) (hf : f ≠ 0) : va π f + 1 ≤ dg f := by
  have h1 := dvd_le ((va_dvd hπ hf _).2 (Nat.le_refl _)) hf
  have h2 := dg_pow_ge hπ.1 (va π f)
  omega
theorem cop_iff {f g : QP} : InI f g 1 ↔ ∀ π, Irr π → π ∣ f → ¬ π ∣ g := by
  constructor
  · rintro ⟨u, v, e⟩ π hπ h1 h2
    exact irr_not_one hπ (by rw [e]; exact qdvd_add (qdvd_mulL _ h1) (qdvd_mulL _ h2))
  · intro h
    obtain ⟨d, h1, h2, u, v, e⟩ := qp_bezout f g
    rcases Nat.lt_or_ge (dg d) 2 with h3 | h3
    · by_cases hd : d = 0
      · exfalso
        subst hd
        obtain ⟨π, hπ, _⟩ := irr_factor (f := P [0, 1]) (by rw [dg_P]; decide)
        have hf := zero_qdvd h1
        have hg := zero_qdvd h2
        exact h π hπ (by rw [hf]; exact qdvd_zero _) (by rw [hg]; exact qdvd_zero _)
      · obtain ⟨r, hr, rfl⟩ := dg_one_ne (a := d) (by have := dg_pos.1 hd; omega)
        exact ⟨K (1 / r) * u, K (1 / r) * v, QP.eq fun x => by have := qat e x; simp only [v_add, v_mul, v_K, v_1] at this ⊢; grind⟩
    · exfalso
      obtain ⟨π, hπ, hd⟩ := irr_factor h3
      exact h π hπ (qdvd_trans hd h1) (qdvd_trans hd h2)
theorem P_deriv_congr {l m : List Int} {c d : Rat} (h : K c * P l = K d * P m) : K c * P (derivP l) = K d * P (derivP m) := by
  have hc := den_ne c
  have hd := den_ne d
  have e : P (scaleP l (c.num * d.den)) = P (scaleP m (d.num * c.den)) := by
    rw [P_scale, P_scale]
    refine QP.eq fun x => ?_
    have := qat h x
    have h1 := den_mul c
    have h2 := den_mul d
    simp only [v_mul, v_K, Rat.intCast_mul] at this ⊢
    rw [← h1, ← h2]; grind
  have e2 : P (scaleP (derivP l) (c.num * d.den)) = P (scaleP (derivP m) (d.num * c.den)) := P_congr fun i => by
    have := P_co e (i + 1)
    rw [co_scaleP, co_scaleP] at this
    rw [co_scaleP, co_scaleP, co_derivP, co_derivP, Int.mul_right_comm, this, Int.mul_right_comm]
  rw [P_scale, P_scale] at e2
  refine QP.eq fun x => ?_
  have := qat e2 x
  have h1 := den_mul c
  have h2 := den_mul d
  simp only [v_mul, v_K, Rat.intCast_mul] at this ⊢
  rw [← h1, ← h2] at this
  grind
noncomputable def der (f : QP) : QP := K (1 / ((Classical.choose f.p : Int) : Rat)) * P (derivP (Classical.choose (Classical.choose_spec f.p)))
theorem der_of {f : QP} {r : Rat} {l : List Int} (h : f = K r * P l) : der f = K r * P (derivP l) := by
  have h2 := Classical.choose_spec (Classical.choose_spec f.p)
  revert h2
  unfold der
  generalize Classical.choose (Classical.choose_spec f.p) = m
  generalize Classical.choose f.p = d
  intro ⟨hd, h2⟩
  refine P_deriv_congr ?_
  rw [← h]
  refine QP.eq fun x => ?_
  have := h2 x
  have := cast_ne hd
  simp only [v_mul, v_K, v_P]
  grind
theorem der_P (l : List Int) : der (P l) = P (derivP l) := by
  have := der_of (f := P l) (r := 1) (l := l) (QP.eq fun x => by simp only [v_mul, v_K]; grind)
  rw [this]; exact QP.eq fun x => by simp only [v_mul, v_K]; grind
theorem qp_rep (f : QP) : ∃ (r : Rat) (l : List Int), r ≠ 0 ∧ f = K r * P l := by
  obtain ⟨c, l, hc, h, _⟩ := dg_rep f
  have := cast_ne hc
  refine ⟨1 / (c : Rat), l, by grind, QP.eq fun x => ?_⟩
  have := qat h x
  simp only [v_mul, v_K] at this ⊢
  grind
theorem der_mul (f g : QP) : der (f * g) = der f * g + f * der g := by
  obtain ⟨r, l, _, e⟩ := qp_rep f
  obtain ⟨s, m, _, e'⟩ := qp_rep g
  have h1 : f * g = K (r * s) * P (pmul l m) := by rw [P_mul]; refine QP.eq fun x => ?_; have := qat e x; have := qat e' x; simp only [v_mul, v_K] at *; grind
  have h2 : P (derivP (pmul l m)) = P (derivP l) * P m + P l * P (derivP m) := by
    rw [← P_mul, ← P_mul, ← P_add]; exact P_congr fun i => prod_rule_co l m i
  rw [der_of h1, der_of e, der_of e', h2]
  refine QP.eq fun x => ?_
  have h3 := qat e x
  have h4 := qat e' x
  simp only [v_add, v_mul, v_K] at h3 h4 ⊢
  rw [h3, h4]; grind
theorem der_pow (f : QP) : ∀ n : Nat, der (f ^ (n + 1)) = K ((n + 1 : Nat) : Int) * (f ^ n * der f)
  | 0 => by rw [qp_pow_succ, qp_pow_zero, one_qmul, one_qmul]; exact QP.eq fun x => by simp only [v_mul, v_K]; rw [show (((0 + 1 : Nat) : Int) : Rat) = 1 from rfl]; grind
  | n + 1 => by
    rw [qp_pow_succ, der_mul, der_pow f n, qp_pow_succ]
    refine QP.eq fun x => ?_
    simp only [v_add, v_mul, v_K]
    have : (((n + 1 + 1 : Nat) : Int) : Rat) = (((n + 1 : Nat) : Int) : Rat) + 1 := by rw [show ((n + 1 + 1 : Nat) : Int) = ((n + 1 : Nat) : Int) + 1 from rfl, Rat.intCast_add, one_cast]
    rw [this]; grind
theorem dg_der (f : QP) : dg (der f) = dg f - 1 := by
  obtain ⟨r, l, hr, e⟩ := qp_rep f
  rw [der_of e, dg_Kmul hr, dg_P, ← deriv_trim, derivP_len]
  have : dg f = (trimZ l).length := by rw [e, dg_Kmul hr, dg_P]
  rw [this]
theorem der_ne {f : QP} (h : 2 ≤ dg f) : der f ≠ 0 := dg_pos.2 (by rw [dg_der]; omega)
theorem va_der {π f : QP} (hπ : Irr π) (hf : f ≠ 0) (h1 : π ∣ f) : der f ≠ 0 ∧ va π (der f) + 1 = va π f := by
  have hv := (va_pos hπ hf).1 h1
  have h2 := va_dg hπ hf
  have hd : der f ≠ 0 := der_ne (by omega)
  refine ⟨hd, ?_⟩
  obtain ⟨r, e, hr⟩ := va_spec hπ hf
  obtain ⟨k, hk⟩ : ∃ k, va π f = k + 1 := ⟨va π f - 1, by omega⟩
  rw [hk] at e ⊢
  congr 1
  refine va_of hπ hd ⟨der r * π + K ((k + 1 : Nat) : Int) * (r * der π), ?_, fun hx => ?_⟩
  · have e2 : der f = der (r * π ^ (k + 1)) := by rw [← e]
    rw [e2, der_mul, der_pow, qp_pow_succ]
    exact QP.eq fun x => by simp only [v_add, v_mul, v_K]; grind
  · have h3 : π ∣ K ((k + 1 : Nat) : Int) * (r * der π) := by
      have : K ((k + 1 : Nat) : Int) * (r * der π) = (der r * π + K ((k + 1 : Nat) : Int) * (r * der π)) - der r * π := QP.eq fun x => by simp only [v_add, v_sub]; grind
      rw [this]
      exact qdvd_sub hx (qdvd_mulL _ (qdvd_refl π))
    have h4 := (dvd_K (cast_ne (show ((k + 1 : Nat) : Int) ≠ 0 by omega))).1 h3
    rcases irr_prime hπ h4 with h5 | h5
    · exact hr h5
    · have h6 := dvd_le h5 (der_ne hπ.1)
      rw [dg_der] at h6
      have := hπ.1
      omega
end Go.Gx

/-
  Square-free parts. Plain numbers; no program in sight.
-/
namespace Go.Gx
theorem ld_congr {F G : List Int} (h : P F = P G) : ldP F = ldP G := by unfold ldP; rw [P_inj h]
theorem cont_congr {F G : List Int} (h : P F = P G) : contP F = contP G := contP_congr (P_co h)
theorem ld_mul (F G : List Int) : ldP (pmul F G) = ldP F * ldP G := by
  by_cases hF : ldP F = 0
  · rw [hF, Int.zero_mul]
    refine (ld_zero_iff _).2 ?_
    rw [P_mul, (ld_zero_iff F).1 hF, zero_qmul]
  · by_cases hG : ldP G = 0
    · rw [hG, Int.mul_zero]
      refine (ld_zero_iff _).2 ?_
      rw [P_mul, (ld_zero_iff G).1 hG, qmul_zero]
    · obtain ⟨a, ha⟩ := ld_len hF
      obtain ⟨b, hb⟩ := ld_len hG
      have ⟨x1, x2, _⟩ := ld_deg ha
      have ⟨y1, y2, _⟩ := ld_deg hb
      have h := tlen_mul (f := F) (g := G) (by omega) (by omega)
      have ⟨z1, _, _⟩ := ld_deg (G := pmul F G) (d := a + b) (by omega)
      rw [← z1, (co_top x2 y2).1, x1, y1]
theorem cont_mul_dvd (F G : List Int) : contP F ∣ contP (pmul F G) := cont_dvd fun i => by
  rw [co_pmul]
  have : ∀ n, (contP F : Int) ∣ rsum (fun j => co F j * co G (i - j)) n := fun n => by
    induction n with
    | zero => exact Int.dvd_zero _
    | succ n ih => rw [rsum_succ]; exact Int.dvd_add ih (Int.dvd_trans (dvd_cont F n) (Int.dvd_mul_right _ _))
  exact this _
/-- Primitive, with a positive leading coefficient, without zeros behind it. -/
structure Nrm (R : List Int) : Prop where
  c : contP R = 1
  s : 0 < ldP R
  t : trimZ R = R
theorem Nrm.ne {R : List Int} (h : Nrm R) : P R ≠ 0 := (ld_ne_iff R).1 (by have := h.s; omega)
theorem nrm_prim {F : List Int} (h : P F ≠ 0) : Nrm (primP F) := ⟨cont_prim ((ld_ne_iff F).2 h), ld_prim ((ld_ne_iff F).2 h), prim_trim F⟩
/-- Such polynomials that divide each other are equal. -/
theorem Nrm.eq {R S : List Int} (hR : Nrm R) (hS : Nrm S) (h1 : P R ∣ P S) (h2 : P S ∣ P R) : R = S := by
  obtain ⟨W, e⟩ := gauss_dvd hR.c h1
  have hW : P W ≠ 0 := fun e' => hS.ne (by rw [e, e', zero_qmul])
  have d1 := dg_mul hW hR.ne
  rw [← e] at d1
  have d2 := dvd_le h2 hR.ne
  have d3 := dg_pos.1 hW
  obtain ⟨c, hc⟩ : ∃ c : Int, P W = P [c] := ⟨co W 0, P_congr fun i => by
    cases i with
    | zero => simp [co]
    | succ i => rw [(tlen_spec W).1 (i + 1) (by rw [← dg_P]; omega)]; simp [co]⟩
  have e2 : P S = P (scaleP R c) := by
    rw [e, hc, P_scale]; exact QP.eq fun x => by simp only [v_mul, v_P, v_K, evQ]; grind
  have h3 := cont_congr e2
  rw [contP_scale, hS.c, hR.c] at h3
  have h4 := ld_congr e2
  rw [ld_scale] at h4
  have h5 := hS.s
  have h6 := hR.s
  have hc1 : c = 1 := by
    have : c.natAbs = 1 := by omega
    rcases Int.natAbs_eq c with h | h
    · omega
    · rw [h, this] at h4
      exfalso
      have : ldP S = -ldP R := by rw [h4]; simp
      omega
  rw [hc1] at e2
  have e3 : P S = P R := by rw [e2]; exact P_congr fun i => by rw [co_scaleP]; omega
  have := P_inj e3
  rw [hS.t, hR.t] at this
  exact this.symm
theorem Nrm.eq_va {R S : List Int} (hR : Nrm R) (hS : Nrm S) (h : ∀ π, Irr π → va π (P R) = va π (P S)) : R = S :=
  hR.eq hS (dvd_of_va hR.ne hS.ne fun π hπ => by rw [h π hπ]; exact Nat.le_refl _) (dvd_of_va hS.ne hR.ne fun π hπ => by rw [h π hπ]; exact Nat.le_refl _)
/-- Factors of such a product are such. -/
theorem Nrm.quo {p r g : List Int} (hp : Nrm p) (hg : 0 < ldP g) (e : P p = P r * P g) (ht : trimZ r = r) : Nrm r := by
  rw [← P_mul] at e
  refine ⟨?_, ?_, ht⟩
  · have h1 := cont_mul_dvd r g
    rw [← cont_congr e, hp.c] at h1
    exact Nat.dvd_one.1 h1
  · have h1 := ld_congr e
    rw [ld_mul] at h1
    have h2 := hp.s
    rw [h1] at h2
    exact Int.pos_of_mul_pos_left h2 hg
theorem va_prim {π : QP} {F : List Int} (hπ : Irr π) (h : P F ≠ 0) : va π (P (primP F)) = va π (P F) := by
  have := va_Kmul hπ (cast_ne (primC_ne ((ld_ne_iff F).2 h))) (nrm_prim h).ne
  rw [← P_prim] at this
  exact this.symm
/-- The greatest common divisor with a primitive polynomial. -/
theorem gcd_nrm {p d g : List Int} (hp : Nrm p) (h : IsGcd p d g) : Nrm g := by
  have hg : P g ≠ 0 := fun e => hp.ne (zero_qdvd (by rw [← e]; exact h.q.1))
  refine ⟨by rw [h.c, hp.c]; simp, ?_, h.t⟩
  have := (ld_ne_iff g).2 hg
  have := h.s
  omega
/-- The square-free part. -/
structure PartOf (F R : List Int) : Prop where
  n : Nrm R
  v : ∀ π, Irr π → va π (P R) = min 1 (va π (P F))
theorem va_gcd_der {π p : QP} {g : QP} (hπ : Irr π) (hp : p ≠ 0) (hg : GcdQ p (der p) g) (hg0 : g ≠ 0) : va π g = va π p - 1 := by
  by_cases h : π ∣ p
  · have ⟨h1, h2⟩ := va_der hπ hp h
    rw [va_gcd hπ hp h1 hg0 hg]; omega
  · have h1 : ¬ 1 ≤ va π p := fun h' => h ((va_pos hπ hp).2 h')
    have h2 := va_le_of_dvd hπ hg0 hp hg.1
    omega
theorem part_main {F p d g r : List Int} (hF : P F ≠ 0) (hp : p = primP F) (hd : d = trimZ (derivP p)) (hg : IsGcd p d g) (e : P p = P r * P g) (ht : trimZ r = r) : PartOf F r := by
  have hn : Nrm p := by rw [hp]; exact nrm_prim hF
  have hgn := gcd_nrm hn hg
  have hr : P r ≠ 0 := fun e' => hn.ne (by rw [e, e', zero_qmul])
  refine ⟨hn.quo hgn.s e ht, fun π hπ => ?_⟩
  have hq := hg.q
  rw [hd, P_trim, ← der_P] at hq
  have h1 := va_gcd_der hπ hn.ne hq hgn.ne
  have h2 := va_mul hπ hr hgn.ne
  rw [← e] at h2
  rw [← va_prim hπ hF, ← hp]
  omega
/-- The square-free part of x^2. -/
theorem part_x {R : List Int} (h : PartOf [0, 0, 1] R) : R = [0, 1] := by
  have hx : Nrm [0, 1] := ⟨by decide, by decide, by decide⟩
  refine h.n.eq_va hx fun π hπ => ?_
  rw [h.v π hπ]
  have e : P [0, 0, 1] = P [0, 1] ^ 2 := by
    rw [← P_pow]; exact P_congr fun i => by rw [show ppow [0, 1] 2 = [0, 0, 1] by decide]
  rw [e, va_pow hπ hx.ne]
  have := va_dg hπ hx.ne
  rw [dg_P, show (trimZ [(0 : Int), 1]).length = 2 by decide] at this
  omega
theorem nrm_prim_le (F : List Int) : nrm (primP F) ≤ nrm F := by
  have key : ∀ (l : List Int) (c : Int), nrm (l.map (fun x => x.tdiv c)) ≤ nrm l := fun l c => by
    induction l with
    | nil => simp [nrm]
    | cons a l ih =>
      rw [List.map_cons, nrm_cons, nrm_cons]
      have : (a.tdiv c).natAbs ≤ a.natAbs := by rw [Int.natAbs_tdiv]; exact Nat.div_le_self _ _
      omega
  unfold primP
  exact Nat.le_trans (key _ _) (Nat.le_of_eq (nrm_trim F))
theorem div17 {f g : List Int} (hd : ∃ h : List Int, P f = P g * P h) (h0 : P f ≠ 0) (hF : nrm f ≤ 16777216) (hn : (trimZ f).length ≤ 11) : nrm g < BS ^ 17 :=
  Nat.lt_of_le_of_lt (div_bd (n := 10) hd h0 hF hn) (by decide)
theorem div17q {f g : List Int} (hg : contP g = 1) (hd : P g ∣ P f) (h0 : P f ≠ 0) (hF : nrm f ≤ 16777216) (hn : (trimZ f).length ≤ 11) : nrm g < BS ^ 17 := by
  obtain ⟨W, e⟩ := gauss_dvd hg hd
  exact div17 ⟨W, by rw [e, qmul_comm]⟩ h0 hF hn
end Go.Gx

/-
  Lengths of exact quotients. Plain numbers; no program in sight.
-/
namespace Go.Gx
theorem quo_trim {f r g : List Int} (e : P f = P r * P g) (h0 : P f ≠ 0) (hl : r.length = (trimZ f).length - ((trimZ g).length - 1)) : trimZ r = r := by
  have hr : P r ≠ 0 := fun e' => h0 (by rw [e, e', zero_qmul])
  have hg : P g ≠ 0 := fun e' => h0 (by rw [e, e', qmul_zero])
  have h1 := dg_mul hr hg
  rw [← e, dg_P, dg_P, dg_P] at h1
  have h2 := dg_pos.1 hg
  rw [dg_P] at h2
  refine canon_of_last ?_
  rcases (tlen_spec r).2 with h3 | h3
  · exact absurd (dg_zero.1 ((dg_P r).trans h3)) hr
  · right; rwa [show r.length = (trimZ r).length by omega]
end Go.Gx

/-
  The square-free decomposition. Plain numbers; no program in sight.
-/
namespace Go.Gx
/-- Where the decomposition stands at the power k. -/
structure Yun (p : QP) (k : Nat) (rest other U : QP) : Prop where
  p0 : p ≠ 0
  r0 : rest ≠ 0
  vr : ∀ π, Irr π → va π rest = if k ≤ va π p then 1 else 0
  vo : ∀ π, Irr π → π ∣ rest → π ∣ other - K (((va π p : Int) - (k : Int) : Int) : Rat) * der rest
  dgo : dg other ≤ dg rest - 1
  u0 : U ≠ 0
  vu : ∀ π, Irr π → va π U = va π p + 1 - k
theorem va_quo {π f q g : QP} (hπ : Irr π) (hf : f ≠ 0) (e : f = q * g) : va π f = va π q + va π g := by
  have hq : q ≠ 0 := fun e' => hf (by rw [e, e', zero_qmul])
  have hg : g ≠ 0 := fun e' => hf (by rw [e, e', qmul_zero])
  rw [e]; exact va_mul hπ hq hg
theorem dg_quo {f q g : QP} (hf : f ≠ 0) (e : f = q * g) : dg f + 1 = dg q + dg g := by
  have hq : q ≠ 0 := fun e' => hf (by rw [e, e', zero_qmul])
  have hg : g ≠ 0 := fun e' => hf (by rw [e, e', qmul_zero])
  rw [e]; exact dg_mul hq hg
theorem der_split {p rest common o π : QP} (hπ : Irr π) (hp : p ≠ 0) (e1 : p = rest * common) (e2 : der p = o * common) (hr : π ∣ rest) (hv : va π common + 1 = va π p) : π ∣ o - K ((va π p : Int) : Rat) * der rest := by
  obtain ⟨s, es, _⟩ := va_spec hπ hp
  obtain ⟨r, er⟩ := hr
  have hc0 : common ≠ 0 := fun e' => hp (by rw [e1, e', qmul_zero])
  obtain ⟨c, ec, _⟩ := va_spec hπ hc0
  obtain ⟨k, hk⟩ : ∃ k, va π p = k + 1 := ⟨va π common, hv.symm⟩
  have hk' : va π common = k := by omega
  rw [hk] at es ⊢
  rw [hk'] at ec
  have hrc : r * common = s * π ^ k := by
    refine qp_cancel hπ.ne ?_
    have : r * common * π = p := by rw [e1, er]; exact QP.eq fun x => by simp only [v_mul]; grind
    rw [this, es, qp_pow_succ]; exact QP.eq fun x => by simp only [v_mul]; grind
  have hX : (o - K (((k + 1 : Nat) : Int) : Rat) * der rest) * common = (der s - K (((k + 1 : Nat) : Int) : Rat) * der r * c) * π ^ (k + 1) := by
    have d1 : der p = der s * π ^ (k + 1) + s * (K (((k + 1 : Nat) : Int) : Rat) * (π ^ k * der π)) := by
      have : der p = der (s * π ^ (k + 1)) := by rw [← es]
      rw [this, der_mul, der_pow]
    have d2 : der rest = der r * π + r * der π := by rw [er, der_mul]
    rw [qp_pow_succ] at *
    refine QP.eq fun x => ?_
    have h1 := qat e2 x
    have h2 := qat d1 x
    have h3 := qat d2 x
    have h4 := qat hrc x
    have h5 := qat ec x
    simp only [v_mul, v_sub, v_K, v_add] at h1 h2 h3 h4 h5 ⊢
    rw [h3]
    generalize (((k + 1 : Nat) : Int) : Rat) = n at *
    generalize (π ^ k).v x = z at *
    grind
  by_cases hz : o - K (((k + 1 : Nat) : Int) : Rat) * der rest = 0
  · rw [hz]; exact qdvd_zero _
  · have h1 := (va_dvd hπ (qp_mul_ne hz hc0) (k + 1)).1 ⟨_, hX⟩
    rw [va_mul hπ hz hc0] at h1
    exact (va_pos hπ hz).2 (by omega)
theorem Yun.start {p common rest o other : QP} (hp : p ≠ 0) (hg : GcdQ p (der p) common) (e1 : p = rest * common) (e2 : der p = o * common) (e3 : other = o - der rest) : Yun p 1 rest other p := by
  have hr : rest ≠ 0 := fun e' => hp (by rw [e1, e', zero_qmul])
  have hc : common ≠ 0 := fun e' => hp (by rw [e1, e', qmul_zero])
  have vr : ∀ π, Irr π → va π rest = if 1 ≤ va π p then 1 else 0 := fun π hπ => by
    have h1 := va_gcd_der hπ hp hg hc
    have h2 := va_quo hπ hp e1
    split <;> omega
  have dr : dg (o - der rest) ≤ dg rest - 1 := by
    have h1 := dg_sub o (der rest)
    rw [dg_der] at h1
    have h2 := dg_quo hp e1
    have h4 := dg_pos.1 hr
    have h5 := dg_pos.1 hc
    have h3 : dg o ≤ dg rest - 1 := by
      by_cases ho : der p = 0
      · have : o = 0 := by
          rw [ho] at e2
          exact (qp_dom e2.symm).resolve_right hc
        rw [this, dg_zero.2 rfl]; omega
      · have := dg_quo ho e2
        rw [dg_der] at this
        omega
    omega
  refine ⟨hp, hr, vr, fun π hπ hd => ?_, by rw [e3]; exact dr, hp, fun π hπ => by omega⟩
  have hv1 := (va_pos hπ hr).1 hd
  rw [vr π hπ] at hv1
  have hv2 : 1 ≤ va π p := by
    apply Classical.byContradiction; intro hn; rw [if_neg hn] at hv1; omega
  have h1 := va_gcd_der hπ hp hg hc
  have := der_split hπ hp e1 e2 hd (by omega)
  have e4 : other - K (((va π p : Int) - ((1 : Nat) : Int) : Int) : Rat) * der rest = o - K ((va π p : Int) : Rat) * der rest := by
    rw [e3, Rat.intCast_sub]
    refine QP.eq fun x => ?_
    simp only [v_sub, v_mul, v_K]
    rw [show ((((1 : Nat) : Int) : Int) : Rat) = 1 from rfl]; grind
  rw [e4]; exact this
section
variable {p rest other U g r1 o1 : QP} {k : Nat}
theorem Yun.gcd (h : Yun p k rest other U) (hg : GcdQ rest other g) : g ≠ 0 ∧ ∀ π, Irr π → va π g = if va π p = k then 1 else 0 := by
  have hg0 : g ≠ 0 := fun e => h.r0 (zero_qdvd (by rw [← e]; exact hg.1))
  refine ⟨hg0, fun π hπ => ?_⟩
  have h1 := va_le_of_dvd hπ hg0 h.r0 hg.1
  have h2 := h.vr π hπ
  by_cases hk : k ≤ va π p
  · rw [if_pos hk] at h2
    have hd : π ∣ rest := (va_pos hπ h.r0).2 (by omega)
    have h3 := h.vo π hπ hd
    by_cases he : va π p = k
    · rw [if_pos he]
      have h4 : π ∣ other := by
        rw [he] at h3
        have : other = other - K (((k : Int) - (k : Int) : Int) : Rat) * der rest := QP.eq fun x => by simp only [v_sub, v_mul, v_K]; rw [Int.sub_self, zero_cast]; grind
        rw [this]; exact h3
      have := (va_pos hπ hg0).1 (hg.dvd hd h4)
      omega
    · rw [if_neg he]
      apply Classical.byContradiction
      intro hn
      have h4 : π ∣ g := (va_pos hπ hg0).2 (by omega)
      have h5 : π ∣ other := qdvd_trans h4 hg.2.1
      have h6 : π ∣ K (((va π p : Int) - (k : Int) : Int) : Rat) * der rest := by
        have : K (((va π p : Int) - (k : Int) : Int) : Rat) * der rest = other - (other - K (((va π p : Int) - (k : Int) : Int) : Rat) * der rest) := QP.eq fun x => by simp only [v_sub]; grind
        rw [this]; exact qdvd_sub h5 h3
      have h7 := (dvd_K (cast_ne (show ((va π p : Int) - (k : Int)) ≠ 0 by omega))).1 h6
      have ⟨d0, d1⟩ := va_der hπ h.r0 hd
      have := (va_pos hπ d0).1 h7
      omega
  · rw [if_neg hk] at h2
    rw [if_neg (by omega)]
    omega
theorem Yun.next (h : Yun p k rest other U) (hg : GcdQ rest other g) (e1 : rest = r1 * g) (e2 : other = o1 * g) {other' : QP} (e3 : other' = o1 - der r1) : ∃ U', Yun p (k + 1) r1 other' U' ∧ dg U' + dg rest = dg U + 1 := by
  have ⟨hg0, vg⟩ := h.gcd hg
  have hr1 : r1 ≠ 0 := fun e' => h.r0 (by rw [e1, e', zero_qmul])
  have vr1 : ∀ π, Irr π → va π r1 = if k + 1 ≤ va π p then 1 else 0 := fun π hπ => by
    have h1 := va_quo hπ h.r0 e1
    have h2 := h.vr π hπ
    have h3 := vg π hπ
    by_cases a : k ≤ va π p
    · rw [if_pos a] at h2
      by_cases b : va π p = k
      · rw [if_pos b] at h3; rw [if_neg (by omega)]; omega
      · rw [if_neg b] at h3; rw [if_pos (by omega)]; omega
    · rw [if_neg a] at h2; rw [if_neg (by omega)]; omega
  have hU : rest ∣ U := dvd_of_va h.r0 h.u0 fun π hπ => by
    rw [h.vr π hπ, h.vu π hπ]; split <;> omega
  obtain ⟨U', eU⟩ := hU
  have hU' : U' ≠ 0 := fun e' => h.u0 (by rw [eU, e', zero_qmul])
  have dU := dg_quo h.u0 eU
  have dr := dg_quo h.r0 e1
  have p1 := dg_pos.1 hr1
  have p2 := dg_pos.1 hg0
  refine ⟨U', ⟨h.p0, hr1, vr1, fun π hπ hd => ?_, ?_, hU', fun π hπ => ?_⟩, by omega⟩
  · have hv := (va_pos hπ hr1).1 hd
    rw [vr1 π hπ] at hv
    have hk : k + 1 ≤ va π p := by apply Classical.byContradiction; intro hn; rw [if_neg hn] at hv; omega
    have hng : ¬ π ∣ g := fun hx => by
      have := (va_pos hπ hg0).1 hx
      rw [vg π hπ, if_neg (by omega)] at this
      omega
    have h1 := h.vo π hπ (by rw [e1]; exact qdvd_mulR _ hd)
    have key : (other' - K (((va π p : Int) - ((k + 1 : Nat) : Int) : Int) : Rat) * der r1) * g = (other - K (((va π p : Int) - (k : Int) : Int) : Rat) * der rest) + K (((va π p : Int) - (k : Int) : Int) : Rat) * (der g * r1) := by
      have d1 : der rest = der r1 * g + r1 * der g := by rw [e1, der_mul]
      have d2 : (((va π p : Int) - ((k + 1 : Nat) : Int) : Int) : Rat) = (((va π p : Int) - (k : Int) : Int) : Rat) - 1 := by
        rw [show ((va π p : Int) - ((k + 1 : Nat) : Int) : Int) = ((va π p : Int) - (k : Int)) - 1 by omega, Rat.intCast_sub ((va π p : Int) - (k : Int)), one_cast]
      rw [d1, d2, e3, e2]
      refine QP.eq fun x => ?_
      simp only [v_sub, v_mul, v_K, v_add]
      generalize (((va π p : Int) - (k : Int) : Int) : Rat) = n
      grind
    have h2 : π ∣ (other' - K (((va π p : Int) - ((k + 1 : Nat) : Int) : Int) : Rat) * der r1) * g := by
      rw [key]; exact qdvd_add h1 (qdvd_mulL _ (qdvd_mulL _ hd))
    exact (irr_prime hπ h2).resolve_right hng
  · have h1 := dg_sub o1 (der r1)
    rw [dg_der] at h1
    have h3 : dg o1 ≤ dg r1 - 1 := by
      by_cases ho : other = 0
      · have : o1 = 0 := by
          rw [ho] at e2
          exact (qp_dom e2.symm).resolve_right hg0
        rw [this, dg_zero.2 rfl]; omega
      · have h4 := dg_quo ho e2
        have := h.dgo
        have := dg_pos.1 ho
        omega
    rw [e3]; omega
  · have h1 := va_quo hπ h.u0 eU
    rw [h.vu π hπ, h.vr π hπ] at h1
    split at h1 <;> omega
theorem Yun.done (h : Yun p k rest other U) (hd : dg rest ≤ 1) : ∀ π, Irr π → va π p < k := fun π hπ => by
  have h1 := h.vr π hπ
  have h2 := va_dg hπ h.r0
  apply Classical.byContradiction
  intro hn
  rw [if_pos (by omega)] at h1
  omega
end
theorem Nrm.mul {a b : List Int} (ha : Nrm a) (hb : Nrm b) : Nrm (trimZ (pmul a b)) := by
  refine ⟨?_, ?_, trim_trim _⟩
  · rw [contP_trim]
    apply Classical.byContradiction
    intro hn
    have h0 : contP (pmul a b) ≠ 0 := fun e => by
      have := contP_zero e
      have h1 : P (pmul a b) = 0 := by rw [← P_nil]; exact P_congr fun i => by rw [this i]; simp [co]
      rw [P_mul] at h1
      exact qp_mul_ne ha.ne hb.ne h1
    obtain ⟨q, q2, qd, qp⟩ := prime_int (n := contP (pmul a b)) (by omega)
    have hj : ∃ j, ¬ (q : Int) ∣ co b j := by
      apply Classical.byContradiction
      intro hn'
      have : q ∣ contP b := cont_dvd fun i => Classical.byContradiction fun h => hn' ⟨i, h⟩
      rw [hb.c] at this
      have := Nat.le_of_dvd (by omega) this
      omega
    have := gauss_prime qp (l := a) (d := b) (fun i => Int.dvd_trans (Int.ofNat_dvd.2 qd) (dvd_cont _ i)) hj
    have : q ∣ contP a := cont_dvd this
    rw [ha.c] at this
    have := Nat.le_of_dvd (by omega) this
    omega
  · rw [ld_trim, ld_mul]; exact Int.mul_pos ha.s hb.s
theorem Nrm.one : Nrm [1] := ⟨by decide, by decide, by decide⟩
theorem Nrm.pow {a : List Int} (ha : Nrm a) : ∀ n : Nat, ∃ b, Nrm b ∧ P b = P a ^ n
  | 0 => ⟨[1], Nrm.one, by rw [qp_pow_zero]; exact QP.eq fun x => by simp only [v_P, v_1, evQ]; rw [one_cast]; grind⟩
  | n + 1 => by
    obtain ⟨b, hb, e⟩ := Nrm.pow ha n
    exact ⟨trimZ (pmul b a), hb.mul ha, by rw [P_trim, P_mul, e, qp_pow_succ]⟩
end Go.Gx

/-
  Lists of factors in memory; what a decomposition says. No program in sight.
-/
namespace Go.Gx
open Go.RowKit
/-- A polynomial in memory and a power. -/
structure FE where
  A : Option Addr
  n : Nat
  c : Nat
  l : List RI
  k : Int
def FE.cells (f : FE) : List Value := [.slice f.A f.n f.c, .int .i64 f.k]
def cellsF (l : List FE) : List Value := l.flatMap FE.cells
theorem cellsF_len (l : List FE) : (cellsF l).length = l.length * 2 := by
  induction l with
  | nil => rfl
  | cons r l ih => simp only [cellsF, List.flatMap_cons, List.length_append, List.length_cons] at ih ⊢; rw [ih]; simp [FE.cells]; omega
theorem cellsF_append (a b : List FE) : cellsF (a ++ b) = cellsF a ++ cellsF b := by simp [cellsF]
theorem cellsF_cons (r : FE) (l : List FE) : cellsF (r :: l) = .slice r.A r.n r.c :: .int .i64 r.k :: cellsF l := by simp [cellsF, FE.cells]
theorem cellsF_get {l : List FE} : ∀ {i : Nat} {r : FE}, l[i]? = some r → (cellsF l)[i * 2]? = some (.slice r.A r.n r.c) ∧ (cellsF l)[i * 2 + 1]? = some (.int .i64 r.k) := by
  induction l with
  | nil => intro i r h; simp at h
  | cons x l ih =>
    intro i r h
    rw [cellsF_cons]
    cases i with
    | zero => simp at h; subst h; simp
    | succ i =>
      simp at h
      have := ih h
      rw [show (i + 1) * 2 = i * 2 + 1 + 1 by omega]
      simpa using this
def AllF (w : World) (S : Nat → Prop) (M : Nat) (l : List FE) : Prop := ∀ f ∈ l, PolyR w S f.A f.n f.c f.l M
def FacsR (w : World) (S : Nat → Prop) (A : Option Addr) (n c : Nat) (l : List FE) (M : Nat) : Prop := Rd w S A n c 2 (cellsF l) ∧ AllF w S M l
section
variable {w w' : World} {S S' G : Nat → Prop} {A : Option Addr} {n c M : Nat} {l : List FE}
theorem FacsR.sub (h : FacsR w S A n c l M) (hs : ∀ b, b < w.heap.size → S b → S' b) : FacsR w S' A n c l M := ⟨h.1.sub hs, fun x hx => (h.2 x hx).sub hs⟩
theorem FacsR.nil : FacsR w S none 0 0 [] M := ⟨Rd.nil, fun f hf => by cases hf⟩
theorem FacsR.len (h : FacsR w S A n c l M) : l.length = n := by have := h.1.1; rw [cellsF_len] at this; omega
theorem FacsR.lkm (h : FacsR w S A n c l M) : l.length = n ∧ n ≤ c ∧ c ≤ 9223372036854775807 := ⟨h.len, h.1.2.1, h.1.2.2.1⟩
end
/-- One that grows. -/
def OwnF (w : World) (B : Nat) (el : TypeId) (A : Option Addr) (n c : Nat) (l : List FE) (M : Nat) : Prop := Own w B el 2 A n c (cellsF l) ∧ AllF w (fun b => notIn A b ∧ B ≤ b) M l
section
variable {w w' : World} {B : Nat} {el : TypeId} {A : Option Addr} {n c M : Nat} {l : List FE}
theorem OwnF.nil : OwnF w B el none 0 0 [] M := ⟨Own.nil, fun f hf => by cases hf⟩
theorem OwnF.ext (h : OwnF w B el A n c l M) (k : Ext w w') : OwnF w' B el A n c l M := ⟨h.1.ext k, fun f hf => (h.2 f hf).ext k⟩
theorem Own.frmG {k : Nat} {cs : List Value} {G : Nat → Prop} (h : Own w B el k A n c cs) (f : Frm G w w') (hd : ∀ b, b < w.heap.size → B ≤ b → ¬ G b) : Own w' B el k A n c cs := by
  refine ⟨h.1, ?_⟩
  rcases h.2 with h1 | ⟨g, cap, cur, hv, hb, hg, rest⟩
  · exact .inl h1
  · have hlt := (Array.getElem?_eq_some_iff.1 hg).1
    exact .inr ⟨g, cap, cur, hv, hb, (f.block g hlt (hd g hlt hb)).trans hg, rest⟩
theorem OwnF.frmB {G : Nat → Prop} (h : OwnF w B el A n c l M) (f : Frm G w w') (hd : ∀ b, b < w.heap.size → B ≤ b → ¬ G b) : OwnF w' B el A n c l M := ⟨h.1.frmG f hd, fun x hx => (h.2 x hx).frmB f fun b hb hs => hd b hb hs.2⟩
theorem OwnF.len (h : OwnF w B el A n c l M) : l.length = n := by have := h.1.1; rw [cellsF_len] at this; omega
theorem OwnF.lkm (h : OwnF w B el A n c l M) : l.length = n ∧ n ≤ c ∧ c ≤ 9223372036854775807 := ⟨h.len, h.1.cap, h.1.max⟩
theorem OwnF.facs (h : OwnF w B el A n c l M) : FacsR w (fun b => B ≤ b) A n c l M := ⟨h.1.rd, fun f hf => (h.2 f hf).sub fun _ _ h => h.2⟩
theorem notIn_new {U : Nat} (h : ∀ a, A = some a → B ≤ a.block ∧ a.block < U) {b : Nat} (hb : U ≤ b) : notIn A b := fun a ha => by have := h a ha; omega
end
section
variable {dfs : List Deferred} {P : Program} {n : Nat} {e : Nat → Value} {w : World} {K : Act → World → Prop} {Q : Exit → Act → World → Prop} {ty : TypeId} {pos : String} {af : Array Edge} {gd : Option (Nat × Bool)}
/-- What does not lie in the list's own block stays as it is. -/
def Beside (A A2 : Option Addr) (w w' : World) : Prop := ∀ (S : Nat → Prop) (A3 : Option Addr) (n3 c3 : Nat) (l3 : List RI) (M : Nat), (∀ b, b < w.heap.size → S b → notIn A b) → PolyR w S A3 n3 c3 l3 M → PolyR w' (fun b => notIn A2 b ∧ S b) A3 n3 c3 l3 M
theorem oAppF {d : Nat} {s x : Operand} {t el bt : TypeId} {zv : Value} {bytes B m c g M : Nat} {A : Option Addr} {l : List FE} {S : Nat → Prop} {A' : Option Addr} {n' c' : Nat} {l' : List RI} {k : Int} (ht : P.underlying t = some (.slice el))
    (hi : (P.info? el).map (fun i => (i.zero, i.size, i.bytes)) = some (some zv, 2, bytes)) (hzv : zv.cells.size = 2) (hs : ev n e s = .slice A m c) (hx : ev n e x = .slice (some ⟨g, 0, none⟩) 1 1) (hO : OwnF w B el A m c l M) (hb : Blk w g bt [.slice A' n' c', .int .i64 k])
    (hp : PolyR w S A' n' c' l' M) (hS : ∀ b, b < w.heap.size → S b → notIn A b ∧ B ≤ b) (hm : (m + 1) * bytes ≤ 140737488355328) (hm2 : m + 1 ≤ 9223372036854775807) (hB : B ≤ w.heap.size)
    (kk : ∀ A2 c2 w', OwnF w' B el A2 (m + 1) c2 (l ++ [⟨A', n', c', l', k⟩]) M → Frm (fun b => B ≤ b) w w' → Beside A A2 w w' → K (mkA dfs n (upd e d (.slice A2 (m + 1) c2))) w') :
    OpW P ⟨some d, .call { callee := .builtin .append, args := #[s, x], argTypes := #[t, t] }, ty, pos, af, gd⟩ (mkA dfs n e) w K Q := by
  refine oApp ht hi hzv (by decide) hs hx hO.1 hb rfl rfl hm hm2 hB fun A2 c2 w' hO' hF hF2 hnew => ?_
  have hk := hF2 (notIn A) fun _ h => h
  have key : Beside A A2 w w' := by
    intro S A3 n3 c3 l3 M hS h
    have h4 := (h.sub (S' := fun b => (notIn A b ∧ b < w.heap.size) ∧ S b) fun b hb hs => ⟨⟨hS b hb hs, hb⟩, hs⟩).frmB hk fun b _ hs hn => hn hs.1.1
    refine h4.sub fun b _ hb => ⟨fun a ha => ?_, hb.2⟩
    rcases hnew a ha with h5 | h5
    · exact hb.1.1 a h5
    · have := hb.1.2; omega
  refine kk A2 c2 w' ⟨by rw [cellsF_append]; exact hO', fun f hf => ?_⟩ hF key
  rcases List.mem_append.1 hf with h5 | h5
  · exact (key _ _ _ _ _ _ (fun _ _ h => h.1) (hO.2 f h5)).sub fun _ _ h => ⟨h.1, h.2.2⟩
  · simp at h5; subst h5; exact (key _ _ _ _ _ _ (fun _ _ h => h.1) (hp.sub hS)).sub fun _ _ h => ⟨h.1, h.2.2⟩
end
end Go.Gx
namespace Go.Gx
/-- What the decomposition's factors are. -/
structure DecE (p : QP) (f : FE) : Prop where
  n : Nrm (zs f.l)
  d : 2 ≤ f.n
  k1 : 1 ≤ f.k ∧ f.k ≤ 10
  ln : f.n ≤ 11
  hn : f.l.length = f.n
  v : ∀ π, Irr π → va π (P (zs f.l)) = if (va π p : Int) = f.k then 1 else 0
structure DecOf (p : QP) (k : Nat) (fs : List FE) : Prop where
  e : ∀ f ∈ fs, DecE p f
  lt : ∀ f ∈ fs, f.k < k
  asc : fs.Pairwise fun a b => a.k < b.k
  all : ∀ π, Irr π → 1 ≤ va π p → va π p < k → ∃ f ∈ fs, f.k = (va π p : Int)
theorem DecOf.nil {p : QP} : DecOf p 1 [] := ⟨by simp, by simp, List.Pairwise.nil, fun π hπ h1 h2 => by omega⟩
theorem DecOf.skip {p g : QP} {k : Nat} {fs : List FE} (h : DecOf p k fs) (hg : dg g ≤ 1) (g0 : g ≠ 0) (vg : ∀ π, Irr π → va π g = if va π p = k then 1 else 0) : DecOf p (k + 1) fs := by
  refine ⟨h.e, fun f hf => by have := h.lt f hf; omega, h.asc, fun π hπ h1 h2 => ?_⟩
  by_cases hk : va π p = k
  · have h3 := vg π hπ
    rw [if_pos hk] at h3
    have := va_dg hπ g0
    omega
  · exact h.all π hπ h1 (by omega)
theorem DecOf.more {p : QP} {k : Nat} {fs : List FE} {f : FE} (h : DecOf p k fs) (hf : DecE p f) (hk : f.k = (k : Int)) : DecOf p (k + 1) (fs ++ [f]) := by
  refine ⟨fun x hx => ?_, fun x hx => ?_, ?_, fun π hπ h1 h2 => ?_⟩
  · rcases List.mem_append.1 hx with h3 | h3
    · exact h.e x h3
    · simp at h3; subst h3; exact hf
  · rcases List.mem_append.1 hx with h3 | h3
    · have := h.lt x h3; omega
    · simp at h3; subst h3; omega
  · refine List.pairwise_append.2 ⟨h.asc, List.pairwise_singleton _ _, fun a ha b hb => ?_⟩
    simp at hb; subst hb; rw [hk]; exact h.lt a ha
  · by_cases h3 : va π p = k
    · exact ⟨f, by simp, by rw [hk, h3]⟩
    · obtain ⟨x, hx, e⟩ := h.all π hπ h1 (by omega)
      exact ⟨x, List.mem_append_left _ hx, e⟩
/-- The product of the powers. -/
noncomputable def prodQ : List FE → QP
  | [] => 1
  | f :: fs => P (zs f.l) ^ f.k.toNat * prodQ fs
theorem prod_nrm : ∀ fs : List FE, (∀ f ∈ fs, Nrm (zs f.l)) → ∃ b, Nrm b ∧ P b = prodQ fs
  | [], _ => ⟨[1], Nrm.one, QP.eq fun x => by simp only [prodQ, v_P, v_1, evQ]; rw [one_cast]; grind⟩
  | f :: fs, h => by
    obtain ⟨b, hb, e⟩ := prod_nrm fs fun x hx => h x (by simp [hx])
    obtain ⟨a, ha, e'⟩ := (h f (by simp)).pow f.k.toNat
    exact ⟨trimZ (pmul a b), ha.mul hb, by rw [P_trim, P_mul, e, e']; rfl⟩
theorem va_prod {p π : QP} (hπ : Irr π) : ∀ fs : List FE, (∀ f ∈ fs, DecE p f) → fs.Pairwise (fun a b => a.k < b.k) → ((∃ f ∈ fs, f.k = (va π p : Int)) → va π (prodQ fs) = va π p) ∧ ((∀ f ∈ fs, f.k ≠ (va π p : Int)) → va π (prodQ fs) = 0)
  | [], _, _ => ⟨fun ⟨f, hf, _⟩ => absurd hf (by simp), fun _ => va_K hπ (by decide)⟩
  | f :: fs, h, ha => by
    have ⟨ih1, ih2⟩ := va_prod hπ fs (fun x hx => h x (by simp [hx])) (List.pairwise_cons.1 ha).2
    have hf := h f (by simp)
    obtain ⟨b, hb, e⟩ := prod_nrm fs fun x hx => (h x (by simp [hx])).n
    have hm : va π (prodQ (f :: fs)) = f.k.toNat * va π (P (zs f.l)) + va π (prodQ fs) := by
      show va π (P (zs f.l) ^ f.k.toNat * prodQ fs) = _
      rw [va_mul hπ (qp_pow_ne hf.n.ne _) (by rw [← e]; exact hb.ne), va_pow hπ hf.n.ne]
    have hv := hf.v π hπ
    constructor
    · rintro ⟨x, hx, ex⟩
      rcases List.mem_cons.1 hx with h1 | h1
      · subst h1
        rw [if_pos ex.symm] at hv
        rw [hm, hv, ih2 fun y hy => by have := (List.pairwise_cons.1 ha).1 y hy; omega]
        omega
      · have : f.k ≠ (va π p : Int) := by have := (List.pairwise_cons.1 ha).1 x h1; omega
        rw [if_neg (fun e' => this e'.symm)] at hv
        rw [hm, hv, ih1 ⟨x, h1, ex⟩]; omega
    · intro hn
      rw [if_neg (fun e' => hn f (by simp) e'.symm)] at hv
      rw [hm, hv, ih2 fun y hy => hn y (by simp [hy])]; omega
/-- The product is the polynomial. -/
theorem DecOf.prod {p : List Int} {k : Nat} {fs : List FE} (h : DecOf (P p) k fs) (hp : Nrm p) (hd : ∀ π, Irr π → va π (P p) < k) : prodQ fs = P p := by
  obtain ⟨b, hb, e⟩ := prod_nrm fs fun x hx => (h.e x hx).n
  have : b = p := hb.eq_va hp fun π hπ => by
    have ⟨h1, h2⟩ := va_prod hπ fs h.e h.asc
    rw [e]
    rcases Nat.eq_zero_or_pos (va π (P p)) with h0 | h0
    · rw [h2 fun f hf => by have := (h.e f hf).k1; omega, h0]
    · exact h1 (h.all π hπ h0 (hd π hπ))
  rw [← e, this]
/-- What a decomposition returns. -/
def Dec (F : List Int) (u : Int) (fs : List FE) : Prop := (P F = 0 ∧ u = 0 ∧ fs = []) ∨ (P F ≠ 0 ∧ u = primC F ∧ (∃ k, DecOf (P (primP F)) k fs) ∧ prodQ fs = P (primP F))
theorem primC_le (F : List Int) : (primC F).natAbs ≤ nrm F := by
  rw [primC_abs]
  by_cases h : ldP F = 0
  · have := ld_zero h
    rw [← contP_trim, this]; simp [contP]
  · obtain ⟨d, hd⟩ := ld_len h
    have ⟨h1, _, h3⟩ := ld_deg hd
    have h4 := dvd_cont F d
    rw [h1] at h4
    have h5 := Nat.le_of_dvd (by omega) (Int.ofNat_dvd_left.1 h4)
    have h6 := nrm_co F d
    rw [h1] at h6
    omega
theorem dg_rest_U {p rest other U : QP} {k : Nat} (h : Yun p k rest other U) (h2 : 2 ≤ dg rest) : 2 ≤ dg U := by
  obtain ⟨π, hπ, hd⟩ := irr_factor h2
  have h1 := (va_pos hπ h.r0).1 hd
  have h3 := va_dg hπ h.u0
  rw [h.vr π hπ] at h1
  rw [h.vu π hπ] at h3
  have : k ≤ va π p := by apply Classical.byContradiction; intro hn; rw [if_neg hn] at h1; omega
  omega
theorem mul_tlen {f : List Int} {n : Nat} (h : trimZ f = f) (hl : f.length = n) : dg (P f) = n := by rw [dg_P, h, hl]
theorem dec_new {p rest other U : QP} {k : Nat} {A : Option Addr} {n c : Nat} {l : List RI} (h : Yun p k rest other U) (hg : GcdQ rest other (P (zs l))) (hn : Nrm (zs l)) (hl : l.length = n) (hd : 2 ≤ n) (hn11 : n ≤ 11) (hk : 1 ≤ k) (hk10 : k ≤ 10) : DecE p ⟨A, n, c, l, (k : Int)⟩ := by
  refine ⟨hn, hd, ⟨by show (1 : Int) ≤ (k : Int); omega, by show (k : Int) ≤ 10; omega⟩, hn11, hl, fun π hπ => ?_⟩
  have := (h.gcd hg).2 π hπ
  show va π (P (zs l)) = if (va π p : Int) = (k : Int) then 1 else 0
  rw [this]
  by_cases e : va π p = k
  · rw [if_pos e, if_pos (by omega)]
  · rw [if_neg e, if_neg (by omega)]
theorem dec_ex {B n1 : Nat} {rest : QP} {o g : List Int} (h : dg (P o) ≤ dg rest - 1) (h1 : dg rest = n1) (hn : n1 ≤ 11) : exM B 17 ((trimZ o).length - ((trimZ g).length - 1)) ≤ B + 31 * (n1 - 1) + 2 := by
  rw [dg_P] at h
  have h2 := exM_64 (M := B) (G := 17) (K := (trimZ o).length - ((trimZ g).length - 1)) (L := n1 - 1) (by omega)
  have : (n1 - 1) * (17 + 14) = 31 * (n1 - 1) := Nat.mul_comm _ _
  omega
end Go.Gx

/-
  Square-free bases. Plain numbers; no program in sight.
-/
namespace Go.Gx
theorem cmpTop_anti (f g : List Int) : ∀ k, cmpTop g f k = - cmpTop f g k
  | 0 => by simp [cmpTop]
  | k + 1 => by
    rw [cmpTop, cmpTop]
    by_cases h : co f k = co g k
    · rw [if_pos h, if_pos h.symm, cmpTop_anti f g k]
    · rw [if_neg h, if_neg fun e => h e.symm]
      have := cmpZ_cases (co f k) (co g k)
      have := cmpZ_cases (co g k) (co f k)
      omega
theorem cmpTop_trans {f g h : List Int} : ∀ k, cmpTop f g k < 0 → cmpTop g h k < 0 → cmpTop f h k < 0
  | 0, h1, _ => by simp [cmpTop] at h1
  | k + 1, h1, h2 => by
    rw [cmpTop] at h1 h2 ⊢
    have c1 := cmpZ_cases (co f k) (co g k)
    have c2 := cmpZ_cases (co g k) (co h k)
    have c3 := cmpZ_cases (co f k) (co h k)
    by_cases e1 : co f k = co g k
    · rw [if_pos e1] at h1
      by_cases e2 : co g k = co h k
      · rw [if_pos e2] at h2
        rw [if_pos (e1.trans e2)]
        exact cmpTop_trans k h1 h2
      · rw [if_neg e2] at h2
        rw [if_neg (by omega)]
        omega
    · rw [if_neg e1] at h1
      by_cases e2 : co g k = co h k
      · rw [if_neg (by omega)]; omega
      · rw [if_neg e2] at h2
        rw [if_neg (by omega)]; omega
theorem cmpP_anti (f g : List Int) : cmpP g f = - cmpP f g := by
  unfold cmpP
  rcases Nat.lt_trichotomy f.length g.length with h | h | h
  · rw [if_neg (Nat.lt_asymm h), if_pos h, if_pos h]; rfl
  · rw [if_neg (by omega), if_neg (by omega), if_neg (by omega), if_neg (by omega), h]
    exact cmpTop_anti f g _
  · rw [if_pos h, if_neg (Nat.lt_asymm h), if_pos h]
theorem cmpP_trans {f g h : List Int} (h1 : cmpP f g < 0) (h2 : cmpP g h < 0) : cmpP f h < 0 := by
  unfold cmpP at *
  by_cases a1 : f.length < g.length
  · by_cases b1 : g.length < h.length
    · rw [if_pos (by omega)]; decide
    · rw [if_neg b1] at h2
      split at h2
      · omega
      · rw [if_pos (by omega)]; decide
  · rw [if_neg a1] at h1
    split at h1
    · omega
    · rename_i a2
      by_cases b1 : g.length < h.length
      · rw [if_pos (by omega)]; decide
      · rw [if_neg b1] at h2
        split at h2
        · omega
        · rename_i b2
          rw [if_neg (by omega), if_neg (by omega)]
          rw [show g.length = f.length by omega] at h2
          exact cmpTop_trans _ h1 h2
theorem cmpP_self (f : List Int) : cmpP f f = 0 := cmpP_zero.2 rfl
/-- Ascending lists with the same members are the same. -/
theorem sorted_eq : ∀ {a b : List (List Int)}, (a.Pairwise fun x y => cmpP x y < 0) → (b.Pairwise fun x y => cmpP x y < 0) → (∀ e, e ∈ a ↔ e ∈ b) → a = b
  | [], [], _, _, _ => rfl
  | [], y :: b, _, _, h => absurd ((h y).2 (by simp)) (by simp)
  | x :: a, [], _, _, h => absurd ((h x).1 (by simp)) (by simp)
  | x :: a, y :: b, ha, hb, h => by
    have ⟨a1, a2⟩ := List.pairwise_cons.1 ha
    have ⟨b1, b2⟩ := List.pairwise_cons.1 hb
    have hxy : x = y := by
      rcases List.mem_cons.1 ((h x).1 (by simp)) with h1 | h1
      · exact h1
      · rcases List.mem_cons.1 ((h y).2 (by simp)) with h2 | h2
        · exact h2.symm
        · have c1 := b1 x h1
          have c2 := a1 y h2
          have := cmpP_anti x y
          omega
    subst hxy
    rw [sorted_eq a2 b2 fun e => ⟨fun he => ?_, fun he => ?_⟩]
    · rcases List.mem_cons.1 ((h e).1 (by simp [he])) with h1 | h1
      · subst h1; have := a1 e he; rw [cmpP_self] at this; omega
      · exact h1
    · rcases List.mem_cons.1 ((h e).2 (by simp [he])) with h1 | h1
      · subst h1; have := b1 e he; rw [cmpP_self] at this; omega
      · exact h1
section
variable {κ : Type}
theorem nodup_at {l : List κ} {i : Nat} {k : κ} (h : l.Nodup) (hk : l[i]? = some k) : k ∉ l.take i := fun hm => by
  obtain ⟨j, hj, e⟩ := List.getElem_of_mem hm
  rw [List.length_take] at hj
  rw [List.getElem?_eq_some_iff] at hk
  obtain ⟨hi, e2⟩ := hk
  rw [List.getElem_take] at e
  have := (List.pairwise_iff_getElem.1 h) j i (by omega) hi (by omega)
  exact this (e.trans e2.symm)
theorem mem_take_succ {l : List κ} {i : Nat} {k x : κ} (hk : l[i]? = some k) : x ∈ l.take (i + 1) ↔ x ∈ l.take i ∨ x = k := by
  rw [List.take_add_one, hk]; simp
end
section
variable {κ : Type} [DecidableEq κ]
/-- The product of a class of irreducible ones. -/
structure Cl (key : QP → κ) (k : κ) (x : List Int) : Prop where
  n : Nrm x
  v : ∀ π, Irr π → va π (P x) = if key π = k then 1 else 0
theorem Cl.ex {key : QP → κ} {k : κ} {x : List Int} (h : Cl key k x) (h2 : 2 ≤ x.length) : ∃ π, Irr π ∧ π ∣ P x ∧ key π = k := by
  obtain ⟨π, hπ, hd⟩ := irr_factor (f := P x) (by rw [dg_P, h.n.t]; exact h2)
  have h1 := (va_pos hπ h.n.ne).1 hd
  rw [h.v π hπ] at h1
  by_cases hk : key π = k
  · exact ⟨π, hπ, hd, hk⟩
  · rw [if_neg hk] at h1; omega
theorem Cl.eq {key : QP → κ} {k : κ} {x y : List Int} (h : Cl key k x) (h' : Cl key k y) : x = y := h.n.eq_va h'.n fun π hπ => by rw [h.v π hπ, h'.v π hπ]
theorem Cl.cop {key : QP → κ} {k l : κ} {x y : List Int} (h : Cl key k x) (h' : Cl key l y) (hk : k ≠ l) : CopQ (P x) (P y) := cop_iff.2 fun π hπ h1 h2 => by
  have a := (va_pos hπ h.n.ne).1 h1
  have b := (va_pos hπ h'.n.ne).1 h2
  rw [h.v π hπ] at a
  rw [h'.v π hπ] at b
  by_cases e : key π = k
  · rw [if_neg (fun e' => hk (e.symm.trans e'))] at b; omega
  · rw [if_neg e] at a; omega
/-- What has been split off: classes within D, each once. -/
structure OutOk (key : QP → κ) (D : κ → Prop) (os : List (List Int)) (ls : List κ) : Prop where
  len : ls.length = os.length
  nd : ls.Nodup
  cl : ∀ (i : Nat) (x : List Int) (k : κ), os[i]? = some x → ls[i]? = some k → Cl key k x ∧ 2 ≤ x.length
  dn : ∀ l ∈ ls, D l
  cov : ∀ π, Irr π → D (key π) → key π ∈ ls
theorem OutOk.nil {key : QP → κ} : OutOk key (fun _ => False) [] [] := ⟨rfl, List.nodup_nil, by simp, by simp, fun _ _ h => h.elim⟩
theorem OutOk.mono {key : QP → κ} {D D' : κ → Prop} {os : List (List Int)} {ls : List κ} (h : OutOk key D os ls) (h1 : ∀ l, D l → D' l) (h2 : ∀ π, Irr π → D' (key π) → D (key π)) : OutOk key D' os ls :=
  ⟨h.len, h.nd, h.cl, fun l hl => h1 l (h.dn l hl), fun π hπ hd => h.cov π hπ (h2 π hπ hd)⟩
theorem OutOk.add {key : QP → κ} {D : κ → Prop} {os : List (List Int)} {ls : List κ} {x : List Int} {k : κ} (h : OutOk key D os ls) (hx : Cl key k x) (hk : ¬ D k) (h2 : 2 ≤ x.length) : OutOk key (fun l => D l ∨ l = k) (os ++ [x]) (ls ++ [k]) := by
  refine ⟨by simp [h.len], List.nodup_append.2 ⟨h.nd, by simp, fun a ha b hb e => ?_⟩, fun i y l hy hl => ?_, fun l hl => ?_, fun π hπ hd => ?_⟩
  · simp at hb; subst hb; exact hk (e ▸ h.dn a ha)
  · rcases Nat.lt_trichotomy i os.length with h1 | h1 | h1
    · rw [List.getElem?_append_left h1] at hy
      rw [List.getElem?_append_left (by rw [h.len]; exact h1)] at hl
      exact h.cl i y l hy hl
    · subst h1
      rw [← h.len] at hl
      simp at hy hl
      subst hy hl
      exact ⟨hx, h2⟩
    · rw [List.getElem?_eq_none (by simp; omega)] at hy; cases hy
  · rcases List.mem_append.1 hl with h1 | h1
    · exact .inl (h.dn l h1)
    · simp at h1; exact .inr h1
  · rcases hd with h1 | h1
    · exact List.mem_append_left _ (h.cov π hπ h1)
    · exact List.mem_append_right _ (by simp [h1])
theorem OutOk.skip {key : QP → κ} {D : κ → Prop} {os : List (List Int)} {ls : List κ} {x : List Int} {k : κ} (h : OutOk key D os ls) (hx : Cl key k x) (h2 : x.length < 2) (hk : ¬ D k) : OutOk key D os ls ∧ ∀ π, Irr π → key π ≠ k := by
  refine ⟨h, fun π hπ e => ?_⟩
  have h1 := hx.v π hπ
  rw [if_pos e] at h1
  have h3 := va_dg hπ hx.n.ne
  rw [dg_P, hx.n.t] at h3
  omega
/-- A class more or not: by the degree. -/
theorem OutOk.more {key : QP → κ} {D : κ → Prop} {os : List (List Int)} {ls : List κ} {x : List Int} {k : κ} (h : OutOk key D os ls) (hx : Cl key k x) (hk : ¬ D k) : ∃ ls', OutOk key (fun l => D l ∨ l = k) (if 2 ≤ x.length then os ++ [x] else os) ls' := by
  by_cases h2 : 2 ≤ x.length
  · rw [if_pos h2]; exact ⟨_, h.add hx hk h2⟩
  · rw [if_neg h2]
    have ⟨_, hn⟩ := h.skip hx (by omega) hk
    exact ⟨ls, h.mono (fun l => .inl) fun π hπ hd => hd.resolve_right (hn π hπ)⟩
/-- A basis for a key: z is the key of those that do not occur. -/
def BsOk (key : QP → κ) (z : κ) (bs : List (List Int)) (ks : List κ) : Prop := OutOk key (fun l => l ≠ z) bs ks
theorem BsOk.start {key : QP → κ} {z : κ} (h : ∀ π, Irr π → key π = z) : BsOk key z [] [] := OutOk.nil.mono (fun _ h => h.elim) fun π hπ hd => absurd (h π hπ) hd
section
variable (key : QP → κ) (v : QP → Nat) (z : κ) (ks : List κ) (js : List Nat)
abbrev key2 (π : QP) : κ × Nat := (key π, v π)
/-- An element whose common divisors with the first i factors are split off. -/
structure ElOk (k : κ) (i : Nat) (x : List Int) : Prop where
  n : Nrm x
  v : ∀ π, Irr π → va π (P x) = if key π = k ∧ v π ∉ js.take i then 1 else 0
/-- A factor whose common divisors with the first m elements are split off. -/
structure FcOk (m : Nat) (j : Nat) (x : List Int) : Prop where
  n : Nrm x
  v : ∀ π, Irr π → va π (P x) = if v π = j ∧ key π ∉ ks.take m then 1 else 0
end
variable {key : QP → κ} {v : QP → Nat} {z k : κ} {ks : List κ} {js : List Nat} {e i j : Nat} {x y g x' y' d : List Int}
theorem ElOk.start (h : Cl key k x) : ElOk key v js k 0 x := ⟨h.n, fun π hπ => by rw [h.v π hπ]; simp⟩
theorem FcOk.start (h : Cl v j y) : FcOk key v ks 0 j y := ⟨h.n, fun π hπ => by rw [h.v π hπ]; simp⟩
/-- The common divisor is a class. -/
theorem common_cl (hx : ElOk key v js k i x) (hy : FcOk key v ks e j y) (hk : k ∉ ks.take e) (hj : j ∉ js.take i) (hg : IsGcd x y g) : Cl (key2 key v) (k, j) g := by
  have hgn := gcd_nrm hx.n hg
  refine ⟨hgn, fun π hπ => ?_⟩
  rw [va_gcd hπ hx.n.ne hy.n.ne hgn.ne hg.q, hx.v π hπ, hy.v π hπ]
  show _ = if ((key π, v π) : κ × Nat) = (k, j) then 1 else 0
  by_cases h1 : key π = k
  · by_cases h2 : v π = j
    · rw [if_pos ⟨h1, h2 ▸ hj⟩, if_pos ⟨h2, h1 ▸ hk⟩, if_pos (by rw [h1, h2])]; rfl
    · rw [if_neg (c := v π = j ∧ _) (fun h => h2 h.1), if_neg (c := (key π, v π) = (k, j)) (fun h => h2 (by injection h))]; simp
  · rw [if_neg (c := key π = k ∧ _) (fun h => h1 h.1), if_neg (c := (key π, v π) = (k, j)) (fun h => h1 (by injection h))]; simp
theorem ElOk.step (hx : ElOk key v js k i x) (hg : Cl (key2 key v) (k, j) g) (hj : js[i]? = some j) (hnd : js.Nodup) (e1 : P x = P x' * P g) (ht : trimZ x' = x') : ElOk key v js k (i + 1) x' := by
  have hx' : P x' ≠ 0 := fun e' => hx.n.ne (by rw [e1, e', zero_qmul])
  refine ⟨hx.n.quo hg.n.s e1 ht, fun π hπ => ?_⟩
  have h1 := hx.v π hπ
  rw [e1, va_mul hπ hx' hg.n.ne, hg.v π hπ] at h1
  have hnj := nodup_at hnd hj
  have hm := mem_take_succ (x := v π) hj
  by_cases a : key π = k
  · by_cases b : v π = j
    · rw [if_pos (by show (key π, v π) = (k, j); rw [a, b]), if_pos ⟨a, b ▸ hnj⟩] at h1
      rw [if_neg (fun h => h.2 (hm.2 (.inr b)))]; omega
    · rw [if_neg (fun h => b (by injection h))] at h1
      by_cases c : v π ∈ js.take i
      · rw [if_neg (fun h => h.2 c)] at h1
        rw [if_neg (fun h => h.2 (hm.2 (.inl c)))]; omega
      · rw [if_pos ⟨a, c⟩] at h1
        rw [if_pos ⟨a, fun h => (hm.1 h).elim c b⟩]; omega
  · rw [if_neg (fun h => a (by injection h)), if_neg (fun h => a h.1)] at h1
    rw [if_neg (fun h => a h.1)]; omega
theorem FcOk.step (hy : FcOk key v ks e j y) (hg : Cl (key2 key v) (k, j) g) (hk : ks[e]? = some k) (hnd : ks.Nodup) (e1 : P y = P y' * P g) (ht : trimZ y' = y') : FcOk key v ks (e + 1) j y' := by
  have hy' : P y' ≠ 0 := fun e' => hy.n.ne (by rw [e1, e', zero_qmul])
  refine ⟨hy.n.quo hg.n.s e1 ht, fun π hπ => ?_⟩
  have h1 := hy.v π hπ
  rw [e1, va_mul hπ hy' hg.n.ne, hg.v π hπ] at h1
  have hnk := nodup_at hnd hk
  have hm := mem_take_succ (x := key π) hk
  by_cases b : v π = j
  · by_cases a : key π = k
    · rw [if_pos (by show (key π, v π) = (k, j); rw [a, b]), if_pos ⟨b, a ▸ hnk⟩] at h1
      rw [if_neg (fun h => h.2 (hm.2 (.inr a)))]; omega
    · rw [if_neg (fun h => a (by injection h))] at h1
      by_cases c : key π ∈ ks.take e
      · rw [if_neg (fun h => h.2 c)] at h1
        rw [if_neg (fun h => h.2 (hm.2 (.inl c)))]; omega
      · rw [if_pos ⟨b, c⟩] at h1
        rw [if_pos ⟨b, fun h => (hm.1 h).elim c a⟩]; omega
  · rw [if_neg (fun h => b (by injection h)), if_neg (fun h => b h.1)] at h1
    rw [if_neg (fun h => b h.1)]; omega
/-- Behind all factors an element is the class of those that do not divide the new polynomial. -/
theorem ElOk.rest (hx : ElOk key v js k i x) (hi : js.length ≤ i) (hz : 0 ∉ js) (hc : ∀ π, Irr π → v π ≠ 0 → v π ∈ js) : Cl (key2 key v) (k, 0) x := by
  refine ⟨hx.n, fun π hπ => ?_⟩
  rw [hx.v π hπ, List.take_of_length_le hi]
  by_cases a : key π = k
  · by_cases b : v π = 0
    · rw [if_pos ⟨a, b ▸ hz⟩, if_pos (by show (key π, v π) = (k, 0); rw [a, b])]
    · rw [if_neg (fun h => h.2 (hc π hπ b)), if_neg (fun h => b (by injection h))]
  · rw [if_neg (fun h => a h.1), if_neg (fun h => a (by injection h))]
theorem FcOk.rest (hy : FcOk key v ks e j y) (he : ks.length ≤ e) (hz : z ∉ ks) (hc : ∀ π, Irr π → key π ≠ z → key π ∈ ks) : Cl (key2 key v) (z, j) y := by
  refine ⟨hy.n, fun π hπ => ?_⟩
  rw [hy.v π hπ, List.take_of_length_le he]
  by_cases b : v π = j
  · by_cases a : key π = z
    · rw [if_pos ⟨b, a ▸ hz⟩, if_pos (by show (key π, v π) = (z, j); rw [a, b])]
    · rw [if_neg (fun h => h.2 (hc π hπ a)), if_neg (fun h => a (by injection h))]
  · rw [if_neg (fun h => b h.1), if_neg (fun h => b (by injection h))]
/-- The classes that are split off: all of the first e elements, and of element e those of the first i factors. -/
def D1 (ks : List κ) (js : List Nat) (e i : Nat) (l : κ × Nat) : Prop := l.1 ∈ ks.take e ∨ (ks[e]? = some l.1 ∧ l.2 ∈ js.take i)
def D2 (ks : List κ) (js : List Nat) (z : κ) (i : Nat) (l : κ × Nat) : Prop := l.1 ∈ ks ∨ (l.1 = z ∧ l.2 ∈ js.take i)
variable {os : List (List Int)} {ls : List (κ × Nat)}
theorem refine_start : OutOk (key2 key v) (D1 ks js 0 0) [] [] := OutOk.nil.mono (fun _ h => h.elim) fun π _ h => by rcases h with h | h <;> simp at h
theorem refine_common (h : OutOk (key2 key v) (D1 ks js e i) os ls) (hk : ks[e]? = some k) (hj : js[i]? = some j) (hnk : ks.Nodup) (hnj : js.Nodup) (hg : Cl (key2 key v) (k, j) g) : ∃ ls', OutOk (key2 key v) (D1 ks js e (i + 1)) (if 2 ≤ g.length then os ++ [g] else os) ls' := by
  obtain ⟨ls', h1⟩ := h.more hg (by
    rintro (h | ⟨_, h⟩)
    · exact nodup_at hnk hk h
    · exact nodup_at hnj hj h)
  refine ⟨ls', h1.mono (fun l hl => ?_) fun π hπ hd => ?_⟩
  · rcases hl with (h2 | ⟨h2, h3⟩) | h2
    · exact .inl h2
    · exact .inr ⟨h2, (mem_take_succ hj).2 (.inl h3)⟩
    · subst h2; exact .inr ⟨hk, (mem_take_succ hj).2 (.inr rfl)⟩
  · rcases hd with h2 | ⟨h2, h3⟩
    · exact .inl (.inl h2)
    · rcases (mem_take_succ hj).1 h3 with h4 | h4
      · exact .inl (.inr ⟨h2, h4⟩)
      · right
        rw [hk] at h2
        injection h2 with h2
        show (key π, v π) = (k, j)
        rw [show key π = k from h2.symm, show v π = j from h4]
theorem refine_rest (h : OutOk (key2 key v) (D1 ks js e i) os ls) (hi : js.length ≤ i) (hk : ks[e]? = some k) (hnk : ks.Nodup) (hz : 0 ∉ js) (hc : ∀ π, Irr π → v π ≠ 0 → v π ∈ js) (hg : Cl (key2 key v) (k, 0) x) : ∃ ls', OutOk (key2 key v) (D1 ks js (e + 1) 0) (if 2 ≤ x.length then os ++ [x] else os) ls' := by
  obtain ⟨ls', h1⟩ := h.more hg (by
    rintro (h | ⟨_, h⟩)
    · exact nodup_at hnk hk h
    · exact hz (List.mem_of_mem_take h))
  refine ⟨ls', h1.mono (fun l hl => ?_) fun π hπ hd => ?_⟩
  · rcases hl with (h2 | ⟨h2, h3⟩) | h2
    · exact .inl ((mem_take_succ hk).2 (.inl h2))
    · rw [hk] at h2; injection h2 with h2
      exact .inl ((mem_take_succ hk).2 (.inr h2.symm))
    · subst h2; exact .inl ((mem_take_succ hk).2 (.inr rfl))
  · rcases hd with h2 | ⟨_, h3⟩
    · rcases (mem_take_succ hk).1 h2 with h4 | h4
      · exact .inl (.inl h4)
      · by_cases h0 : v π = 0
        · right; show (key π, v π) = (k, 0); rw [h0, show key π = k from h4]
        · left; right
          refine ⟨hk.trans (congrArg some h4.symm), ?_⟩
          rw [List.take_of_length_le hi]; exact hc π hπ h0
    · simp at h3
theorem refine_turn (h : OutOk (key2 key v) (D1 ks js e 0) os ls) (he : ks.length ≤ e) : OutOk (key2 key v) (D2 ks js z 0) os ls := by
  refine h.mono (fun l hl => ?_) fun π hπ hd => ?_
  · rcases hl with h2 | ⟨_, h3⟩
    · exact .inl (List.mem_of_mem_take h2)
    · simp at h3
  · rcases hd with h2 | ⟨_, h3⟩
    · left; rw [List.take_of_length_le he]; exact h2
    · simp at h3
theorem refine_last (h : OutOk (key2 key v) (D2 ks js z i) os ls) (hj : js[i]? = some j) (hnj : js.Nodup) (hz : z ∉ ks) (hg : Cl (key2 key v) (z, j) y) : ∃ ls', OutOk (key2 key v) (D2 ks js z (i + 1)) (if 2 ≤ y.length then os ++ [y] else os) ls' := by
  obtain ⟨ls', h1⟩ := h.more hg (by
    rintro (h | ⟨_, h⟩)
    · exact hz h
    · exact nodup_at hnj hj h)
  refine ⟨ls', h1.mono (fun l hl => ?_) fun π hπ hd => ?_⟩
  · rcases hl with (h2 | ⟨h2, h3⟩) | h2
    · exact .inl h2
    · exact .inr ⟨h2, (mem_take_succ hj).2 (.inl h3)⟩
    · subst h2; exact .inr ⟨rfl, (mem_take_succ hj).2 (.inr rfl)⟩
  · rcases hd with h2 | ⟨h2, h3⟩
    · exact .inl (.inl h2)
    · rcases (mem_take_succ hj).1 h3 with h4 | h4
      · exact .inl (.inr ⟨h2, h4⟩)
      · right; show (key π, v π) = (z, j); rw [show key π = z from h2, show v π = j from h4]
/-- The refined list is a basis for both keys. -/
theorem refine_done (h : OutOk (key2 key v) (D2 ks js z i) os ls) (hi : js.length ≤ i) (hzk : z ∉ ks) (hzj : 0 ∉ js) (hck : ∀ π, Irr π → key π ≠ z → key π ∈ ks) (hcj : ∀ π, Irr π → v π ≠ 0 → v π ∈ js) : BsOk (key2 key v) (z, 0) os ls := by
  refine h.mono (fun l hl e => ?_) fun π hπ hd => ?_
  · subst e
    rcases hl with h2 | ⟨_, h3⟩
    · exact hzk h2
    · exact hzj (List.mem_of_mem_take h3)
  · by_cases h1 : key π = z
    · right
      refine ⟨h1, ?_⟩
      rw [List.take_of_length_le hi]
      exact hcj π hπ fun h2 => hd (by show (key π, v π) = (z, 0); rw [h1, h2])
    · exact .inl (hck π hπ h1)
theorem BsOk.nz {bs : List (List Int)} (h : BsOk key z bs ks) : z ∉ ks := fun hm => h.dn z hm rfl
/-- Under another name of the keys. -/
theorem BsOk.map {μ : Type} [DecidableEq μ] {bs : List (List Int)} {key' : QP → μ} {z' : μ} (h : BsOk key z bs ks) (f : κ → μ) (hf : ∀ a b, f a = f b → a = b) (hk : ∀ π, Irr π → key' π = f (key π)) (hz : z' = f z) : BsOk key' z' bs (ks.map f) := by
  refine ⟨by simp [h.len], ?_, fun i x k hx hk' => ?_, fun l hl => ?_, fun π hπ hd => ?_⟩
  · exact List.Pairwise.map f (fun a b hab e => hab (hf _ _ e)) h.nd
  · rw [List.getElem?_map] at hk'
    cases hc : ks[i]? with
    | none => rw [hc] at hk'; cases hk'
    | some k0 =>
      rw [hc] at hk'
      injection hk' with hk'
      subst hk'
      have h1 := h.cl i x k0 hx hc
      refine ⟨⟨h1.1.n, fun π hπ => ?_⟩, h1.2⟩
      rw [h1.1.v π hπ, hk π hπ]
      by_cases e : key π = k0
      · rw [if_pos e, if_pos (by rw [e])]
      · rw [if_neg e, if_neg (fun e' => e (hf _ _ e'))]
  · obtain ⟨l0, h0, rfl⟩ := List.mem_map.1 hl
    rw [hz]
    exact fun e => h.dn l0 h0 (hf _ _ e)
  · rw [hk π hπ] at hd ⊢
    refine List.mem_map.2 ⟨key π, h.cov π hπ fun e => hd ?_, rfl⟩
    rw [hz, e]
end
/-- The multiplicities in each of the polynomials. -/
noncomputable def keyL (fs : List QP) (π : QP) : List Nat := fs.map (va π)
def zeroL (fs : List QP) : List Nat := fs.map fun _ => 0
/-- A list whose members are the classes of the irreducible factors of fs. -/
def BasisOf (fs : List QP) (bs : List (List Int)) : Prop := ∃ ks, BsOk (keyL fs) (zeroL fs) bs ks
theorem BasisOf.nil : BasisOf [] [] := ⟨[], BsOk.start fun _ _ => rfl⟩
/-- One polynomial more. -/
theorem BasisOf.cons {fs : List QP} {f : QP} {os : List (List Int)} {ls : List (List Nat × Nat)} (h : BsOk (key2 (keyL fs) fun π => va π f) (zeroL fs, 0) os ls) : BasisOf (f :: fs) os :=
  ⟨_, h.map (fun l => l.2 :: l.1) (fun a b e => by injection e with e1 e2; exact Prod.ext e2 e1) (fun π hπ => rfl) rfl⟩
theorem BasisOf.each {fs : List QP} {bs : List (List Int)} (h : BasisOf fs bs) : ∀ x ∈ bs, 2 ≤ x.length ∧ ∃ k, k ≠ zeroL fs ∧ Cl (keyL fs) k x := fun x hx => by
  obtain ⟨ks, h⟩ := h
  obtain ⟨i, hi, rfl⟩ := List.getElem_of_mem hx
  have hk : i < ks.length := by rw [h.len]; exact hi
  have h1 := h.cl i bs[i] ks[i] (List.getElem?_eq_getElem hi) (List.getElem?_eq_getElem hk)
  exact ⟨h1.2, _, h.dn _ (List.getElem_mem hk), h1.1⟩
theorem BasisOf.cover {fs : List QP} {bs : List (List Int)} (h : BasisOf fs bs) {π : QP} (hπ : Irr π) (hk : keyL fs π ≠ zeroL fs) : ∃ x ∈ bs, Cl (keyL fs) (keyL fs π) x := by
  obtain ⟨ks, h⟩ := h
  have hm := h.cov π hπ hk
  obtain ⟨i, hi, e⟩ := List.getElem_of_mem hm
  have hb : i < bs.length := by rw [← h.len]; exact hi
  have h1 := h.cl i bs[i] ks[i] (List.getElem?_eq_getElem hb) (List.getElem?_eq_getElem hi)
  rw [e] at h1
  exact ⟨_, List.getElem_mem hb, h1.1⟩
theorem BasisOf.cop {fs : List QP} {bs : List (List Int)} (h : BasisOf fs bs) : bs.Pairwise fun x y => CopQ (P x) (P y) := by
  obtain ⟨ks, h⟩ := h
  refine List.pairwise_iff_getElem.2 fun i j hi hj hij => ?_
  have hl := h.len
  have h1 := h.cl i bs[i] ks[i] (List.getElem?_eq_getElem hi) (List.getElem?_eq_getElem (by omega))
  have h2 := h.cl j bs[j] ks[j] (List.getElem?_eq_getElem hj) (List.getElem?_eq_getElem (by omega))
  exact h1.1.cop h2.1 ((List.pairwise_iff_getElem.1 h.nd) i j (by omega) (by omega) hij)
theorem key_eq {fs : List QP} {π ρ : QP} : keyL fs π = keyL fs ρ ↔ ∀ f ∈ fs, va π f = va ρ f := by
  unfold keyL
  rw [List.map_inj_left]
theorem key_zero {fs : List QP} {π : QP} : keyL fs π = zeroL fs ↔ ∀ f ∈ fs, va π f = 0 := by
  unfold keyL zeroL
  rw [List.map_inj_left]
/-- Lists with the same multiplicities have the same bases. -/
theorem basis_mem {fs gs : List QP} {bs cs : List (List Int)} (hb : BasisOf fs bs) (hc : BasisOf gs cs) (h1 : ∀ f ∈ fs, ∃ g ∈ gs, ∀ π, Irr π → va π f = va π g) (h2 : ∀ g ∈ gs, ∃ f ∈ fs, ∀ π, Irr π → va π f = va π g) : ∀ x ∈ bs, x ∈ cs := fun x hx => by
  obtain ⟨hl, k, hk, hcl⟩ := hb.each x hx
  obtain ⟨π, hπ, hd, hkπ⟩ := hcl.ex hl
  have hkg : keyL gs π ≠ zeroL gs := fun e => hk (by
    rw [← hkπ]
    refine key_zero.2 fun f hf => ?_
    obtain ⟨g, hg, e2⟩ := h1 f hf
    rw [e2 π hπ]
    exact key_zero.1 e g hg)
  obtain ⟨y, hy, hcy⟩ := hc.cover hπ hkg
  have : x = y := hcl.n.eq_va hcy.n fun ρ hρ => by
    rw [hcl.v ρ hρ, hcy.v ρ hρ, ← hkπ]
    by_cases e : keyL fs ρ = keyL fs π
    · rw [if_pos e, if_pos]
      refine key_eq.2 fun g hg => ?_
      obtain ⟨f, hf, e2⟩ := h2 g hg
      rw [← e2 ρ hρ, ← e2 π hπ]
      exact key_eq.1 e f hf
    · rw [if_neg e, if_neg]
      intro e'
      refine e (key_eq.2 fun f hf => ?_)
      obtain ⟨g, hg, e2⟩ := h1 f hf
      rw [e2 ρ hρ, e2 π hπ]
      exact key_eq.1 e' g hg
  rw [this]; exact hy
theorem basis_eq {fs gs : List QP} {bs cs : List (List Int)} (hb : BasisOf fs bs) (hc : BasisOf gs cs) (sb : bs.Pairwise fun x y => cmpP x y < 0) (sc : cs.Pairwise fun x y => cmpP x y < 0) (h1 : ∀ f ∈ fs, ∃ g ∈ gs, ∀ π, Irr π → va π f = va π g) (h2 : ∀ g ∈ gs, ∃ f ∈ fs, ∀ π, Irr π → va π f = va π g) : bs = cs :=
  sorted_eq sb sc fun x => ⟨basis_mem hb hc h1 h2 x, basis_mem hc hb (fun g hg => by obtain ⟨f, hf, e⟩ := h2 g hg; exact ⟨f, hf, fun π hπ => (e π hπ).symm⟩) (fun f hf => by obtain ⟨g, hg, e⟩ := h1 f hf; exact ⟨g, hg, fun π hπ => (e π hπ).symm⟩) x⟩
/-- In another order it is still a basis. -/
theorem BasisOf.perm {fs : List QP} {bs cs : List (List Int)} (h : BasisOf fs bs) (hp : bs.Perm cs) : BasisOf fs cs := by
  have key : ∀ (l : List (List Int)), l.Perm bs → ∃ ks, BsOk (keyL fs) (zeroL fs) l ks := fun l hl => by
    have hcop : l.Pairwise fun x y => CopQ (P x) (P y) := (List.Perm.pairwise_iff (fun {a b} hab => cop_iff.2 fun π hπ h1 h2 => cop_iff.1 hab π hπ h2 h1) hl).2 h.cop
    have hk : ∀ x ∈ l, 2 ≤ x.length ∧ ∃ k, k ≠ zeroL fs ∧ Cl (keyL fs) k x := fun x hx => h.each x (hl.mem_iff.1 hx)
    have hcov : ∀ π, Irr π → keyL fs π ≠ zeroL fs → ∃ x ∈ l, Cl (keyL fs) (keyL fs π) x := fun π hπ hkz => by
      obtain ⟨x, hx, hc⟩ := h.cover hπ hkz
      exact ⟨x, hl.mem_iff.2 hx, hc⟩
    have build : ∀ (m : List (List Int)), m.Pairwise (fun x y => CopQ (P x) (P y)) → (∀ x ∈ m, 2 ≤ x.length ∧ ∃ k, k ≠ zeroL fs ∧ Cl (keyL fs) k x) → ∃ ks : List (List Nat), ks.length = m.length ∧ ks.Nodup ∧ (∀ (i : Nat) (x : List Int) (k : List Nat), m[i]? = some x → ks[i]? = some k → Cl (keyL fs) k x ∧ 2 ≤ x.length) ∧ (∀ k ∈ ks, k ≠ zeroL fs ∧ ∃ x ∈ m, Cl (keyL fs) k x) := fun m => by
      induction m with
      | nil => intro _ _; exact ⟨[], rfl, List.nodup_nil, by simp, by simp⟩
      | cons a m ih =>
        intro hpw hm
        have ⟨p1, p2⟩ := List.pairwise_cons.1 hpw
        obtain ⟨ks, k1, k2, k3, k4⟩ := ih p2 fun x hx => hm x (by simp [hx])
        obtain ⟨ha, k, hkz, hcl⟩ := hm a (by simp)
        refine ⟨k :: ks, by simp [k1], List.nodup_cons.2 ⟨fun hmem => ?_, k2⟩, fun i x k' hx hk' => ?_, fun k' hk' => ?_⟩
        · obtain ⟨_, x, hx, hcx⟩ := k4 k hmem
          have hax := hcl.eq hcx
          obtain ⟨π, hπ, hd, _⟩ := hcl.ex ha
          exact cop_iff.1 (p1 x hx) π hπ hd (hax ▸ hd)
        · cases i with
          | zero => simp at hx hk'; subst hx hk'; exact ⟨hcl, ha⟩
          | succ i => simp at hx hk'; exact k3 i x k' hx hk'
        · rcases List.mem_cons.1 hk' with h1 | h1
          · subst h1; exact ⟨hkz, a, by simp, hcl⟩
          · obtain ⟨h2, x, hx, h3⟩ := k4 k' h1; exact ⟨h2, x, by simp [hx], h3⟩
    obtain ⟨ks, k1, k2, k3, k4⟩ := build l hcop hk
    refine ⟨ks, k1, k2, k3, fun k hk => (k4 k hk).1, fun π hπ hd => ?_⟩
    obtain ⟨x, hx, hc⟩ := hcov π hπ hd
    obtain ⟨i, hi, e⟩ := List.getElem_of_mem hx
    have hki : i < ks.length := by omega
    have h5 := k3 i x ks[i] (by rw [List.getElem?_eq_getElem hi, e]) (List.getElem?_eq_getElem hki)
    have hl2 := h5.2
    obtain ⟨ρ, hρ, hd2, hk2⟩ := h5.1.ex hl2
    have h6 := hc.v ρ hρ
    have h7 := (va_pos hρ hc.n.ne).1 hd2
    rw [h6] at h7
    have h8 : keyL fs ρ = keyL fs π := by apply Classical.byContradiction; intro hx'; rw [if_neg hx'] at h7; omega
    rw [← h8, hk2]
    exact List.getElem_mem hki
  exact key cs hp.symm
end Go.Gx

/-
  Lists of polynomials in memory. No program in sight.
-/
namespace Go.Gx
open Go.RowKit
/-- A polynomial in memory. -/
structure PE where
  A : Option Addr
  n : Nat
  c : Nat
  l : List RI
def PE.v (f : PE) : Value := .slice f.A f.n f.c
def cellsP (l : List PE) : List Value := l.map PE.v
theorem cellsP_len (l : List PE) : (cellsP l).length = l.length := by simp [cellsP]
def AllP (w : World) (S : Nat → Prop) (M : Nat) (l : List PE) : Prop := ∀ f ∈ l, PolyR w S f.A f.n f.c f.l M
def PolysR (w : World) (S : Nat → Prop) (A : Option Addr) (n c : Nat) (l : List PE) (M : Nat) : Prop := Rd w S A n c 1 (cellsP l) ∧ AllP w S M l
section
variable {w w' : World} {S S' G : Nat → Prop} {A : Option Addr} {n c M M' : Nat} {l : List PE}
theorem PolysR.frmB (h : PolysR w S A n c l M) (f : Frm G w w') (hd : ∀ b, b < w.heap.size → S b → ¬ G b) : PolysR w' S A n c l M := ⟨h.1.frmB f hd, fun x hx => (h.2 x hx).frmB f hd⟩
theorem PolysR.ext (h : PolysR w S A n c l M) (f : Ext w w') : PolysR w' S A n c l M := ⟨h.1.ext f, fun x hx => (h.2 x hx).ext f⟩
theorem PolysR.sub (h : PolysR w S A n c l M) (hs : ∀ b, b < w.heap.size → S b → S' b) : PolysR w S' A n c l M := ⟨h.1.sub hs, fun x hx => (h.2 x hx).sub hs⟩
theorem PolysR.low (h : PolysR w S A n c l M) : PolysR w (· < w.heap.size) A n c l M := h.sub fun _ hb _ => hb
theorem PolysR.nil : PolysR w S none 0 0 [] M := ⟨Rd.nil, fun f hf => by cases hf⟩
theorem PolysR.len (h : PolysR w S A n c l M) : l.length = n := by have := h.1.1; rw [cellsP_len] at this; omega
theorem PolysR.lkm (h : PolysR w S A n c l M) : l.length = n ∧ n ≤ c ∧ c ≤ 9223372036854775807 := ⟨h.len, h.1.2.1, h.1.2.2.1⟩
theorem PolysR.base (h : PolysR w S A n c l M) (hn : 0 < n) : ∃ b off, A = some ⟨b, off, none⟩ := h.1.base hn
theorem PolysR.at_ {b off i : Nat} (h : PolysR w S (some ⟨b, off, none⟩) n c l M) (hi : i < n) :
    ∃ f, l[i]? = some f ∧ w.cell? ⟨b, off + i, none⟩ = some (.slice f.A f.n f.c) ∧ PolyR w S f.A f.n f.c f.l M ∧ S b ∧ b < w.heap.size := by
  have hl : i < l.length := by rw [h.len]; exact hi
  obtain ⟨b', off', e, hS, hb, _⟩ := h.1.2.2.2 (by omega)
  injection e with e
  injection e with e1 e2
  subst e1 e2
  obtain ⟨r, hr⟩ : ∃ r, l[i]? = some r := ⟨_, List.getElem?_eq_getElem hl⟩
  have hc : (cellsP l)[i]? = some (.slice r.A r.n r.c) := by simp [cellsP, hr, PE.v]
  exact ⟨r, hr, h.1.cell hc, h.2 _ (List.mem_of_getElem? hr), hS, hb⟩
end
section
variable {P : Program} {n : Nat} {e : Nat → Value} {w : World} {ty : TypeId} {pos : String} {af : Array Edge} {gd : Option (Nat × Bool)}
/-- &a[i] of an array. -/
theorem evArr {d : Option Nat} {t el : TypeId} {x ix : Operand} {b off len size : Nat} {k : IntKind} {z : Int} (i : Nat) (ht : P.underlying t = some (.array len el)) (hs : ∀ w, (sizeOf el).run P w = .ok size w)
    (hx : ev n e x = .pointer (some ⟨b, off, none⟩)) (hi : ev n e ix = .int k z) (p : Nat) (hz : z = (i : Int) := by omega) (hlt : i < len := by omega) (hp : off + i * size = p := by omega) :
    Ev P n e ⟨d, .indexAddr t x ix, ty, pos, af, gd⟩ w (.pointer (some ⟨b, p, none⟩)) := by
  subst hz hp
  have h1 : (0 : Int) ≤ (i : Int) ∧ (i : Int) < (len : Int) := ⟨by omega, by omega⟩
  simp [Ev, execOp, hx, hi, Instr.indexAt, Instr.sureAddr, asIntOf, run_underlying ht, hs, hlt, addr_add]
end
end Go.Gx

/-
  The refinement of a basis in memory: the list that grows behind a box, the factors' block that is written. No program in sight.
-/
namespace Go.Gx
open Go.RowKit
/-- A list of polynomials that grows in block g, behind the box pb; nothing of it lies in block pf. -/
def OwnP (w : World) (el : TypeId) (g pb pf : Nat) (A : Option Addr) (n c : Nat) (ps : List PE) (M : Nat) : Prop :=
  Own w (pb + 1) el 1 A n c (cellsP ps) ∧ (∀ a, A = some a → a.block = g) ∧ pb ≤ g ∧ pf < pb ∧ AllP w (fun b => b ≠ g ∧ b ≠ pb ∧ b ≠ pf) M ps
section
variable {w w' : World} {el : TypeId} {g pb pf : Nat} {A : Option Addr} {n c M : Nat} {ps : List PE}
theorem OwnP.nil (h : pf < pb) : OwnP w el pb pb pf none 0 0 [] M := ⟨Own.nil, fun a ha => (by cases ha), Nat.le_refl _, h, fun f hf => by cases hf⟩
theorem OwnP.frmB {G : Nat → Prop} (h : OwnP w el g pb pf A n c ps M) (f : Frm G w w') (hd : ∀ b, b < w.heap.size → b ≠ pf → ¬ G b) : OwnP w' el g pb pf A n c ps M := by
  obtain ⟨h1, h2, h3, h4, h5⟩ := h
  exact ⟨h1.frmG f fun b hb hp => hd b hb (by omega), h2, h3, h4, fun x hx => (h5 x hx).frmB f fun b hb hs => hd b hb hs.2.2⟩
theorem OwnP.ext (h : OwnP w el g pb pf A n c ps M) (k : Ext w w') : OwnP w' el g pb pf A n c ps M := h.frmB k fun _ _ _ f => f
theorem OwnP.box (h : OwnP w el g pb pf A n c ps M) (f : Frm (fun b => b = pb) w w') : OwnP w' el g pb pf A n c ps M := by
  obtain ⟨h1, h2, h3, h4, h5⟩ := h
  exact ⟨h1.frmG f fun b _ hp e => by omega, h2, h3, h4, fun x hx => (h5 x hx).frmB f fun b _ hs => hs.2.1⟩
theorem OwnP.len (h : OwnP w el g pb pf A n c ps M) : ps.length = n := by have := h.1.1; rw [cellsP_len] at this; omega
theorem OwnP.lkm (h : OwnP w el g pb pf A n c ps M) : ps.length = n ∧ n ≤ c ∧ c ≤ 9223372036854775807 := ⟨h.len, h.1.cap, h.1.max⟩
theorem OwnP.ne (h : OwnP w el g pb pf A n c ps M) : pb ≤ g ∧ pf < pb := ⟨h.2.2.1, h.2.2.2.1⟩
end
section
variable {dfs : List Deferred} {P : Program} {n : Nat} {e : Nat → Value} {w : World} {K : Act → World → Prop} {Q : Exit → Act → World → Prop} {ty : TypeId} {pos : String} {af : Array Edge} {gd : Option (Nat × Bool)}
/-- One polynomial more. -/
theorem oAppP {d : Nat} {s x : Operand} {t el bt : TypeId} {zv : Value} {bytes m c xg g pb pf M : Nat} {A : Option Addr} {ps : List PE} {S : Nat → Prop} {A' : Option Addr} {n' c' : Nat} {l' : List RI} (ht : P.underlying t = some (.slice el))
    (hi : (P.info? el).map (fun i => (i.zero, i.size, i.bytes)) = some (some zv, 1, bytes)) (hzv : zv.cells.size = 1) (hs : ev n e s = .slice A m c) (hx : ev n e x = .slice (some ⟨xg, 0, none⟩) 1 1) (hO : OwnP w el g pb pf A m c ps M) (hb : Blk w xg bt [.slice A' n' c'])
    (hp : PolyR w S A' n' c' l' M) (hS : ∀ b, b < w.heap.size → S b → b ≠ g ∧ b ≠ pb ∧ b ≠ pf) (hm : (m + 1) * bytes ≤ 140737488355328) (hm2 : m + 1 ≤ 9223372036854775807) (hB : pb < w.heap.size)
    (kk : ∀ A2 c2 g2 w', OwnP w' el g2 pb pf A2 (m + 1) c2 (ps ++ [⟨A', n', c', l'⟩]) M → Frm (fun b => b = g ∧ b ≠ pb) w w' → (g2 = g ∨ w.heap.size ≤ g2) → g2 < w'.heap.size → K (mkA dfs n (upd e d (.slice A2 (m + 1) c2))) w') :
    OpW P ⟨some d, .call { callee := .builtin .append, args := #[s, x], argTypes := #[t, t] }, ty, pos, af, gd⟩ (mkA dfs n e) w K Q := by
  obtain ⟨h1, h2, h3, h4, h5⟩ := hO
  refine oApp ht hi hzv (by decide) hs hx h1 hb rfl rfl hm hm2 (by omega) fun A2 c2 w' hO' hF hF2 hnew => ?_
  have hk : Frm (fun b => b = g ∧ b ≠ pb) w w' := (hF2 (fun b => b ≠ g ∨ b = pb) fun b hb a ha e => by have h8 := (h1.lt a ha).1; have h9 := h2 a ha; omega).mono fun b _ hb => by omega
  obtain ⟨a2, rfl⟩ : ∃ a, A2 = some a := by
    rcases hO'.2 with ⟨_, h0⟩ | ⟨g', cap, cur, hv, _⟩
    · omega
    · injection hv with e1; exact ⟨_, e1⟩
  have hg2 : a2.block = g ∨ w.heap.size ≤ a2.block := (hnew a2 rfl).imp (h2 a2) id
  have key : ∀ {S : Nat → Prop} {A3 : Option Addr} {n3 c3 : Nat} {l3 : List RI}, (∀ b, b < w.heap.size → S b → b ≠ g ∧ b ≠ pb ∧ b ≠ pf) → PolyR w S A3 n3 c3 l3 M → PolyR w' (fun b => b ≠ a2.block ∧ b ≠ pb ∧ b ≠ pf) A3 n3 c3 l3 M := by
    intro S A3 n3 c3 l3 hS h
    have h6 := (h.sub (S' := fun b => (b ≠ g ∧ b ≠ pb ∧ b ≠ pf) ∧ b < w.heap.size) fun b hb hs => ⟨hS b hb hs, hb⟩).frmB hk fun b _ hs e => hs.1.1 e.1
    exact h6.sub fun b _ hs => ⟨by have := hs.2; have := hs.1.1; omega, hs.1.2⟩
  refine kk _ c2 a2.block w' ⟨by rw [show cellsP (ps ++ [⟨A', n', c', l'⟩]) = cellsP ps ++ [.slice A' n' c'] by simp [cellsP, PE.v]]; exact hO', fun a ha => (by cases ha; rfl), by omega, h4, fun f hf => ?_⟩ hk hg2 (hO'.lt a2 rfl).2
  rcases List.mem_append.1 hf with h7 | h7
  · exact key (fun _ _ hs => hs) (h5 f h7)
  · simp at h7; subst h7; exact key hS hp
end
theorem cellsF_set {l : List FE} : ∀ {i : Nat} {r : FE} (A : Option Addr) (n c : Nat) (x : List RI), l[i]? = some r → (cellsF l).set (i * 2) (.slice A n c) = cellsF (l.set i ⟨A, n, c, x, r.k⟩) := by
  induction l with
  | nil => intro i r A n c x h; simp at h
  | cons y l ih =>
    intro i r A n c x h
    cases i with
    | zero => simp at h; subst h; simp [cellsF_cons]
    | succ i =>
      simp at h
      rw [List.set_cons_succ, cellsF_cons, cellsF_cons, show (i + 1) * 2 = i * 2 + 1 + 1 by omega, List.set_cons_succ, List.set_cons_succ, ih A n c x h]
theorem cellsF_setSp {l : List FE} {sp : List Value} {i : Nat} {r : FE} (A : Option Addr) (n c : Nat) (x : List RI) (h : l[i]? = some r) : (cellsF l ++ sp).set (i * 2) (.slice A n c) = cellsF (l.set i ⟨A, n, c, x, r.k⟩) ++ sp := by
  have hi : i < l.length := (List.getElem?_eq_some_iff.1 h).1
  rw [List.set_append_left _ _ (by rw [cellsF_len]; omega), cellsF_set A n c x h]
section
variable {w w' : World} {S S' G : Nat → Prop} {M : Nat} {l : List FE}
theorem AllF.frmB (h : AllF w S M l) (f : Frm G w w') (hd : ∀ b, b < w.heap.size → S b → ¬ G b) : AllF w' S M l := fun x hx => (h x hx).frmB f hd
theorem AllF.ext (h : AllF w S M l) (f : Ext w w') : AllF w' S M l := fun x hx => (h x hx).ext f
theorem AllF.sub (h : AllF w S M l) (hs : ∀ b, b < w.heap.size → S b → S' b) : AllF w S' M l := fun x hx => (h x hx).sub hs
theorem AllF.set {i : Nat} {r : FE} (h : AllF w S M l) (hr : PolyR w S r.A r.n r.c r.l M) : AllF w S M (l.set i r) := fun x hx => by
  rcases List.mem_or_eq_of_mem_set hx with h1 | h1
  · exact h x h1
  · subst h1; exact hr
theorem Blk.fac {g el i : Nat} {sp : List Value} {f : FE} (h : Blk w g el (cellsF l ++ sp)) (he : l[i]? = some f) : w.cell? ⟨g, i * 2, none⟩ = some (.slice f.A f.n f.c) ∧ w.cell? ⟨g, i * 2 + 1, none⟩ = some (.int .i64 f.k) := by
  have hi : i < l.length := (List.getElem?_eq_some_iff.1 he).1
  have hc := cellsF_get he
  exact ⟨h.at_ (by rw [List.getElem?_append_left (by rw [cellsF_len]; omega)]; exact hc.1), h.at_ (by rw [List.getElem?_append_left (by rw [cellsF_len]; omega)]; exact hc.2)⟩
/-- The block of a list of factors that has grown. -/
theorem OwnF.block {B : Nat} {el : TypeId} {A : Option Addr} {n c : Nat} (h : OwnF w B el A n c l M) (hn : 0 < n) : ∃ p sp, A = some ⟨p, 0, none⟩ ∧ B ≤ p ∧ Blk w p el (cellsF l ++ sp) ∧ AllF w (fun b => b ≠ p) M l := by
  obtain ⟨⟨hl, h1⟩, h2⟩ := h
  rcases h1 with ⟨_, h0⟩ | ⟨g, cap, cur, hv, hb, hg, hnc, hcm, hsz, htake⟩
  · omega
  · injection hv with e1 e2 e3
    subst e1 e3
    refine ⟨g, cur.toList.drop (n * 2), rfl, hb, ?_, fun f hf => (h2 f hf).sub fun b _ hb e => hb.1 _ rfl e.symm⟩
    unfold Blk; rw [← htake, List.take_append_drop]; exact hg
end
/-- A list of polynomials in a block of its own, at or beyond B. -/
def OwnL (w : World) (B : Nat) (el : TypeId) (A : Option Addr) (n c : Nat) (ps : List PE) (M : Nat) : Prop :=
  ∃ g, (n = 0 ∨ ∃ sp, A = some ⟨g, 0, none⟩ ∧ B ≤ g ∧ Blk w g el (cellsP ps ++ sp)) ∧ PolysR w (· < w.heap.size) A n c ps M ∧ AllP w (fun b => b ≠ g) M ps
section
variable {w w' : World} {B : Nat} {el : TypeId} {A : Option Addr} {n c M : Nat} {ps : List PE}
theorem OwnL.nil : OwnL w B el none 0 0 [] M := ⟨0, .inl rfl, PolysR.nil, fun f hf => by cases hf⟩
theorem OwnL.ext (h : OwnL w B el A n c ps M) (k : Ext w w') : OwnL w' B el A n c ps M := by
  obtain ⟨g, h1, h2, h3⟩ := h
  exact ⟨g, h1.imp id fun ⟨sp, e, hg, hb⟩ => ⟨sp, e, hg, hb.ext k⟩, (h2.ext k).low, fun f hf => (h3 f hf).ext k⟩
theorem OwnL.read (h : OwnL w B el A n c ps M) : PolysR w (· < w.heap.size) A n c ps M := by obtain ⟨g, h1, h2, h3⟩ := h; exact h2
theorem OwnL.lkm (h : OwnL w B el A n c ps M) : ps.length = n ∧ n ≤ c ∧ c ≤ 9223372036854775807 := h.read.lkm
theorem OwnP.ownL {g pb pf : Nat} (h : OwnP w el g pb pf A n c ps M) (hB : B ≤ pb) : OwnL w B el A n c ps M := by
  have hr : PolysR w (· < w.heap.size) A n c ps M := by
    refine ⟨h.1.rd.low, fun f hf => (h.2.2.2.2 f hf).low⟩
  refine ⟨g, ?_, hr, fun f hf => (h.2.2.2.2 f hf).sub fun _ _ hs => hs.1⟩
  rcases Nat.eq_zero_or_pos n with h0 | h0
  · exact .inl h0
  · obtain ⟨g', sp, hA, _, hb, _⟩ := h.1.open_ h0
    have := h.2.1 _ hA
    dsimp only at this
    subst this
    exact .inr ⟨sp, hA, by have := h.2.2.1; omega, hb⟩
end
end Go.Gx

/-
  Exponents over a basis. Plain numbers; no program in sight.
-/
namespace Go.Gx
end Go.Gx
namespace Go.Gx
end Go.Gx

/-
  What the walk of the refinement wants. No program in sight.
-/
namespace Go.Gx
/-- A divisor of a small polynomial. -/
def Sm (x : List Int) : Prop := ∃ p : List Int, P p ≠ 0 ∧ P x ∣ P p ∧ nrm p ≤ 16777216 ∧ (trimZ p).length ≤ 11
theorem Sm.dvd {x y : List Int} (h : Sm x) (hd : P y ∣ P x) : Sm y := by
  obtain ⟨p, h0, h1, h2, h3⟩ := h
  exact ⟨p, h0, qdvd_trans hd h1, h2, h3⟩
theorem Sm.tight {x : List Int} (h : Sm x) (hc : contP x = 1) : nrm x < BS ^ 17 := by
  obtain ⟨p, h0, h1, h2, h3⟩ := h
  exact div17q hc h1 h0 h2 h3
theorem Sm.len {x : List Int} (h : Sm x) : (trimZ x).length ≤ 11 := by
  obtain ⟨p, h0, h1, h2, h3⟩ := h
  have := dvd_le h1 h0
  rw [dg_P, dg_P] at this
  omega
/-- A polynomial of the refinement, as it lies in memory. -/
def SmE (A : Option Addr) (n : Nat) (l : List RI) : Prop := Sm (zs l) ∧ l.length = n ∧ n ≤ 11
section
variable {key : QP → List Nat} {v : QP → Nat} {z : List Nat} {ks : List (List Nat)} {js : List Nat} {e i j : Nat} {fs : List FE}
/-- The factors behind e elements and, of element e, behind the first i factors. -/
def FcsOk (key : QP → List Nat) (v : QP → Nat) (ks : List (List Nat)) (js : List Nat) (e i : Nat) (fs : List FE) : Prop :=
  js.length = fs.length ∧ ∀ (j : Nat) (f : FE), fs[j]? = some f → (∃ jj, js[j]? = some jj ∧ FcOk key v ks (if j < i then e + 1 else e) jj (zs f.l)) ∧ SmE f.A f.n f.l
theorem FcsOk.set {f' : FE} {jj : Nat} (h : FcsOk key v ks js e i fs) (hj : js[i]? = some jj) (h1 : FcOk key v ks (e + 1) jj (zs f'.l)) (h2 : SmE f'.A f'.n f'.l) : FcsOk key v ks js e (i + 1) (fs.set i f') := by
  refine ⟨by simpa using h.1, fun j g hg => ?_⟩
  rw [List.getElem?_set] at hg
  by_cases hij : i = j
  · subst hij
    rw [if_pos rfl] at hg
    split at hg
    · injection hg with hg
      subst hg
      exact ⟨⟨jj, hj, by rw [if_pos (by omega)]; exact h1⟩, h2⟩
    · cases hg
  · rw [if_neg hij] at hg
    obtain ⟨⟨jj', a1, a2⟩, a3⟩ := h.2 j g hg
    refine ⟨⟨jj', a1, ?_⟩, a3⟩
    by_cases hlt : j < i
    · rw [if_pos hlt] at a2; rw [if_pos (by omega)]; exact a2
    · rw [if_neg hlt] at a2; rw [if_neg (by omega)]; exact a2
theorem FcsOk.turn (h : FcsOk key v ks js e i fs) (hi : fs.length ≤ i) : FcsOk key v ks js (e + 1) 0 fs := by
  refine ⟨h.1, fun j g hg => ?_⟩
  obtain ⟨⟨jj', a1, a2⟩, a3⟩ := h.2 j g hg
  have hj : j < fs.length := (List.getElem?_eq_some_iff.1 hg).1
  rw [if_pos (by omega)] at a2
  exact ⟨⟨jj', a1, by rw [if_neg (by omega)]; exact a2⟩, a3⟩
theorem FcsOk.get {f : FE} (h : FcsOk key v ks js e i fs) (hf : fs[i]? = some f) : ∃ jj, js[i]? = some jj ∧ FcOk key v ks e jj (zs f.l) ∧ SmE f.A f.n f.l := by
  obtain ⟨⟨jj, a1, a2⟩, a3⟩ := h.2 i f hf
  rw [if_neg (by omega)] at a2
  exact ⟨jj, a1, a2, a3⟩
theorem FcsOk.last {f : FE} (h : FcsOk key v ks js e 0 fs) (hf : fs[j]? = some f) : ∃ jj, js[j]? = some jj ∧ FcOk key v ks e jj (zs f.l) ∧ SmE f.A f.n f.l := by
  obtain ⟨⟨jj, a1, a2⟩, a3⟩ := h.2 j f hf
  rw [if_neg (by omega)] at a2
  exact ⟨jj, a1, a2, a3⟩
theorem FcsOk.start (h : BsOk v 0 (fs.map fun f => zs f.l) js) (hs : ∀ f ∈ fs, SmE f.A f.n f.l) : FcsOk key v ks js 0 0 fs := by
  have hl : js.length = fs.length := by have := h.len; simpa using this
  refine ⟨hl, fun j f hf => ⟨?_, hs f (List.mem_of_getElem? hf)⟩⟩
  have hj : j < js.length := by rw [hl]; exact (List.getElem?_eq_some_iff.1 hf).1
  refine ⟨js[j], List.getElem?_eq_getElem hj, ?_⟩
  rw [if_neg (by omega)]
  exact FcOk.start (h.cl j (zs f.l) js[j] (by simp [hf]) (List.getElem?_eq_getElem hj)).1
/-- An element of the basis. -/
theorem elem_start {fb : List PE} {f : PE} (h : BsOk key z (fb.map fun f => zs f.l) ks) (hf : fb[e]? = some f) : ∃ k, ks[e]? = some k ∧ ElOk key v js k 0 (zs f.l) := by
  have hl : ks.length = fb.length := by have := h.len; simpa using this
  have hj : e < ks.length := by rw [hl]; exact (List.getElem?_eq_some_iff.1 hf).1
  exact ⟨ks[e], List.getElem?_eq_getElem hj, ElOk.start (h.cl e (zs f.l) ks[e] (by simp [hf]) (List.getElem?_eq_getElem hj)).1⟩
end
/-- The list behind an addition. -/
def addE (fo : List PE) (A : Option Addr) (n c : Nat) (l : List RI) : List PE := if 2 ≤ (zs l).length then fo ++ [⟨A, n, c, l⟩] else fo
theorem addE_map (fo : List PE) (A : Option Addr) (n c : Nat) (l : List RI) : (addE fo A n c l).map (fun f => zs f.l) = if 2 ≤ (zs l).length then fo.map (fun f => zs f.l) ++ [zs l] else fo.map fun f => zs f.l := by
  unfold addE
  split <;> simp
theorem addE_sm {fo : List PE} {A : Option Addr} {n c : Nat} {l : List RI} (h : ∀ f ∈ fo, SmE f.A f.n f.l) (hl : SmE A n l) : ∀ f ∈ addE fo A n c l, SmE f.A f.n f.l := fun f hf => by
  unfold addE at hf
  split at hf
  · rcases List.mem_append.1 hf with h1 | h1
    · exact h f h1
    · simp at h1; subst h1; exact hl
  · exact h f hf
/-- The decomposition is a basis for the multiplicities in one polynomial. -/
theorem dec_bs {F : List Int} {u : Int} {fs : List FE} (hd : Dec F u fs) (hF : P F ≠ 0) : BsOk (fun π => va π (P F)) 0 (fs.map fun f => zs f.l) (fs.map fun f => f.k.toNat) := by
  rcases hd with ⟨h0, _⟩ | ⟨_, _, ⟨k, hdec⟩, hprod⟩
  · exact absurd h0 hF
  have hva : ∀ π, Irr π → va π (P (primP F)) = va π (P F) := fun π hπ => va_prim hπ hF
  refine ⟨by simp, ?_, fun i x k' hx hk' => ?_, fun l hl => ?_, fun π hπ hd => ?_⟩
  · show List.Pairwise (· ≠ ·) _
    rw [List.pairwise_map]
    exact hdec.asc.imp_of_mem fun {a b} ha hb hab => by
      have := (hdec.e a ha).k1; have := (hdec.e b hb).k1; omega
  · simp only [List.getElem?_map] at hx hk'
    cases hf : fs[i]? with
    | none => rw [hf] at hx; cases hx
    | some f =>
      rw [hf] at hx hk'
      injection hx with hx
      injection hk' with hk'
      subst hx hk'
      have hE := hdec.e f (List.mem_of_getElem? hf)
      have hk1 := hE.k1
      refine ⟨⟨hE.n, fun π hπ => ?_⟩, by rw [zlen, hE.hn]; exact hE.d⟩
      rw [hE.v π hπ, hva π hπ]
      by_cases e : (va π (P F) : Int) = f.k
      · rw [if_pos e, if_pos (by show va π (P F) = f.k.toNat; omega)]
      · rw [if_neg e, if_neg (by show ¬ va π (P F) = f.k.toNat; omega)]
  · obtain ⟨f, hf, rfl⟩ := List.mem_map.1 hl
    have := (hdec.e f hf).k1
    show f.k.toNat ≠ 0
    omega
  · obtain ⟨f, hf, hfk⟩ : ∃ f ∈ fs, f.k = (va π (P (primP F)) : Int) := by
      apply Classical.byContradiction
      intro hx
      have ⟨_, h8⟩ := va_prod hπ fs hdec.e hdec.asc
      have h9 := h8 fun f hf hfk => hx ⟨f, hf, hfk⟩
      rw [hprod, hva π hπ] at h9
      exact hd h9
    refine List.mem_map.2 ⟨f, hf, ?_⟩
    show f.k.toNat = va π (P F)
    rw [hfk, hva π hπ]; omega
theorem dec_sm {F : List Int} {u : Int} {fs : List FE} (hd : Dec F u fs) (hF : P F ≠ 0) (hN : nrm F ≤ 16777216) (hl : F.length ≤ 11) : ∀ f ∈ fs, SmE f.A f.n f.l := fun f hf => by
  have hb := dec_bs hd hF
  rcases hd with ⟨h0, _⟩ | ⟨_, _, ⟨k, hdec⟩, hprod⟩
  · exact absurd h0 hF
  have hE := hdec.e f hf
  refine ⟨⟨primP F, (nrm_prim hF).ne, dvd_of_va hE.n.ne (nrm_prim hF).ne fun π hπ => ?_, Nat.le_trans (nrm_prim_le F) hN, ?_⟩, hE.hn, hE.ln⟩
  · rw [hE.v π hπ]
    have := hE.k1
    split
    · rename_i h; omega
    · exact Nat.zero_le _
  · rw [prim_trim, prim_len]; exact Nat.le_trans (trimZ_len F) hl
/-- There is a factor if the degree is positive. -/
theorem dec_some {F : List Int} {u : Int} {fs : List FE} (hd : Dec F u fs) (h2 : 2 ≤ (trimZ F).length) : fs ≠ [] := fun e => by
  have hF : P F ≠ 0 := dg_pos.2 (by rw [dg_P]; omega)
  have hb := dec_bs hd hF
  obtain ⟨π, hπ, hdv⟩ := irr_factor (f := P F) (by rw [dg_P]; exact h2)
  have h1 := (va_pos hπ hF).1 hdv
  have := hb.cov π hπ (by show va π (P F) ≠ 0; omega)
  rw [e] at this
  simp at this
/-- Those of positive degree, the last first. -/
noncomputable def posQ (l : List PE) : List QP := l.foldl (fun q f => if 2 ≤ (trimZ (zs f.l)).length then P (zs f.l) :: q else q) []
theorem posQ_next {l : List PE} {i : Nat} {f : PE} (h : l[i]? = some f) : posQ (l.take (i + 1)) = if 2 ≤ (trimZ (zs f.l)).length then P (zs f.l) :: posQ (l.take i) else posQ (l.take i) := by
  unfold posQ
  rw [List.take_add_one, h]
  simp [List.foldl_append]
theorem posQ_mem {l : List PE} {q : QP} : q ∈ posQ l ↔ ∃ f ∈ l, 2 ≤ (trimZ (zs f.l)).length ∧ q = P (zs f.l) := by
  unfold posQ
  have key : ∀ (l : List PE) (a : List QP), q ∈ l.foldl (fun q f => if 2 ≤ (trimZ (zs f.l)).length then P (zs f.l) :: q else q) a ↔ q ∈ a ∨ ∃ f ∈ l, 2 ≤ (trimZ (zs f.l)).length ∧ q = P (zs f.l) := by
    intro l
    induction l with
    | nil => intro a; simp
    | cons f l ih =>
      intro a
      rw [List.foldl_cons, ih]
      by_cases h : 2 ≤ (trimZ (zs f.l)).length
      · rw [if_pos h]
        constructor
        · rintro (h1 | ⟨g, h1, h2⟩)
          · rcases List.mem_cons.1 h1 with h3 | h3
            · exact .inr ⟨f, by simp, h, h3⟩
            · exact .inl h3
          · exact .inr ⟨g, by simp [h1], h2⟩
        · rintro (h1 | ⟨g, h1, h2, h3⟩)
          · exact .inl (by simp [h1])
          · rcases List.mem_cons.1 h1 with h4 | h4
            · subst h4; exact .inl (by simp [h3])
            · exact .inr ⟨g, h4, h2, h3⟩
      · rw [if_neg h]
        constructor
        · rintro (h1 | ⟨g, h1, h2⟩)
          · exact .inl h1
          · exact .inr ⟨g, by simp [h1], h2⟩
        · rintro (h1 | ⟨g, h1, h2, h3⟩)
          · exact .inl h1
          · rcases List.mem_cons.1 h1 with h4 | h4
            · subst h4; exact absurd h2 h
            · exact .inr ⟨g, h4, h2, h3⟩
  rw [key]; simp
theorem basis_yes {l : List PE} {i : Nat} {f : PE} {os : List (List Int)} {ls : List (List Nat × Nat)} (hf : l[i]? = some f) (h2 : 2 ≤ (trimZ (zs f.l)).length) (h : BsOk (key2 (keyL (posQ (l.take i))) fun π => va π (P (zs f.l))) (zeroL (posQ (l.take i)), 0) os ls) : BasisOf (posQ (l.take (i + 1))) os := by
  rw [posQ_next hf, if_pos h2]; exact BasisOf.cons h
theorem basis_no {l : List PE} {i : Nat} {f : PE} {os : List (List Int)} (hf : l[i]? = some f) (h2 : ¬ 2 ≤ (trimZ (zs f.l)).length) (h : BasisOf (posQ (l.take i)) os) : BasisOf (posQ (l.take (i + 1))) os := by
  rw [posQ_next hf, if_neg h2]; exact h
theorem pow12 {n i : Nat} (h : n + 1 ≤ 12 ^ i) : 12 * n + 11 + 1 ≤ 12 ^ (i + 1) := by rw [Nat.pow_succ]; omega
theorem pow12_le {n i : Nat} (h : n + 1 ≤ 12 ^ i) : n + 1 ≤ 12 ^ (i + 1) := by rw [Nat.pow_succ]; omega
theorem pow12_8 {n i : Nat} (h : n + 1 ≤ 12 ^ i) (hi : i ≤ 8) : n ≤ 429981696 := by
  have : 12 ^ i ≤ 12 ^ 8 := Nat.pow_le_pow_right (by omega) hi
  have e : (12 : Nat) ^ 8 = 429981696 := by decide
  omega
/-- Sorted, without equals: strictly. -/
theorem strict_of {fs : List QP} {ps : List PE} (hb : BasisOf fs (ps.map fun f => zs f.l)) (h : ps.Pairwise fun a b => ¬ cmpP (trimZ (zs b.l)) (trimZ (zs a.l)) < 0) : (ps.map fun f => zs f.l).Pairwise fun x y => cmpP x y < 0 := by
  have hc := hb.cop
  rw [List.pairwise_map] at hc ⊢
  have hn : ∀ f ∈ ps, trimZ (zs f.l) = zs f.l ∧ 2 ≤ (zs f.l).length := fun f hf => by
    obtain ⟨h1, k, _, hcl⟩ := hb.each _ (List.mem_map.2 ⟨f, hf, rfl⟩)
    exact ⟨hcl.n.t, h1⟩
  refine (hc.and h).imp_of_mem fun {a b} ha hb' hab => ?_
  obtain ⟨h1, h2⟩ := hab
  rw [(hn a ha).1, (hn b hb').1] at h2
  have h3 := cmpP_anti (zs a.l) (zs b.l)
  have h4 : cmpP (zs a.l) (zs b.l) ≠ 0 := fun e => by
    have e2 := cmpP_zero.1 e
    rw [e2] at h1
    obtain ⟨π, hπ, hd⟩ := irr_factor (f := P (zs b.l)) (by rw [dg_P, (hn b hb').1]; exact (hn b hb').2)
    exact cop_iff.1 h1 π hπ hd hd
  omega
end Go.Gx

/-
  Products of powers of factors. No program in sight.
-/
namespace Go.Gx
end Go.Gx

/-
  Integers of the reference: a sign and bits; lists of these. No program in sight.
-/
namespace Go.Gx
open Go.RowKit
section
variable {w w' : World} {S S' G : Nat → Prop} {s : Int} {A : Option Addr} {n c : Nat} {z : Int}
end
end Go.Gx

/-
  Lists of integers of the reference; such lists that grow. No program in sight.
-/
namespace Go.Gx
open Go.RowKit
variable {dfs : List Deferred}
section
variable {w w' : World} {S S' G : Nat → Prop} {A : Option Addr} {n c M M' : Nat} {f : List Int}
end
section
variable {T : Nat → Prop} {w w' : World} {B : Nat} {el : TypeId} {S G : Nat → Prop} {A : Option Addr} {n c M : Nat} {f : List Int}
end
section
variable {P : Program} {n : Nat} {e : Nat → Value} {w : World} {K : Act → World → Prop} {Q : Exit → Act → World → Prop} {ty : TypeId} {pos : String} {af : Array Edge} {gd : Option (Nat × Bool)}
end
end Go.Gx
namespace Go.Gx
open Go.RowKit
variable {dfs : List Deferred}
theorem run_append_nothing {P : Program} {w : World} {B : Nat} {t ty el : TypeId} {i : TypeInfo} {size : Nat} (ht : P.underlying t = some (.slice el)) (hi : P.info? el = some i) {v : Value} {n : Nat} {xs : List Value} (hown : w.ownsRow B el size v n xs) (c2 : Nat) :
    (Builtin.append_ #[t, t] ty #[v, .slice none 0 c2]).run P w = .ok v w := by
  rcases hown.2 with ⟨rfl, rfl⟩ | ⟨g, cap, cur, rfl, _, _, hnc, _⟩
  · simp [Builtin.append_, run_underlying ht, sizeOf, typeInfo, hi, Builtin.lenOf, Builtin.firstCells]
  · simp [Builtin.append_, run_underlying ht, sizeOf, typeInfo, hi, Builtin.lenOf, Builtin.firstCells, hnc, storeCells]
section
variable {P : Program} {n : Nat} {e : Nat → Value} {w : World} {K : Act → World → Prop} {Q : Exit → Act → World → Prop} {ty : TypeId} {pos : String} {af : Array Edge} {gd : Option (Nat × Bool)}
end
end Go.Gx

/-
  Slices of int, lists of these, factors of the reference. No program in sight.
-/
namespace Go.Gx
open Go.RowKit
section
variable {w w' : World} {S S' G : Nat → Prop} {A : Option Addr} {n c : Nat} {xs : List Int}
theorem IntsR.take {m : Nat} (h : IntsR w S A n c xs) (hm : m ≤ n) : IntsR w S A m c (xs.take m) := by
  refine ⟨?_, fun x hx => h.2 x (List.mem_of_mem_take hx)⟩
  have := h.1.take hm
  rw [Nat.mul_one] at this
  rw [List.map_take]
  exact this
theorem Blk.inti {g : Nat} {t : TypeId} (h : Blk w g t (xs.map (Value.int .i64))) {i : Nat} (hi : i < xs.length) : w.cell? ⟨g, i, none⟩ = some (.int .i64 (xs.getD i 0)) := by
  refine h.at_ ?_
  simp [List.getElem?_map, List.getElem?_eq_getElem hi]
end
/-- A list of ints in memory, and a power. -/
structure IE where
  A : Option Addr
  n : Nat
  c : Nat
  x : List Int
  k : Int
def IE.m (f : IE) : List Int × Int := (f.x, f.k)
def IE.cells (f : IE) : List Value := [.slice f.A f.n f.c, .int .i64 f.k]
def cellsIE (l : List IE) : List Value := l.flatMap IE.cells
def cellsIL (l : List IE) : List Value := l.map fun f => .slice f.A f.n f.c
theorem cellsIE_len (l : List IE) : (cellsIE l).length = l.length * 2 := by
  induction l with
  | nil => rfl
  | cons r l ih => simp only [cellsIE, List.flatMap_cons, List.length_append, List.length_cons] at ih ⊢; rw [ih]; simp [IE.cells]; omega
theorem cellsIE_append (a b : List IE) : cellsIE (a ++ b) = cellsIE a ++ cellsIE b := by simp [cellsIE]
theorem cellsIE_cons (r : IE) (l : List IE) : cellsIE (r :: l) = .slice r.A r.n r.c :: .int .i64 r.k :: cellsIE l := by simp [cellsIE, IE.cells]
theorem cellsIE_one (l : List IE) : ∀ u ∈ cellsIE l, u.oneCell' = true := by
  induction l with
  | nil => intro u h; simp [cellsIE] at h
  | cons r l ih =>
    intro u hu
    rw [cellsIE_cons] at hu
    simp only [List.mem_cons] at hu
    rcases hu with h | h | h
    · subst h; rfl
    · subst h; rfl
    · exact ih u h
theorem cellsIE_get {l : List IE} : ∀ {i : Nat} {r : IE}, l[i]? = some r → (cellsIE l)[i * 2]? = some (.slice r.A r.n r.c) ∧ (cellsIE l)[i * 2 + 1]? = some (.int .i64 r.k) := by
  induction l with
  | nil => intro i r h; simp at h
  | cons x l ih =>
    intro i r h
    rw [cellsIE_cons]
    cases i with
    | zero => simp at h; subst h; simp
    | succ i =>
      simp at h
      have := ih h
      rw [show (i + 1) * 2 = i * 2 + 1 + 1 by omega]
      simpa using this
theorem cellsIE_set {l : List IE} : ∀ {i : Nat} {r : IE} (k : Int), l[i]? = some r → (cellsIE l).set (i * 2 + 1) (.int .i64 k) = cellsIE (l.set i { r with k := k }) := by
  induction l with
  | nil => intro i r k h; simp at h
  | cons x l ih =>
    intro i r k h
    cases i with
    | zero => simp at h; subst h; simp [cellsIE_cons]
    | succ i =>
      simp at h
      rw [List.set_cons_succ, cellsIE_cons, cellsIE_cons, show (i + 1) * 2 + 1 = i * 2 + 1 + 1 + 1 by omega, List.set_cons_succ, List.set_cons_succ, ih k h]
def AllI (w : World) (S : Nat → Prop) (l : List IE) : Prop := ∀ f ∈ l, IntsR w S f.A f.n f.c f.x
def IFacsR (w : World) (S : Nat → Prop) (A : Option Addr) (n c : Nat) (l : List IE) : Prop := Rd w S A n c 2 (cellsIE l) ∧ AllI w S l
def IListR (w : World) (S : Nat → Prop) (A : Option Addr) (n c : Nat) (l : List IE) : Prop := Rd w S A n c 1 (cellsIL l) ∧ AllI w S l
section
variable {w w' : World} {S S' G : Nat → Prop} {A : Option Addr} {n c : Nat} {l : List IE}
theorem IFacsR.frmB (h : IFacsR w S A n c l) (f : Frm G w w') (hd : ∀ b, b < w.heap.size → S b → ¬ G b) : IFacsR w' S A n c l := ⟨h.1.frmB f hd, fun x hx => (h.2 x hx).frmB f hd⟩
theorem IFacsR.ext (h : IFacsR w S A n c l) (f : Ext w w') : IFacsR w' S A n c l := ⟨h.1.ext f, fun x hx => (h.2 x hx).ext f⟩
theorem IFacsR.sub (h : IFacsR w S A n c l) (hs : ∀ b, b < w.heap.size → S b → S' b) : IFacsR w S' A n c l := ⟨h.1.sub hs, fun x hx => (h.2 x hx).sub hs⟩
theorem IFacsR.low (h : IFacsR w S A n c l) : IFacsR w (· < w.heap.size) A n c l := h.sub fun _ hb _ => hb
theorem IFacsR.nil : IFacsR w S none 0 0 [] := ⟨Rd.nil, fun f hf => by cases hf⟩
theorem IFacsR.len (h : IFacsR w S A n c l) : l.length = n := by have := h.1.1; rw [cellsIE_len] at this; omega
theorem IFacsR.lkm (h : IFacsR w S A n c l) : l.length = n ∧ n ≤ c ∧ c ≤ 9223372036854775807 := ⟨h.len, h.1.2.1, h.1.2.2.1⟩
theorem IFacsR.base (h : IFacsR w S A n c l) (hn : 0 < n) : ∃ b off, A = some ⟨b, off, none⟩ := h.1.base hn
theorem IFacsR.at_ {b off i : Nat} (h : IFacsR w S (some ⟨b, off, none⟩) n c l) (hi : i < n) :
    ∃ f, l[i]? = some f ∧ w.cell? ⟨b, off + i * 2, none⟩ = some (.slice f.A f.n f.c) ∧ w.cell? ⟨b, off + i * 2 + 1, none⟩ = some (.int .i64 f.k) ∧ IntsR w S f.A f.n f.c f.x ∧ S b ∧ b < w.heap.size := by
  have hl : i < l.length := by rw [h.len]; exact hi
  obtain ⟨b', off', e, hS, hb, _⟩ := h.1.2.2.2 (by omega)
  injection e with e
  injection e with e1 e2
  subst e1 e2
  obtain ⟨r, hr⟩ : ∃ r, l[i]? = some r := ⟨_, List.getElem?_eq_getElem hl⟩
  have hc := cellsIE_get hr
  exact ⟨r, hr, h.1.cell hc.1, h.1.cell hc.2, h.2 _ (List.mem_of_getElem? hr), hS, hb⟩
theorem IListR.frmB (h : IListR w S A n c l) (f : Frm G w w') (hd : ∀ b, b < w.heap.size → S b → ¬ G b) : IListR w' S A n c l := ⟨h.1.frmB f hd, fun x hx => (h.2 x hx).frmB f hd⟩
theorem IListR.ext (h : IListR w S A n c l) (f : Ext w w') : IListR w' S A n c l := ⟨h.1.ext f, fun x hx => (h.2 x hx).ext f⟩
theorem IListR.sub (h : IListR w S A n c l) (hs : ∀ b, b < w.heap.size → S b → S' b) : IListR w S' A n c l := ⟨h.1.sub hs, fun x hx => (h.2 x hx).sub hs⟩
theorem IListR.low (h : IListR w S A n c l) : IListR w (· < w.heap.size) A n c l := h.sub fun _ hb _ => hb
theorem IListR.nil : IListR w S none 0 0 [] := ⟨Rd.nil, fun f hf => by cases hf⟩
theorem IListR.len (h : IListR w S A n c l) : l.length = n := by have := h.1.1; simp [cellsIL] at this; omega
theorem IListR.lkm (h : IListR w S A n c l) : l.length = n ∧ n ≤ c ∧ c ≤ 9223372036854775807 := ⟨h.len, h.1.2.1, h.1.2.2.1⟩
theorem IListR.base (h : IListR w S A n c l) (hn : 0 < n) : ∃ b off, A = some ⟨b, off, none⟩ := h.1.base hn
theorem IListR.at_ {b off i : Nat} (h : IListR w S (some ⟨b, off, none⟩) n c l) (hi : i < n) :
    ∃ f, l[i]? = some f ∧ w.cell? ⟨b, off + i, none⟩ = some (.slice f.A f.n f.c) ∧ IntsR w S f.A f.n f.c f.x ∧ S b ∧ b < w.heap.size := by
  have hl : i < l.length := by rw [h.len]; exact hi
  obtain ⟨b', off', e, hS, hb, _⟩ := h.1.2.2.2 (by omega)
  injection e with e
  injection e with e1 e2
  subst e1 e2
  obtain ⟨r, hr⟩ : ∃ r, l[i]? = some r := ⟨_, List.getElem?_eq_getElem hl⟩
  have hc : (cellsIL l)[i]? = some (.slice r.A r.n r.c) := by simp [cellsIL, hr]
  exact ⟨r, hr, h.1.cell hc, h.2 _ (List.mem_of_getElem? hr), hS, hb⟩
theorem IListR.one {g : Nat} {t : TypeId} {S1 : Nat → Prop} {A1 : Option Addr} {n1 c1 : Nat} {x1 : List Int} (hb : Blk w g t [.slice A1 n1 c1]) (h1 : IntsR w S1 A1 n1 c1 x1) : IListR w (fun _ => True) (some ⟨g, 0, none⟩) 1 1 [⟨A1, n1, c1, x1, 0⟩] := by
  refine ⟨Rd.of_blk (cs := cellsIL [⟨A1, n1, c1, x1, 0⟩]) hb trivial rfl (by omega) (by decide), fun x hx => ?_⟩
  simp at hx
  subst hx
  exact h1.sub fun _ _ _ => trivial
theorem IListR.oneS {g : Nat} {t : TypeId} {A1 : Option Addr} {n1 c1 : Nat} {x1 : List Int} (hb : Blk w g t [.slice A1 n1 c1]) (hg : S g) (h1 : IntsR w S A1 n1 c1 x1) : IListR w S (some ⟨g, 0, none⟩) 1 1 [⟨A1, n1, c1, x1, 0⟩] := by
  refine ⟨Rd.of_blk (cs := cellsIL [⟨A1, n1, c1, x1, 0⟩]) hb hg rfl (by omega) (by decide), fun x hx => ?_⟩
  simp at hx
  subst hx
  exact h1
theorem IListR.twoS {g : Nat} {t : TypeId} {A1 A2 : Option Addr} {n1 c1 n2 c2 : Nat} {x1 x2 : List Int} (hb : Blk w g t [.slice A1 n1 c1, .slice A2 n2 c2]) (hg : S g) (h1 : IntsR w S A1 n1 c1 x1) (h2 : IntsR w S A2 n2 c2 x2) : IListR w S (some ⟨g, 0, none⟩) 2 2 [⟨A1, n1, c1, x1, 0⟩, ⟨A2, n2, c2, x2, 0⟩] := by
  refine ⟨Rd.of_blk (cs := cellsIL [⟨A1, n1, c1, x1, 0⟩, ⟨A2, n2, c2, x2, 0⟩]) hb hg rfl (by omega) (by decide), fun x hx => ?_⟩
  simp at hx
  rcases hx with rfl | rfl
  · exact h1
  · exact h2
end
/-- A list of factors that grows. -/
def OwnI (T : Nat → Prop) (w : World) (B : Nat) (el : TypeId) (A : Option Addr) (n c : Nat) (l : List IE) : Prop := Own w B el 2 A n c (cellsIE l) ∧ AllI w (fun b => T b ∧ notIn A b) l
section
variable {T : Nat → Prop} {w w' : World} {B : Nat} {el : TypeId} {A : Option Addr} {n c : Nat} {l : List IE}
theorem OwnI.ext (h : OwnI T w B el A n c l) (k : Ext w w') : OwnI T w' B el A n c l := ⟨h.1.ext k, fun f hf => (h.2 f hf).ext k⟩
theorem OwnI.len (h : OwnI T w B el A n c l) : l.length = n := by have := h.1.1; rw [cellsIE_len] at this; omega
theorem OwnI.lkm (h : OwnI T w B el A n c l) : l.length = n ∧ n ≤ c ∧ c ≤ 9223372036854775807 := ⟨h.len, h.1.cap, h.1.max⟩
theorem OwnI.facs (h : OwnI T w B el A n c l) : IFacsR w (fun _ => True) A n c l := ⟨h.1.rd.sub fun _ _ _ => trivial, fun f hf => (h.2 f hf).sub fun _ _ _ => trivial⟩
theorem OwnI.facsT (h : OwnI T w B el A n c l) (hT : ∀ b, B ≤ b → T b) : IFacsR w T A n c l := ⟨h.1.rd.sub fun b _ hb => hT b hb, fun f hf => (h.2 f hf).sub fun _ _ hs => hs.1⟩
/-- Its block, opened. -/
theorem OwnI.open_ (h : OwnI T w B el A n c l) (hn : 0 < n) : ∃ g sp, A = some ⟨g, 0, none⟩ ∧ B ≤ g ∧ Blk w g el (cellsIE l ++ sp) ∧ (cellsIE l ++ sp).length = c * 2 ∧ AllI w (fun b => T b ∧ b ≠ g) l := by
  obtain ⟨⟨hl, h1⟩, h2⟩ := h
  rcases h1 with ⟨_, h0⟩ | ⟨g, cap, cur, hv, hb, hg, hnc, hcm, hsz, htake⟩
  · omega
  · injection hv with e1 e2 e3
    subst e1 e3
    refine ⟨g, cur.toList.drop (n * 2), rfl, hb, ?_, ?_, fun f hf => (h2 f hf).sub fun b _ hb => ⟨hb.1, fun e => hb.2 _ rfl e.symm⟩⟩
    · unfold Blk; rw [← htake, List.take_append_drop]; exact hg
    · rw [← htake, List.take_append_drop]; simpa using hsz
theorem OwnI.close {g : Nat} {sp : List Value} (hb : B ≤ g) (h : Blk w g el (cellsIE l ++ sp)) (hl : (cellsIE l ++ sp).length = c * 2) (hn : l.length = n) (hnc : n ≤ c) (hm : c ≤ CapMax) (ha : AllI w (fun b => T b ∧ b ≠ g) l) : OwnI T w B el (some ⟨g, 0, none⟩) n c l := by
  refine ⟨⟨by rw [cellsIE_len, hn], .inr ⟨g, c, (cellsIE l ++ sp).toArray, rfl, hb, h, hnc, hm, by simpa using hl, ?_⟩⟩, fun f hf => (ha f hf).sub fun b _ hb => ⟨hb.1, fun a ha' e => by cases ha'; exact hb.2 e.symm⟩⟩
  have : (cellsIE l).length = n * 2 := by rw [cellsIE_len, hn]
  rw [List.toList_toArray, ← this, List.take_left]
end
section
variable {dfs : List Deferred} {P : Program} {n : Nat} {e : Nat → Value} {w : World} {K : Act → World → Prop} {Q : Exit → Act → World → Prop} {ty : TypeId} {pos : String} {af : Array Edge} {gd : Option (Nat × Bool)}
/-- One factor more. -/
theorem oAppI {T : Nat → Prop} {d : Nat} {s x : Operand} {t el bt : TypeId} {zv : Value} {bytes B m c g : Nat} {A : Option Addr} {l : List IE} {S : Nat → Prop} {A' : Option Addr} {n' c' : Nat} {x' : List Int} {k : Int} (ht : P.underlying t = some (.slice el))
    (hi : (P.info? el).map (fun i => (i.zero, i.size, i.bytes)) = some (some zv, 2, bytes)) (hzv : zv.cells.size = 2) (hs : ev n e s = .slice A m c) (hx : ev n e x = .slice (some ⟨g, 0, none⟩) 1 1) (hO : OwnI T w B el A m c l) (hb : Blk w g bt [.slice A' n' c', .int .i64 k])
    (hp : IntsR w S A' n' c' x') (hS : ∀ b, b < w.heap.size → S b → T b ∧ notIn A b) (hm : (m + 1) * bytes ≤ 140737488355328) (hm2 : m + 1 ≤ 9223372036854775807) (hB : B ≤ w.heap.size)
    (kk : ∀ A2 c2 w', OwnI T w' B el A2 (m + 1) c2 (l ++ [⟨A', n', c', x', k⟩]) → Frm (fun b => B ≤ b) w w' → (∀ G : Nat → Prop, (∀ b, G b → notIn A b) → Frm (fun b => ¬ G b) w w') → (∀ a, A2 = some a → A = some a ∨ w.heap.size ≤ a.block) → K (mkA dfs n (upd e d (.slice A2 (m + 1) c2))) w') :
    OpW P ⟨some d, .call { callee := .builtin .append, args := #[s, x], argTypes := #[t, t] }, ty, pos, af, gd⟩ (mkA dfs n e) w K Q := by
  refine oApp ht hi hzv (by decide) hs hx hO.1 hb rfl rfl hm hm2 hB fun A2 c2 w' hO' hF hF2 hnew => ?_
  have hk := hF2 (notIn A) fun _ h => h
  have key : ∀ {S : Nat → Prop} {A3 : Option Addr} {n3 c3 : Nat} {x3 : List Int}, (∀ b, b < w.heap.size → S b → T b ∧ notIn A b) → IntsR w S A3 n3 c3 x3 → IntsR w' (fun b => T b ∧ notIn A2 b) A3 n3 c3 x3 := by
    intro S A3 n3 c3 x3 hS h
    have h4 := (h.sub (S' := fun b => (T b ∧ notIn A b) ∧ b < w.heap.size) fun b hb hs => ⟨hS b hb hs, hb⟩).frmB hk fun b _ hs hn => hn hs.1.2
    refine h4.sub fun b _ hb => ⟨hb.1.1, fun a ha => ?_⟩
    rcases hnew a ha with h5 | h5
    · exact hb.1.2 a h5
    · have := hb.2; omega
  refine kk A2 c2 w' ⟨by rw [cellsIE_append]; exact hO', fun f hf => ?_⟩ hF hF2 hnew
  rcases List.mem_append.1 hf with h5 | h5
  · exact key (fun _ _ h => h) (hO.2 f h5)
  · simp at h5; subst h5; exact key hS hp
/-- A copy of a list of factors. -/
theorem oCopyI {T : Nat → Prop} {d : Nat} {s x : Operand} {t el : TypeId} {zv : Value} {bytes m c2 g : Nat} {A2 : Option Addr} {l : List IE} {S : Nat → Prop} (ht : P.underlying t = some (.slice el))
    (hi : (P.info? el).map (fun i => (i.zero, i.size, i.bytes)) = some (some zv, 2, bytes)) (hzv : zv.cells.size = 2) (hs : ev n e s = .slice (some ⟨g, 0, none⟩) 0 0) (hx : ev n e x = .slice A2 m c2) (hb : Blk w g el []) (h2 : IFacsR w S A2 m c2 l) (hS : ∀ b, b < w.heap.size → S b → T b ∧ b ≠ g)
    (hm : m * bytes ≤ 140737488355328) (hm2 : m ≤ 9223372036854775807)
    (kk : ∀ A3 c3 w', OwnI T w' g el A3 m c3 l → Frm (fun b => b = g) w w' → (∀ a, A3 = some a → a.block = g ∨ w.heap.size ≤ a.block) → K (mkA dfs n (upd e d (.slice A3 m c3))) w') :
    OpW P ⟨some d, .call { callee := .builtin .append, args := #[s, x], argTypes := #[t, t] }, ty, pos, af, gd⟩ (mkA dfs n e) w K Q := by
  have hO : Own w g el 2 (some ⟨g, 0, none⟩) 0 0 [] := ⟨rfl, .inr ⟨g, 0, #[], rfl, Nat.le_refl _, hb, Nat.le_refl _, Nat.zero_le _, rfl, rfl⟩⟩
  obtain ⟨i, hi', hz', hsz, hby⟩ := info_parts hi
  have hlt := hb.lt
  cases A2 with
  | none =>
    have hl0 : m = 0 := by
      rcases Nat.eq_zero_or_pos m with h | h
      · exact h
      · obtain ⟨b, o, e, _⟩ := h2.1.2.2.2 h; cases e
    subst hl0
    have : l = [] := List.eq_nil_of_length_eq_zero h2.len
    subst this
    have hr := run_append_nothing (P := P) (w := w) (ty := ty) ht hi' hO c2
    unfold OpW Oper.wp
    rw [eval_mkA]
    simp only [execOp, resolve, invoke, builtin, Sem.run_bind, Sem.run_pure, Result.andThen_ok, List.map_toArray, List.map_cons, List.map_nil, hs, hx, hr, Oper.upon, put_mkA]
    exact kk _ 0 w ⟨hO, fun f hf => by cases hf⟩ (Frm.refl _ _) fun a ha => by cases ha; exact .inl rfl
  | some a =>
    have hnews : ∀ (j : Nat) u, (cellsIE l)[j]? = some u → w.cell? (a.add j) = some u := by
      intro j u hj
      have hl0 : 0 < m := by
        rcases Nat.eq_zero_or_pos m with h | h
        · have := h2.len; rw [h] at this; rw [List.eq_nil_of_length_eq_zero this] at hj; cases hj
        · exact h
      obtain ⟨b, o, ea, _, _, hc⟩ := h2.1.2.2.2 hl0
      injection ea with ea
      subst ea
      rw [addr_add]
      exact hc j u hj
    have hF' := h2
    obtain ⟨v', w', hrun, k2, k3, _⟩ := run_append_own (P := P) w g t ty el i zv 2 bytes ht hi' hz' hsz hby hzv (by decide) _ 0 [] hO a m c2 (cellsIE l) (by rw [cellsIE_len, h2.len]) hnews (cellsIE_one l) (by simp [maxLen]; omega) (by simpa using hm) (by omega)
    have hF : Frm (fun b => b = g) w w' := ⟨k3.os, k3.tape, k3.output, k3.size, append_drawn ht hi' hz' hsz hby hO (by rw [cellsIE_len, h2.len]) hnews (cellsIE_one l) (by omega) (by simpa using hm) hrun, fun j hj hg => k3.block j hj fun h => hg (by injection h)⟩
    obtain ⟨A3, c3, rfl⟩ : ∃ A3 c3, v' = .slice A3 m c3 := by
      rcases k2.2 with ⟨hv, h0⟩ | ⟨g', cap, cur, hv, _⟩
      · exact ⟨none, 0, by rw [hv]; simp at h0; rw [h0]⟩
      · rw [Nat.zero_add] at hv; exact ⟨_, _, hv⟩
    rw [Nat.zero_add, List.nil_append] at k2
    have hnew : ∀ a, A3 = some a → a.block = g ∨ w.heap.size ≤ a.block := by
      intro a3 ha3
      subst ha3
      by_cases hroom : m ≤ 0
      · obtain rfl : m = 0 := by omega
        have := List.eq_nil_of_length_eq_zero h2.len
        subst this
        have hr := run_append_nothing (P := P) (w := w) (ty := ty) ht hi' hO c2
        have hlen0 : (cellsIE []).length = 0 := rfl
        have h5 := run_append_room (P := P) w t ty el i ht hi' g 0 0 #[] hb a 0 c2 [] (by simp) (fun j u hj => by cases hj) (fun u hu => by cases hu) (Nat.le_refl _) (by simp)
        rw [h5] at hrun
        injection hrun with e4
        injection e4 with e5
        injection e5 with e6
        left; rw [← e6]
      · have h5 := run_append_grow (P := P) w t ty el i zv ht hi' hz' ⟨g, 0, none⟩ 0 0 [] (by simp) (fun j u hj => by cases hj) a m c2 (cellsIE l) (by rw [cellsIE_len, h2.len, hsz]) hnews (by omega) (by simp [maxLen]; omega) (growslice_fits (by omega) (by rw [hby]; simpa using hm))
        rw [h5] at hrun
        injection hrun with e4
        injection e4 with e5
        injection e5 with e6
        right; rw [← e6]; exact Nat.le_refl _
    unfold OpW Oper.wp
    rw [eval_mkA]
    simp only [execOp, resolve, invoke, builtin, Sem.run_bind, Sem.run_pure, Result.andThen_ok, List.map_toArray, List.map_cons, List.map_nil, hs, hx, hrun, Oper.upon, put_mkA]
    refine kk A3 c3 w' ⟨k2, fun f hf => ?_⟩ hF hnew
    refine (((h2.2 f hf).sub (S' := fun b => (T b ∧ b ≠ g) ∧ b < w.heap.size) fun b hb hs => ⟨hS b hb hs, hb⟩).frmB hF fun b _ hs he => hs.1.2 he).sub fun b _ hs => ⟨hs.1.1, fun a ha => ?_⟩
    rcases hnew a ha with h6 | h6
    · rw [h6]; exact fun e => hs.1.2 e.symm
    · have := hs.2; omega
end
end Go.Gx

/-
  Products of known small polynomials: what the reference of chapter 11 computes. Plain numbers; no program in sight.
-/
namespace Go.Gx
/-- The product so far: i rows and k cells of the next. -/
def mulI (f g : List Int) (i k j : Nat) : Int := co (pmul (f.take i) g) j + (if i ≤ j ∧ j - i < k then co f i * co g (j - i) else 0)
theorem mulI_start (f g : List Int) (j : Nat) : mulI f g 0 0 j = 0 := by
  unfold mulI
  rw [if_neg (by omega), co_pmul, List.take_zero, show conv [] g j = 0 from rsum_zero fun i _ => by simp]
  rfl
theorem mulI_row {f g : List Int} {i : Nat} (j : Nat) : mulI f g i g.length j = mulI f g (i + 1) 0 j := by
  unfold mulI
  rw [if_neg (c := i + 1 ≤ j ∧ j - (i + 1) < 0) (by omega), co_pmul, co_pmul, Int.add_zero]
  have h1 : conv (f.take (i + 1)) g j = rsum (fun a => co (f.take i) a * co g (j - a) + (if a = i then co f i * co g (j - i) else 0)) (j + 1) := by
    refine rsum_congr fun a ha => ?_
    show co (f.take (i + 1)) a * co g (j - a) = co (f.take i) a * co g (j - a) + _
    rw [co_takeZ, co_takeZ]
    by_cases h : a = i
    · subst h; rw [if_pos (by omega), if_neg (by omega), if_pos rfl]; omega
    · rw [if_neg h]
      by_cases h2 : a < i
      · rw [if_pos (by omega), if_pos h2]; omega
      · rw [if_neg (by omega), if_neg h2]; omega
  rw [h1, rsum_add]
  congr 1
  by_cases hij : i ≤ j
  · rw [rsum_single (j := i) (by omega) fun a _ hne => if_neg hne, if_pos rfl]
    split
    · rfl
    · rename_i h
      rw [co_ge (f := g) (i := j - i) (by omega), Int.mul_zero]
  · rw [if_neg (by omega), rsum_zero fun a ha => if_neg (by omega)]
theorem mulI_cell {f g o : List Int} {i k : Nat} {v : Int} (h : ∀ j, co o j = mulI f g i k j) (hk : i + k < o.length) (hv : v = co o (i + k) + co f i * co g k) : ∀ j, co (o.set (i + k) v) j = mulI f g i (k + 1) j := fun j => by
  rw [co_setZ hk, hv, h, h]
  unfold mulI
  by_cases hj : j = i + k
  · subst hj
    rw [if_pos rfl, if_neg (by omega), if_pos (by omega), show i + k - i = k by omega]; omega
  · rw [if_neg hj]
    by_cases h1 : i ≤ j ∧ j - i < k
    · rw [if_pos h1, if_pos (by omega)]
    · rw [if_neg h1, if_neg (by omega)]
theorem mulI_next {f g o : List Int} {i : Nat} (h : ∀ j, co o j = mulI f g i g.length j) : ∀ j, co o j = mulI f g (i + 1) 0 j := fun j => by rw [h, mulI_row]
theorem mulI_zero {f g : List Int} (m j : Nat) : co (List.replicate m 0) j = mulI f g 0 0 j := by
  rw [mulI_start]
  simp only [co, List.getD]
  rw [List.getElem?_replicate]
  split <;> rfl
theorem mulI_end {f g o : List Int} {i : Nat} (h : ∀ j, co o j = mulI f g i 0 j) (hi : f.length ≤ i) : trimZ o = trimZ (pmul f g) := by
  apply P_inj
  refine P_congr fun j => ?_
  rw [h]
  unfold mulI
  rw [if_neg (by omega), List.take_of_length_le hi]; omega
theorem nrm_app (a b : List Int) : nrm (a ++ b) = nrm a + nrm b := by
  induction a with
  | nil => simp [nrm]
  | cons x a ih => rw [List.cons_append, nrm_cons, nrm_cons, ih]; omega
theorem nrm_take (f : List Int) (i : Nat) : nrm (f.take i) + (co f i).natAbs ≤ nrm f := by
  rcases Nat.lt_or_ge i f.length with h | h
  · have e : f = f.take i ++ (co f i :: f.drop (i + 1)) := by
      have h1 : f.drop i = co f i :: f.drop (i + 1) := by rw [List.drop_eq_getElem_cons h]; simp [co, List.getD, h]
      rw [← h1, List.take_append_drop]
    have h2 := congrArg nrm e
    rw [nrm_app, nrm_cons] at h2
    omega
  · rw [co_ge h, List.take_of_length_le h]; simp
theorem mulI_bd {f g : List Int} {N : Nat} (h : nrm f * nrm g ≤ N) (i k j : Nat) : (mulI f g i k j).natAbs ≤ N := by
  have h1 : (co (pmul (f.take i) g) j).natAbs ≤ nrm (f.take i) * nrm g := Nat.le_trans (nrm_co _ _) (nrm_pmul _ _)
  have h2 : ((if i ≤ j ∧ j - i < k then co f i * co g (j - i) else 0 : Int)).natAbs ≤ (co f i).natAbs * nrm g := by
    split
    · rw [Int.natAbs_mul]; exact Nat.mul_le_mul_left _ (nrm_co _ _)
    · simp
  have h3 : (nrm (f.take i) + (co f i).natAbs) * nrm g ≤ nrm f * nrm g := Nat.mul_le_mul_right _ (nrm_take f i)
  rw [Nat.add_mul] at h3
  unfold mulI
  have := Int.natAbs_add_le (co (pmul (f.take i) g) j) (if i ≤ j ∧ j - i < k then co f i * co g (j - i) else 0)
  omega
theorem mul_bd {f g : List Int} {N : Nat} (h : nrm f * nrm g ≤ N) (i k : Nat) : (co f i * co g k).natAbs ≤ N := by
  rw [Int.natAbs_mul]
  exact Nat.le_trans (Nat.mul_le_mul (nrm_co f i) (nrm_co g k)) h
theorem mulI_rng {f g o : List Int} {i k : Nat} (h : ∀ j, co o j = mulI f g i k j) (hN : nrm f * nrm g ≤ 4611686018427387904) : ∀ x ∈ o, -9223372036854775808 ≤ x ∧ x ≤ 9223372036854775807 := fun x hx => by
  obtain ⟨j, hj, rfl⟩ := List.getElem_of_mem hx
  have h1 := h j
  simp only [co, List.getD, List.getElem?_eq_getElem hj, Option.getD_some] at h1
  have := mulI_bd hN i k j
  rw [h1]
  omega
theorem contP_snoc (a : Int) : ∀ l : List Int, contP (l ++ [a]) = Nat.gcd (contP l) a.natAbs
  | [] => by simp [contP]
  | b :: l => by
    rw [List.cons_append, contP_cons, contP_cons, contP_snoc a l, Nat.gcd_assoc, Nat.gcd_comm a.natAbs, ← Nat.gcd_assoc]
theorem contP_next {F : List Int} {i : Nat} (hi : i < F.length) : contP (F.take (i + 1)) = Nat.gcd (contP (F.take i)) (co F i).natAbs := by
  rw [List.take_add_one, List.getElem?_eq_getElem hi]
  show contP (F.take i ++ [F[i]]) = _
  rw [contP_snoc]
  simp [co, List.getD, hi]
theorem contP_le {F : List Int} {N : Nat} (h : ∀ x ∈ F, x.natAbs ≤ N) : contP F ≤ N := by
  induction F with
  | nil => simp [contP]
  | cons a F ih =>
    rw [contP_cons]
    by_cases h0 : a = 0
    · subst h0; simp; exact ih fun x hx => h x (by simp [hx])
    · exact Nat.le_trans (Nat.gcd_le_right _ (by omega)) (h a (by simp))
/-- The last coefficient decides the sign. -/
theorem ld_last {F : List Int} (h : trimZ F ≠ []) : ldP F = co (trimZ F) ((trimZ F).length - 1) := by
  have : (trimZ F).length ≠ 0 := fun e => h (List.eq_nil_of_length_eq_zero e)
  unfold ldP
  rw [show (((trimZ F).length : Int) - 1) = (((trimZ F).length - 1 : Nat) : Int) by omega, coI_nat]
theorem map_next {F : List Int} {c v : Int} {i n : Nat} (hi : i < F.length) (hn : n = F.length) (hv : v = (co F i).tdiv c) : ((F.take i).map (fun x : Int => x.tdiv c) ++ List.replicate (n - i) 0).set i v = (F.take (i + 1)).map (fun x : Int => x.tdiv c) ++ List.replicate (n - (i + 1)) 0 := by
  subst hn hv
  have hl : ((F.take i).map (fun x : Int => x.tdiv c)).length = i := by simp; omega
  rw [show F.length - i = (F.length - (i + 1)) + 1 by omega, List.replicate_succ, List.set_append_right _ _ (by omega), hl, Nat.sub_self, List.set_cons_zero]
  have e : F.take (i + 1) = F.take i ++ [F[i]] := by rw [List.take_add_one, List.getElem?_eq_getElem hi]; rfl
  rw [e, List.map_append, List.append_assoc]
  congr 1
  simp [co, List.getD, hi]
theorem root_small {n s : Int} (hs : 0 ≤ s) (h : s * s < n) (hn : n ≤ 1000) : s ≤ 31 := by
  apply Classical.byContradiction
  intro hx
  have : 32 * 32 ≤ s * s := Int.mul_le_mul (by omega) (by omega) (by omega) hs
  omega
theorem root_done {n s : Int} (hs : 0 ≤ s) (hlow : s = 0 ∨ (s - 1) * (s - 1) < n) (h : ¬ s * s < n) : (0 ≤ n ∧ s * s = n) ↔ ∃ t : Int, t * t = n := by
  constructor
  · rintro ⟨_, h⟩; exact ⟨s, h⟩
  · rintro ⟨t, rfl⟩
    have h0 : 0 ≤ t * t := by
      rcases Int.le_total 0 t with h | h
      · exact Int.mul_nonneg h h
      · exact Int.mul_nonneg_of_nonpos_of_nonpos h h
    refine ⟨h0, ?_⟩
    have ha : t * t = (t.natAbs : Int) * t.natAbs := by rw [← Int.natAbs_mul_self' t]
    generalize hm : (t.natAbs : Int) = m at ha
    have hm0 : 0 ≤ m := by omega
    rw [ha] at h hlow ⊢
    have h1 : m ≤ s := by
      apply Classical.byContradiction
      intro hx
      have h2 : s * s ≤ s * m := Int.mul_le_mul_of_nonneg_left (by omega) hs
      have h3 : (s + 1) * m ≤ m * m := Int.mul_le_mul_of_nonneg_right (by omega) hm0
      rw [Int.add_mul] at h3
      omega
    rcases hlow with h2 | h2
    · have : m = 0 := by omega
      subst h2 this; rfl
    · have h3 : s ≤ m := by
        apply Classical.byContradiction
        intro hx
        have a1 : m * m ≤ (s - 1) * m := Int.mul_le_mul_of_nonneg_right (by omega) hm0
        have a2 : (s - 1) * m ≤ (s - 1) * (s - 1) := Int.mul_le_mul_of_nonneg_left (by omega) (by omega)
        omega
      rw [show m = s by omega]
theorem rat_sq {y : Rat} {D : Int} (h : y * y = (D : Rat)) : ∃ t : Int, t * t = D := by
  have h1 := den_mul y
  have h2 : ((y.num * y.num : Int) : Rat) = ((D * ((y.den : Int) * (y.den : Int)) : Int) : Rat) := by
    rw [Rat.intCast_mul, Rat.intCast_mul, Rat.intCast_mul, ← h1, ← h]; grind
  have h3 := Rat.intCast_inj.1 h2
  have h4 : y.den ∣ y.num.natAbs * y.num.natAbs := by
    rw [← Int.natAbs_mul, h3, Int.natAbs_mul, Int.natAbs_mul]
    exact ⟨D.natAbs * y.den, by rw [Int.natAbs_natCast, ← Nat.mul_assoc, Nat.mul_comm]⟩
  have h5 := y.reduced
  have h6 : y.den ∣ y.num.natAbs := Nat.Coprime.dvd_of_dvd_mul_left h5.symm h4
  have h7 : y.den = 1 := Nat.Coprime.eq_one_of_dvd h5.symm h6
  rw [h7] at h3
  exact ⟨y.num, by omega⟩
theorem irr_lin {f : QP} (h : dg f = 2) : Irr f := ⟨by omega, fun a b e => by
  have ha : a ≠ 0 := fun e' => by rw [e, e', zero_qmul, dg_zero.2 rfl] at h; omega
  have hb : b ≠ 0 := fun e' => by rw [e, e', qmul_zero, dg_zero.2 rfl] at h; omega
  have := dg_mul ha hb
  rw [← e] at this
  have := dg_pos.1 ha
  have := dg_pos.1 hb
  omega⟩
theorem lin_root {a : QP} (h : dg a = 2) : ∃ r, a.v r = 0 := by
  obtain ⟨c, l, hc, e, hd⟩ := dg_rep a
  rw [h] at hd
  obtain ⟨b0, b1, hb⟩ : ∃ b0 b1, trimZ l = [b0, b1] := by
    match trimZ l, hd with
    | [b0, b1], _ => exact ⟨b0, b1, rfl⟩
  have h1 : b1 ≠ 0 := by
    have := canon_last (f := trimZ l) (canon_trim isZI l) (by omega)
    rw [hb] at this
    exact this
  have h2 := cast_ne h1
  have hc' := cast_ne hc
  refine ⟨-(b0 : Rat) / (b1 : Rat), ?_⟩
  have h3 := qat e (-(b0 : Rat) / (b1 : Rat))
  rw [v_mul, v_K, v_P, ← evQ_trim, hb] at h3
  simp only [evQ] at h3
  have h4 : (b0 : Rat) + -(b0 : Rat) / (b1 : Rat) * ((b1 : Rat) + -(b0 : Rat) / (b1 : Rat) * 0) = 0 := by grind
  rw [h4] at h3
  exact (Rat.mul_eq_zero.1 h3).resolve_left hc'
theorem irr_quad {c0 c1 c2 : Int} (h2 : c2 ≠ 0) (hs : ¬ ∃ t : Int, t * t = c1 * c1 - 4 * c2 * c0) : Irr (P [c0, c1, c2]) := by
  have hd : dg (P [c0, c1, c2]) = 3 := by
    rw [dg_P]
    have : trimZ [c0, c1, c2] = [c0, c1, c2] := trimB_snoc_no isZI [c0, c1] c2 (by simp [isZI, h2])
    rw [this]; rfl
  refine ⟨by omega, fun a b e => ?_⟩
  have hne : P [c0, c1, c2] ≠ 0 := dg_pos.2 (by omega)
  have ha : a ≠ 0 := fun e' => hne (by rw [e, e', zero_qmul])
  have hb : b ≠ 0 := fun e' => hne (by rw [e, e', qmul_zero])
  have h3 := dg_mul ha hb
  rw [← e, hd] at h3
  have h4 := dg_pos.1 ha
  have h5 := dg_pos.1 hb
  apply Classical.byContradiction
  intro hn
  obtain ⟨r, hr⟩ := lin_root (a := a) (by omega)
  have h6 := qat e r
  rw [v_mul, hr, v_P] at h6
  simp only [evQ] at h6
  refine hs (rat_sq (y := 2 * (c2 : Rat) * r + (c1 : Rat)) ?_)
  rw [Rat.intCast_sub, Rat.intCast_mul, Rat.intCast_mul, Rat.intCast_mul]
  have e4 : ((4 : Int) : Rat) = 4 := rfl
  rw [e4]
  grind
/-- Irreducible, normal, small. -/
structure IrrN (p : List Int) : Prop where
  n : Nrm p
  i : Irr (P p)
  d : 2 ≤ p.length
  l : p.length ≤ 3
  b : nrm p ≤ 48
def prodL : List (List Int) → QP
  | [] => 1
  | p :: ps => P p * prodL ps
/-- What Split returns. -/
def SplitR (F : List Int) (u : Int) (ps : List (List Int)) : Prop := (∀ p ∈ ps, IrrN p) ∧ P F = K u * prodL ps ∧ u.natAbs ≤ 9 ∧ ps.length ≤ 2
theorem prim_nrm_le {F : List Int} {N : Nat} (h : nrm F ≤ N) : nrm (primP F) ≤ N := Nat.le_trans (nrm_prim_le F) h
theorem primC_bd {F : List Int} {N : Nat} (h : ∀ x ∈ F, x.natAbs ≤ N) : (primC F).natAbs ≤ N := by rw [primC_abs]; exact contP_le h
theorem split_const {F : List Int} (h : ∀ x ∈ F, x.natAbs ≤ 9) (hl : (primP F).length < 2) : SplitR F (primC F) [] := by
  refine ⟨by simp, ?_, primC_bd h, by simp⟩
  show P F = K (primC F) * 1
  rw [qmul_one]
  by_cases h0 : P F = 0
  · have hz := (ld_zero_iff F).2 h0
    have : contP F = 0 := by rw [← contP_trim, ld_zero hz]; rfl
    have h2 := primC_abs F
    rw [h0, show primC F = 0 by omega]; rfl
  · have hn := nrm_prim h0
    have hd : dg (P (primP F)) = 1 := by
      have := dg_pos.1 hn.ne
      rw [dg_P, hn.t] at this ⊢
      omega
    have h1 : primP F = [1] := by
      rw [dg_P, hn.t] at hd
      match hp : primP F, hd with
      | [a], _ =>
        have hc := hn.c
        have hs := hn.s
        rw [hp] at hc hs
        have e1 : contP [a] = a.natAbs := by simp [contP]
        have e2 := ld_congr (F := [a]) (G := [a]) rfl
        have : ldP [a] = a := by
          by_cases ha : a = 0
          · subst ha; rfl
          · have ht : trimZ [a] = [a] := trimB_snoc_no isZI [] a (by simp [isZI, ha])
            rw [ld_last (by rw [ht]; simp), ht]; rfl
        rw [this] at hs
        rw [e1] at hc
        rw [show a = 1 by omega]
    have h2 := P_prim F
    rw [h1] at h2
    rw [h2]
    exact QP.eq fun x => by simp only [v_mul, v_K, v_P, evQ, one_cast]; grind
theorem split_one {F : List Int} (h : ∀ x ∈ F, x.natAbs ≤ 9) (hF : F.length ≤ 3) (h2 : 2 ≤ (primP F).length) (hi : Irr (P (primP F))) : SplitR F (primC F) [primP F] := by
  have hne : P F ≠ 0 := fun e => by
    have := P_len e
    rw [prim_len] at h2; omega
  refine ⟨fun p hp => ?_, ?_, primC_bd h, by simp⟩
  · simp at hp
    subst hp
    refine ⟨nrm_prim hne, hi, h2, by rw [prim_len]; exact Nat.le_trans (trimZ_len F) hF, prim_nrm_le ?_⟩
    have : ∀ (l : List Int), (∀ x ∈ l, x.natAbs ≤ 9) → nrm l ≤ 9 * l.length := fun l => by
      induction l with
      | nil => intro _; simp [nrm]
      | cons a l ih => intro hl; rw [nrm_cons, List.length_cons]; have := hl a (by simp); have := ih fun x hx => hl x (by simp [hx]); omega
    have := this F h
    omega
  · show P F = K (primC F) * (P (primP F) * 1)
    rw [qmul_one]; exact P_prim F
theorem split_lin {F : List Int} (h : ∀ x ∈ F, x.natAbs ≤ 9) (hF : F.length ≤ 3) (h2 : (primP F).length = 2) : SplitR F (primC F) [primP F] :=
  split_one h hF (by omega) (irr_lin (by rw [dg_P, prim_trim, h2]))
theorem three {g : List Int} (h : g.length = 3) : g = [co g 0, co g 1, co g 2] := by
  match g, h with
  | [a, b, c], _ => rfl
theorem prim_top {F : List Int} (h3 : (primP F).length = 3) : co (primP F) 2 ≠ 0 := by
  have := canon_last (f := primP F) (prim_trim F) (by omega)
  rw [h3] at this
  exact this
theorem split_irr {F : List Int} (h : ∀ x ∈ F, x.natAbs ≤ 9) (hF : F.length ≤ 3) (h3 : (primP F).length = 3) (hs : ¬ ∃ t : Int, t * t = co (primP F) 1 * co (primP F) 1 - 4 * co (primP F) 2 * co (primP F) 0) : SplitR F (primC F) [primP F] :=
  split_one h hF (by omega) (by
    have := irr_quad (prim_top h3) hs
    rw [← three h3] at this
    exact this)
theorem co_prim_le {F : List Int} (h : ∀ x ∈ F, x.natAbs ≤ 9) (i : Nat) : (co (primP F) i).natAbs ≤ 9 := by
  have h1 : (co F i).natAbs ≤ 9 := by
    simp only [co, List.getD]
    cases he : F[i]? with
    | none => simp
    | some x => exact h x (List.mem_of_getElem? he)
  unfold primP
  rw [co_tdiv, co_trim, Int.natAbs_tdiv]
  exact Nat.le_trans (Nat.div_le_self _ _) h1
theorem two_len {a b : Int} (hb : b ≠ 0) : (trimZ [a, b]).length = 2 := by
  have : trimZ [a, b] = [a, b] := trimB_snoc_no isZI [a] b (by simp [isZI, hb])
  rw [this]; rfl
theorem irrN_lin {a b : Int} (hb : b ≠ 0) (h : a.natAbs + b.natAbs ≤ 48) : IrrN (primP [a, b]) := by
  have hl := two_len (a := a) hb
  have hne : P [a, b] ≠ 0 := dg_pos.2 (by rw [dg_P, hl]; omega)
  exact ⟨nrm_prim hne, irr_lin (by rw [dg_P, prim_trim, prim_len, hl]), by rw [prim_len, hl]; omega, by rw [prim_len, hl]; omega, prim_nrm_le (by show _ + (_ + 0) ≤ 48; omega)⟩
theorem split_two {F : List Int} {s : Int} (h : ∀ x ∈ F, x.natAbs ≤ 9) (h3 : (primP F).length = 3) (hs : s * s = co (primP F) 1 * co (primP F) 1 - 4 * co (primP F) 2 * co (primP F) 0) (hb : 0 ≤ s ∧ s ≤ 21) :
    SplitR F (primC F) [primP [co (primP F) 1 - s, 2 * co (primP F) 2], primP [co (primP F) 1 + s, 2 * co (primP F) 2]] := by
  have hne : P F ≠ 0 := fun e => by
    have := P_len e
    rw [prim_len] at h3; omega
  have b1 := co_prim_le h 1
  have b2 := co_prim_le h 2
  have ht := prim_top h3
  have hg := nrm_prim hne
  have e3 := three h3
  have hPF := P_prim F
  generalize primP F = g at *
  generalize co g 1 = c1 at *
  generalize co g 2 = c2 at *
  generalize co g 0 = c0 at *
  have iA : IrrN (primP [c1 - s, 2 * c2]) := irrN_lin (by omega) (by omega)
  have iB : IrrN (primP [c1 + s, 2 * c2]) := irrN_lin (by omega) (by omega)
  refine ⟨fun p hp => by simp at hp; rcases hp with rfl | rfl <;> assumption, ?_, primC_bd h, by simp⟩
  show P F = K (primC F) * (P (primP [c1 - s, 2 * c2]) * (P (primP [c1 + s, 2 * c2]) * 1))
  rw [qmul_one]
  have pA := P_prim [c1 - s, 2 * c2]
  have pB := P_prim [c1 + s, 2 * c2]
  have kA := cast_ne (primC_ne (F := [c1 - s, 2 * c2]) ((ld_ne_iff _).2 (dg_pos.2 (by rw [dg_P, two_len (by omega)]; omega))))
  have kB := cast_ne (primC_ne (F := [c1 + s, 2 * c2]) ((ld_ne_iff _).2 (dg_pos.2 (by rw [dg_P, two_len (by omega)]; omega))))
  generalize primP [c1 - s, 2 * c2] = A at *
  generalize primP [c1 + s, 2 * c2] = B at *
  generalize primC [c1 - s, 2 * c2] = a at *
  generalize primC [c1 + s, 2 * c2] = b at *
  have key : K ((4 * c2 : Int) : Rat) * P g = K ((a : Rat) * (b : Rat)) * P (trimZ (pmul A B)) := by
    rw [P_trim, P_mul, e3]
    refine QP.eq fun x => ?_
    have hA := qat pA x
    have hB := qat pB x
    simp only [v_mul, v_K, v_P, evQ] at hA hB ⊢
    have hs' : (s : Rat) * (s : Rat) = (c1 : Rat) * (c1 : Rat) - 4 * (c2 : Rat) * (c0 : Rat) := by
      have := congrArg (fun z : Int => (z : Rat)) hs
      simp only [Rat.intCast_mul, Rat.intCast_sub] at this
      have e4 : ((4 : Int) : Rat) = 4 := rfl
      rw [e4] at this
      exact this
    simp only [Rat.intCast_sub, Rat.intCast_add, Rat.intCast_mul] at hA hB ⊢
    have e4 : ((4 : Int) : Rat) = 4 := rfl
    have e2 : ((2 : Int) : Rat) = 2 := rfl
    rw [e2] at hA hB
    rw [e4]
    grind
  have k4 : ((4 * c2 : Int) : Rat) ≠ 0 := cast_ne (by omega)
  have kab : (a : Rat) * (b : Rat) ≠ 0 := fun e => (Rat.mul_eq_zero.1 e).elim kA kB
  have hm := iA.n.mul iB.n
  have : g = trimZ (pmul A B) := by
    refine hg.eq hm ?_ ?_
    · refine (dvd_K kab).1 ⟨K ((4 * c2 : Int) : Rat), key.symm⟩
    · refine (dvd_K k4).1 ⟨K ((a : Rat) * (b : Rat)), key⟩
  rw [← P_mul, ← P_trim (pmul A B), ← this]
  exact hPF
end Go.Gx

/-
  Factors of the reference, their products and decomposition. Plain numbers; no program in sight.
-/
namespace Go.Gx
/-- One factor more. -/
def withM : List (List Int × Int) → List Int → List (List Int × Int)
  | [], p => [(p, 1)]
  | (q, k) :: l, p => if trimZ q = trimZ p then (q, k + 1) :: l else (q, k) :: withM l p
theorem withM_none : ∀ (l : List (List Int × Int)) (p : List Int), (∀ e ∈ l, trimZ e.1 ≠ trimZ p) → withM l p = l ++ [(p, 1)]
  | [], p, _ => rfl
  | (q, k) :: l, p, h => by
    rw [withM, if_neg (h (q, k) (by simp)), withM_none l p fun e he => h e (by simp [he])]; rfl
theorem withM_at : ∀ (l : List (List Int × Int)) (p : List Int) (i : Nat) (q : List Int) (k : Int), l[i]? = some (q, k) → (∀ j e, j < i → l[j]? = some e → trimZ e.1 ≠ trimZ p) → trimZ q = trimZ p → withM l p = l.set i (q, k + 1)
  | [], p, i, q, k, h, _, _ => by simp at h
  | (q0, k0) :: l, p, 0, q, k, h, _, hq => by
    simp at h
    obtain ⟨rfl, rfl⟩ := h
    rw [withM, if_pos hq]; rfl
  | (q0, k0) :: l, p, i + 1, q, k, h, hn, hq => by
    rw [withM, if_neg (hn 0 _ (by omega) rfl), withM_at l p i q k (by simpa using h) (fun j e hj he => hn (j + 1) e (by omega) (by simpa using he)) hq]; rfl
noncomputable def prodM : List (List Int × Int) → QP
  | [] => 1
  | (p, k) :: l => P p ^ k.toNat * prodM l
/-- Distinct irreducible ones, with positive powers. -/
structure FacOkM (N : Nat) (l : List (List Int × Int)) : Prop where
  i : ∀ e ∈ l, IrrN e.1
  k : ∀ e ∈ l, 1 ≤ e.2 ∧ e.2 ≤ N
  d : l.Pairwise fun a b => a.1 ≠ b.1
  n : l.length ≤ N
theorem FacOkM.nil : FacOkM 0 [] := ⟨by simp, by simp, List.Pairwise.nil, by simp⟩
theorem mem_withM : ∀ (l : List (List Int × Int)) (p : List Int) (e : List Int × Int), e ∈ withM l p → (e ∈ l) ∨ (∃ k, (e.1, k) ∈ l ∧ e.2 = k + 1) ∨ (e = (p, 1))
  | [], p, e, h => by simp [withM] at h; exact .inr (.inr h)
  | (q, k) :: l, p, e, h => by
    rw [withM] at h
    split at h
    · rcases List.mem_cons.1 h with h1 | h1
      · subst h1; exact .inr (.inl ⟨k, by simp, rfl⟩)
      · exact .inl (by simp [h1])
    · rcases List.mem_cons.1 h with h1 | h1
      · subst h1; exact .inl (by simp)
      · rcases mem_withM l p e h1 with h2 | ⟨k', h2, h3⟩ | h2
        · exact .inl (by simp [h2])
        · exact .inr (.inl ⟨k', by simp [h2], h3⟩)
        · exact .inr (.inr h2)
theorem withM_len : ∀ (l : List (List Int × Int)) (p : List Int), (withM l p).length ≤ l.length + 1
  | [], p => by simp [withM]
  | (q, k) :: l, p => by
    rw [withM]
    split
    · simp
    · have := withM_len l p; simp; omega
theorem withM_d : ∀ (l : List (List Int × Int)) (p : List Int), (∀ e ∈ l, IrrN e.1) → IrrN p → (l.Pairwise fun a b => a.1 ≠ b.1) → (withM l p).Pairwise fun a b => a.1 ≠ b.1
  | [], p, _, _, _ => by simp [withM]
  | (q, k) :: l, p, hi, hp, hd => by
    have ⟨h1, h2⟩ := List.pairwise_cons.1 hd
    rw [withM]
    split
    · exact List.pairwise_cons.2 ⟨fun e he => h1 e he, h2⟩
    · rename_i hne
      refine List.pairwise_cons.2 ⟨fun e he => ?_, withM_d l p (fun x hx => hi x (by simp [hx])) hp h2⟩
      rcases mem_withM l p e he with h3 | ⟨k', h3, _⟩ | h3
      · exact h1 e h3
      · exact h1 (e.1, k') h3
      · subst h3
        intro e
        have e' : q = p := e
        exact hne (by rw [e'])
theorem FacOkM.with {N : Nat} {l : List (List Int × Int)} {p : List Int} (h : FacOkM N l) (hp : IrrN p) : FacOkM (N + 1) (withM l p) := by
  refine ⟨fun e he => ?_, fun e he => ?_, withM_d l p h.i hp h.d, Nat.le_trans (withM_len l p) (by have := h.n; omega)⟩
  · rcases mem_withM l p e he with h3 | ⟨k', h3, _⟩ | h3
    · exact h.i e h3
    · exact h.i (e.1, k') h3
    · subst h3; exact hp
  · rcases mem_withM l p e he with h3 | ⟨k', h3, h4⟩ | h3
    · have := h.k e h3; omega
    · have := h.k _ h3
      dsimp only at this
      omega
    · subst h3; exact ⟨by show (1 : Int) ≤ 1; omega, by show (1 : Int) ≤ _; omega⟩
theorem prodM_with : ∀ (l : List (List Int × Int)) (p : List Int), (∀ e ∈ l, 1 ≤ e.2) → prodM (withM l p) = prodM l * P p
  | [], p, _ => by
    show P p ^ (1 : Int).toNat * 1 = 1 * P p
    rw [qmul_one, one_qmul]; exact qp_pow_one _
  | (q, k) :: l, p, h => by
    have hk : 1 ≤ k := h (q, k) (by simp)
    rw [withM]
    split
    · rename_i he
      show P q ^ (k + 1).toNat * prodM l = P q ^ k.toNat * prodM l * P p
      rw [show (k + 1).toNat = k.toNat + 1 by omega, qp_pow_succ, ← P_trim p, ← he, P_trim]
      exact QP.eq fun x => by simp only [v_mul]; grind
    · show P q ^ k.toNat * prodM (withM l p) = P q ^ k.toNat * prodM l * P p
      rw [prodM_with l p fun e he => h e (by simp [he]), qmul_assoc]
theorem irr_assoc {π ρ : QP} (hπ : Irr π) (hρ : Irr ρ) (h : π ∣ ρ) : ρ ∣ π := by
  obtain ⟨q, e⟩ := h
  rcases hρ.2 q π e with h1 | h1
  · obtain ⟨r, hr, rfl⟩ := dg_one_ne h1
    rw [e]
    exact (K_dvd hr).2 (qdvd_refl _)
  · have := hπ.1; omega
theorem irr_va_one {π p : QP} (hπ : Irr π) (hp : Irr p) (h : π ∣ p) : va π p = 1 := by
  have h1 := (va_pos hπ hp.ne).1 h
  have h2 := va_dg hπ hp.ne
  have h3 := irr_assoc hπ hp h
  have h4 := dvd_le h3 hπ.ne
  have h5 := dvd_le h hp.ne
  apply Classical.byContradiction
  intro hx
  have h6 := (va_dvd hπ hp.ne 2).2 (by omega)
  have h7 := dvd_le h6 hp.ne
  have h8 : dg (π ^ 2) + 1 = dg (π ^ 1) + dg π := dg_pow_succ hπ.ne 1
  rw [qp_pow_one] at h8
  have := hπ.1
  omega
theorem irr_same {π : QP} {p q : List Int} (hπ : Irr π) (hp : IrrN p) (hq : IrrN q) (h1 : π ∣ P p) (h2 : π ∣ P q) : p = q :=
  hp.n.eq hq.n (qdvd_trans (irr_assoc hπ hp.i h1) h2) (qdvd_trans (irr_assoc hπ hq.i h2) h1)
theorem prodM_ne : ∀ l : List (List Int × Int), (∀ e ∈ l, IrrN e.1) → prodM l ≠ 0
  | [], _ => one_ne
  | (p, k) :: l, h => qp_mul_ne (qp_pow_ne (h (p, k) (by simp)).n.ne _) (prodM_ne l fun e he => h e (by simp [he]))
theorem va_prodM_none {π : QP} (hπ : Irr π) : ∀ l : List (List Int × Int), (∀ e ∈ l, IrrN e.1) → (∀ e ∈ l, ¬ π ∣ P e.1) → va π (prodM l) = 0
  | [], _, _ => va_K hπ (by decide)
  | (p, k) :: l, h, hn => by
    have hp := (h (p, k) (by simp)).n.ne
    have h2 : ¬ 1 ≤ va π (P p) := fun h' => hn (p, k) (by simp) ((va_pos hπ hp).2 h')
    show va π (P p ^ k.toNat * prodM l) = 0
    rw [va_mul hπ (qp_pow_ne hp _) (prodM_ne l fun e he => h e (by simp [he])), va_pow hπ hp, show va π (P p) = 0 by omega, va_prodM_none hπ l (fun e he => h e (by simp [he])) fun e he => hn e (by simp [he])]
    simp
theorem va_prodM {π : QP} (hπ : Irr π) : ∀ l : List (List Int × Int), (∀ e ∈ l, IrrN e.1) → (l.Pairwise fun a b => a.1 ≠ b.1) → ∀ p k, (p, k) ∈ l → π ∣ P p → va π (prodM l) = k.toNat
  | [], _, _, p, k, h, _ => by cases h
  | (q, j) :: l, hi, hd, p, k, h, hp => by
    have hq := (hi (q, j) (by simp))
    have ⟨h1, h2⟩ := List.pairwise_cons.1 hd
    have hi' : ∀ e ∈ l, IrrN e.1 := fun e he => hi e (by simp [he])
    show va π (P q ^ j.toNat * prodM l) = _
    rw [va_mul hπ (qp_pow_ne hq.n.ne _) (prodM_ne l hi'), va_pow hπ hq.n.ne]
    rcases List.mem_cons.1 h with h3 | h3
    · injection h3 with e1 e2
      subst e1 e2
      rw [irr_va_one hπ hq.i hp, va_prodM_none hπ l hi' fun e he hd => h1 e he (irr_same hπ hq (hi' e he) hp hd)]
      omega
    · have h4 : ¬ π ∣ P q := fun hd => h1 _ h3 (irr_same hπ hq (hi' _ h3) hd hp)
      have h5 : ¬ 1 ≤ va π (P q) := fun h' => h4 ((va_pos hπ hq.n.ne).2 h')
      rw [show va π (P q) = 0 by omega, va_prodM hπ l hi' h2 p k h3 hp]
      omega
def quadL (t : Int × Int × Int) : List Int := [t.1, t.2.1, t.2.2]
noncomputable def prodT (l : List (Int × Int × Int)) : QP := l.foldl (fun q t => q * P (quadL t)) 1
theorem prodT_next {l : List (Int × Int × Int)} {i : Nat} {t : Int × Int × Int} (h : l[i]? = some t) : prodT (l.take (i + 1)) = prodT (l.take i) * P (quadL t) := by
  unfold prodT
  rw [List.take_add_one, h]
  simp [List.foldl_append]
/-- The factors so far. -/
def FacSt (Q : QP) (u : Int) (N : Nat) (l : List (List Int × Int)) : Prop := Q = K u * prodM l ∧ FacOkM N l
theorem facSt_start : FacSt (prodT []) 1 0 [] := ⟨QP.eq fun x => by simp only [prodT, List.foldl, prodM, v_mul, v_K, v_1]; grind, FacOkM.nil⟩
/-- Within one polynomial: k of its parts are in. -/
def FacIn (Q : QP) (u : Int) (N : Nat) (l : List (List Int × Int)) (ps : List (List Int)) (k : Nat) : Prop := Q = K u * prodM l * prodL (ps.drop k) ∧ FacOkM (N + k) l ∧ (∀ p ∈ ps, IrrN p)
theorem FacSt.enter {Q : QP} {u v : Int} {N : Nat} {l : List (List Int × Int)} {F : List Int} {ps : List (List Int)} (h : FacSt Q u N l) (hs : SplitR F v ps) : FacIn (Q * P F) (u * v) N l ps 0 := by
  refine ⟨?_, h.2, hs.1⟩
  rw [h.1, hs.2.1, List.drop_zero, Rat.intCast_mul]
  exact QP.eq fun x => by simp only [v_mul, v_K]; grind
theorem FacIn.step {Q : QP} {u : Int} {N k : Nat} {l : List (List Int × Int)} {ps : List (List Int)} {p : List Int} (h : FacIn Q u N l ps k) (hp : ps[k]? = some p) : FacIn Q u N (withM l p) ps (k + 1) := by
  have hd : ps.drop k = p :: ps.drop (k + 1) := by
    rw [List.getElem?_eq_some_iff] at hp
    obtain ⟨hk, rfl⟩ := hp
    exact List.drop_eq_getElem_cons hk
  refine ⟨?_, h.2.1.with (h.2.2 p (List.mem_of_getElem? hp)), h.2.2⟩
  rw [h.1, hd, prodM_with _ _ fun e he => (h.2.1.k e he).1]
  show K u * prodM l * (P p * prodL (ps.drop (k + 1))) = _
  exact QP.eq fun x => by simp only [v_mul]; grind
theorem FacIn.leave {Q : QP} {u : Int} {N k M : Nat} {l : List (List Int × Int)} {ps : List (List Int)} (h : FacIn Q u N l ps k) (hk : ps.length ≤ k) (hM : N + k ≤ M) : FacSt Q u M l := by
  refine ⟨?_, h.2.1.i, fun e he => by have := h.2.1.k e he; omega, h.2.1.d, Nat.le_trans h.2.1.n hM⟩
  rw [h.1, List.drop_of_length_le hk]
  show K u * prodM l * 1 = _
  rw [qmul_one]
/-- What Factors returns for a product Q. -/
def FacR (Q : QP) (u : Int) (l : List (List Int × Int)) : Prop := (u = 0 ∧ Q = 0 ∧ l = []) ∨ (u ≠ 0 ∧ Q = K u * prodM l ∧ FacOkM 10 l)
theorem FacSt.zero {Q : QP} {u : Int} {N : Nat} {l : List (List Int × Int)} (h : FacSt Q u N l) (h0 : u = 0) : FacR Q 0 [] := .inl ⟨rfl, by rw [h.1, h0, zero_cast]; exact QP.eq fun x => by simp only [v_mul, v_K, v_0]; grind, rfl⟩
theorem FacSt.full {Q : QP} {u : Int} {N : Nat} {l : List (List Int × Int)} (h : FacSt Q u N l) (h0 : u ≠ 0) (hN : N ≤ 10) : FacR Q u l :=
  .inr ⟨h0, h.1, h.2.i, fun e he => by have := h.2.k e he; omega, h.2.d, Nat.le_trans h.2.n hN⟩
def accM (l : List (List Int × Int)) : List Int := l.foldl (fun p e => trimZ (pmul p e.1)) [1]
theorem acc_spec : ∀ (l : List (List Int × Int)) (a : List Int), Nrm a → (∀ e ∈ l, IrrN e.1) → Nrm (l.foldl (fun p e => trimZ (pmul p e.1)) a) ∧ P (l.foldl (fun p e => trimZ (pmul p e.1)) a) = P a * prodM (l.map fun e => (e.1, 1))
  | [], a, ha, _ => ⟨ha, (qmul_one _).symm⟩
  | e :: l, a, ha, h => by
    have ⟨h1, h2⟩ := acc_spec l (trimZ (pmul a e.1)) (ha.mul (h e (by simp)).n) fun x hx => h x (by simp [hx])
    refine ⟨h1, ?_⟩
    show P (l.foldl _ (trimZ (pmul a e.1))) = P a * (P e.1 ^ (1 : Int).toNat * prodM _)
    rw [h2, P_trim, P_mul, show (1 : Int).toNat = 1 from rfl, qp_pow_one, qmul_assoc]
theorem accM_spec {l : List (List Int × Int)} (h : ∀ e ∈ l, IrrN e.1) : Nrm (accM l) ∧ P (accM l) = prodM (l.map fun e => (e.1, 1)) := by
  have ⟨h1, h2⟩ := acc_spec l [1] Nrm.one h
  refine ⟨h1, h2.trans ?_⟩
  have : P [1] = 1 := QP.eq fun x => by simp only [v_P, v_1, evQ]; rw [one_cast]; grind
  rw [this, one_qmul]
theorem va_accM {π : QP} (hπ : Irr π) {l : List (List Int × Int)} (h : ∀ e ∈ l, IrrN e.1) (hd : l.Pairwise fun a b => a.1 ≠ b.1) : ((∃ e ∈ l, π ∣ P e.1) → va π (P (accM l)) = 1) ∧ ((∀ e ∈ l, ¬ π ∣ P e.1) → va π (P (accM l)) = 0) := by
  have hm : ∀ e ∈ l.map (fun e => (e.1, (1 : Int))), IrrN e.1 := fun e he => by
    obtain ⟨x, hx, rfl⟩ := List.mem_map.1 he
    exact h x hx
  rw [(accM_spec h).2]
  refine ⟨fun ⟨e, he, hp⟩ => ?_, fun hn => va_prodM_none hπ _ hm fun e he => ?_⟩
  · exact va_prodM hπ _ hm (by rw [List.pairwise_map]; exact hd) e.1 1 (List.mem_map.2 ⟨e, he, rfl⟩) hp
  · obtain ⟨x, hx, rfl⟩ := List.mem_map.1 he
    exact hn x hx
theorem facR_va {π F : QP} {u : Int} {l : List (List Int × Int)} (hπ : Irr π) (h : F = K u * prodM l) (hu : u ≠ 0) (hl : FacOkM 10 l) : (∀ p k, (p, k) ∈ l → π ∣ P p → va π F = k.toNat) ∧ ((∀ e ∈ l, ¬ π ∣ P e.1) → va π F = 0) := by
  have e : va π F = va π (prodM l) := by rw [h]; exact va_Kmul hπ (cast_ne hu) (prodM_ne l hl.i)
  rw [e]
  exact ⟨fun p k hm hd => va_prodM hπ l hl.i hl.d p k hm hd, fun hn => va_prodM_none hπ l hl.i hn⟩
end Go.Gx
namespace Go.Gx
theorem mulI_sum_bd {f g o : List Int} {i k N : Nat} (h : ∀ j, co o j = mulI f g i k j) (hN : nrm f * nrm g ≤ N) : (co o (i + k) + co f i * co g k).natAbs ≤ N := by
  have h1 := mulI_bd hN i (k + 1) (i + k)
  have h2 : co o (i + k) + co f i * co g k = mulI f g i (k + 1) (i + k) := by
    rw [h]
    unfold mulI
    rw [if_neg (by omega), if_pos (by omega), show i + k - i = k by omega]; omega
  rw [h2]; exact h1
theorem getD_bd {F : List Int} {N : Nat} (h : ∀ x ∈ F, x.natAbs ≤ N) (i : Nat) : (F.getD i 0).natAbs ≤ N := by
  simp only [List.getD]
  cases he : F[i]? with
  | none => simp
  | some x => exact h x (List.mem_of_getElem? he)
theorem tdiv_bd (a b : Int) : (a.tdiv b).natAbs ≤ a.natAbs := by rw [Int.natAbs_tdiv]; exact Nat.div_le_self _ _
theorem trim_bd {F G : List Int} {N : Nat} (e : G = trimZ F) (h : ∀ x ∈ F, x.natAbs ≤ N) : ∀ x ∈ G, x.natAbs ≤ N := fun x hx => by rw [e] at hx; exact h x (trimB_mem isZI F hx)
theorem nrm_trim_le {F G : List Int} (e : G = trimZ F) : nrm G = nrm F := by rw [e, nrm_trim]
theorem mul_nil {f g : List Int} (h : trimZ f = [] ∨ trimZ g = []) : [] = trimZ (pmul f g) := by
  have : P (pmul f g) = P [] := by
    rw [P_mul, P_nil]
    rcases h with h | h
    · rw [← P_trim f, h, P_nil, zero_qmul]
    · rw [← P_trim g, h, P_nil, qmul_zero]
  have := P_inj this
  rw [this]; rfl
theorem getD_extI {a b : List Int} (hl : a.length = b.length) (h : ∀ j, j < a.length → a.getD j 0 = b.getD j 0) : a = b := by
  apply List.ext_getElem hl
  intro i h1 h2
  have := h i h1
  simpa [List.getD, h1, h2] using this
theorem zgetD_downI {l : List Int} {k : Nat} (h : ∀ j, k ≤ j → l.getD j 0 = 0) (h1 : l.getD (k - 1) 0 = 0) : ∀ j, k - 1 ≤ j → l.getD j 0 = 0 := fun j hj => by
  rcases Nat.lt_or_ge j k with hl | hl
  · rw [show j = k - 1 by omega]; exact h1
  · exact h j hl
theorem gcd_step11 {x y G : Nat} (h : Nat.gcd x y = G) : Nat.gcd y (x % y) = G := by rw [← h, Nat.gcd_comm y, ← Nat.gcd_rec, Nat.gcd_comm]
theorem gcd_done {x y G : Nat} (h : Nat.gcd x y = G) (hy : y = 0) : (x : Int) = (G : Int) := by rw [← h, hy, Nat.gcd_zero_right]
theorem cont_step11 {F : List Int} {i u : Nat} {r : Int} (hi : i < F.length) (hu : u = contP (F.take i)) (hr : r = (Nat.gcd ((u : Nat) : Int).natAbs (F.getD i 0).natAbs : Int)) : r = ((contP (F.take (i + 1)) : Nat) : Int) := by
  rw [hr, contP_next hi, hu, Int.natAbs_natCast]
theorem prim_sign {xf F : List Int} {u i : Nat} (hF : F = trimZ xf) (hu : u = contP (F.take i)) (hi : F.length ≤ i) (h0 : F.length ≠ 0) : primC xf = if F.getD (F.length - 1) 0 < 0 then -(u : Int) else (u : Int) := by
  unfold primC
  have hne : trimZ xf ≠ [] := fun e => h0 (by rw [hF, e]; rfl)
  rw [ld_last hne, ← hF, hu, List.take_of_length_le hi, hF, contP_trim]
theorem prim_u0 {xf F : List Int} (hF : F = trimZ xf) (h0 : F.length ≠ 0) : primC xf ≠ 0 := primC_ne (fun e => h0 (by rw [hF, ld_zero e]; rfl))
theorem prim_nil {xf F : List Int} (hF : F = trimZ xf) (h0 : F.length = 0) : 0 = primC xf ∧ [] = primP xf := by
  have h1 : trimZ xf = [] := by rw [← hF]; exact List.eq_nil_of_length_eq_zero h0
  have hl : ldP xf = 0 := by unfold ldP; rw [h1]; rfl
  refine ⟨?_, by unfold primP; rw [h1]; rfl⟩
  have : contP xf = 0 := by rw [← contP_trim, h1]; rfl
  have := primC_abs xf
  omega
theorem prim_out {xf F : List Int} {U : Int} {i n : Nat} (hF : F = trimZ xf) (hU : U = primC xf) (hi : F.length ≤ i) (hn : n = F.length) : (F.take i).map (fun x : Int => x.tdiv U) ++ List.replicate (n - i) 0 = primP xf := by
  rw [show n - i = 0 by omega, List.replicate_zero, List.append_nil, List.take_of_length_le hi, hU, hF]; rfl
theorem prim_rng {xf : List Int} {N : Nat} (h : ∀ x ∈ xf, x.natAbs ≤ N) (hN : N ≤ 1000000) : ∀ x ∈ primP xf, -9223372036854775808 ≤ x ∧ x ≤ 9223372036854775807 := fun x hx => by
  unfold primP at hx
  obtain ⟨y, hy, rfl⟩ := List.mem_map.1 hx
  have h1 := h y (trimB_mem isZI xf hy)
  have h2 := tdiv_bd y (primC xf)
  omega
theorem sq_bd {s : Int} (h : 0 ≤ s ∧ s ≤ 32) : 0 ≤ s * s ∧ s * s ≤ 1024 := by
  obtain ⟨n, rfl⟩ := Int.eq_ofNat_of_zero_le h.1
  have h1 : n ≤ 32 := by omega
  have h2 : n * n ≤ 32 * 32 := Nat.mul_le_mul h1 h1
  rw [← Int.natCast_mul]
  omega
theorem mul9 {a b : Int} (ha : a.natAbs ≤ 9) (hb : b.natAbs ≤ 9) : (a * b).natAbs ≤ 81 := by rw [Int.natAbs_mul]; exact Nat.mul_le_mul ha hb
theorem mul36 {a b : Int} (ha : a.natAbs ≤ 9) (hb : b.natAbs ≤ 9) : (4 * a * b).natAbs ≤ 324 := by
  rw [Int.mul_assoc, Int.natAbs_mul]; exact Nat.mul_le_mul_left 4 (mul9 ha hb)
theorem root_split {g : List Int} {s : Int} (h : s * s = g.getD 1 0 * g.getD 1 0 - 4 * g.getD 2 0 * g.getD 0 0) (hs : 0 ≤ s ∧ s ≤ 32) (hb : ∀ x ∈ g, x.natAbs ≤ 9) : s ≤ 21 := by
  have h1 := mul9 (getD_bd hb 1) (getD_bd hb 1)
  have h2 := mul36 (getD_bd hb 2) (getD_bd hb 0)
  apply Classical.byContradiction
  intro hx
  have : 22 * 22 ≤ s * s := Int.mul_le_mul (by omega) (by omega) (by omega) hs.1
  omega
theorem prim_bd9 {xf g : List Int} (e : g = primP xf) (h : ∀ x ∈ xf, x.natAbs ≤ 9) : ∀ x ∈ g, x.natAbs ≤ 9 := fun x hx => by
  rw [e] at hx
  unfold primP at hx
  obtain ⟨y, hy, rfl⟩ := List.mem_map.1 hx
  exact Nat.le_trans (tdiv_bd _ _) (h y (trimB_mem isZI xf hy))
end Go.Gx
namespace Go.Gx
theorem rngD {xs : List Int} (h : ∀ x ∈ xs, -9223372036854775808 ≤ x ∧ x ≤ 9223372036854775807) (i : Nat) : -9223372036854775808 ≤ xs.getD i 0 ∧ xs.getD i 0 ≤ 9223372036854775807 := by
  rcases Nat.lt_or_ge i xs.length with hi | hi
  · simp only [List.getD, List.getElem?_eq_getElem hi, Option.getD_some]; exact h _ (List.getElem_mem hi)
  · simp [List.getD, List.getElem?_eq_none hi]
end Go.Gx
