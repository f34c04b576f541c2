/-
  Values of polynomials at fractions. Plain numbers; no program in sight.
-/
import Derived.Test.YteiagkehhlpidaaRatMath
import Derived.Test.YteiagkehhlpidaaPolyMath2
namespace Go.Gx
def evQ : List Int → Rat → Rat
  | [], _ => 0
  | a :: l, q => (a : Rat) + q * evQ l q
def evZ (n d : Int) : List Int → Int
  | [] => 0
  | a :: l => a * d ^ l.length + n * evZ n d l
def rv (z : Int) (v : Nat) : Rat := (rnum z v : Rat) / ((rden v : Int) : Rat)
theorem cast_pow (d : Int) (k : Nat) : ((d ^ k : Int) : Rat) = (d : Rat) ^ k := by
  induction k with
  | zero => simp
  | succ k ih => rw [Int.pow_succ, Rat.intCast_mul, ih, Rat.pow_succ]
theorem evZ_Q {n d : Int} {q : Rat} (hq : q * (d : Rat) = (n : Rat)) : ∀ l, ((evZ n d l : Int) : Rat) * (d : Rat) = evQ l q * (d : Rat) ^ l.length
  | [] => by simp [evZ, evQ]
  | a :: l => by
    have ih := evZ_Q hq l
    simp only [evZ, evQ, List.length_cons, Rat.intCast_add, Rat.intCast_mul, cast_pow, Rat.pow_succ]
    grind
theorem cast_ne {d : Int} (h : d ≠ 0) : (d : Rat) ≠ 0 := fun e => h (Rat.intCast_inj.1 (by rw [e]; rfl))
theorem evQ_head (f : List Int) (q : Rat) : evQ f q = ((co f 0 : Int) : Rat) + q * evQ f.tail q := by
  cases f with
  | nil => simp [evQ, co]; grind
  | cons a l => simp [evQ, co]
theorem co_tail (f : List Int) (i : Nat) : co f.tail i = co f (i + 1) := by cases f <;> simp [co]
theorem evQ_ext (q : Rat) : ∀ (n : Nat) (f g : List Int), f.length + g.length ≤ n → (∀ i, co f i = co g i) → evQ f q = evQ g q
  | 0, f, g, hn, _ => by
    have h1 : f = [] := List.eq_nil_of_length_eq_zero (by omega)
    have h2 : g = [] := List.eq_nil_of_length_eq_zero (by omega)
    rw [h1, h2]
  | n + 1, f, g, hn, h => by
    rcases Nat.eq_zero_or_pos (f.length + g.length) with h0 | h0
    · have h1 : f = [] := List.eq_nil_of_length_eq_zero (by omega)
      have h2 : g = [] := List.eq_nil_of_length_eq_zero (by omega)
      rw [h1, h2]
    · rw [evQ_head f, evQ_head g, h 0, evQ_ext q n f.tail g.tail (by simp; omega) (fun i => by rw [co_tail, co_tail]; exact h (i + 1))]
theorem evQ_congr {f g : List Int} (q : Rat) (h : ∀ i, co f i = co g i) : evQ f q = evQ g q := evQ_ext q _ f g (Nat.le_refl _) h
theorem evQ_trim (f : List Int) (q : Rat) : evQ (trimZ f) q = evQ f q := evQ_congr q fun i => co_trim f i
theorem evQ_padd (q : Rat) : ∀ f g : List Int, evQ (padd f g) q = evQ f q + evQ g q
  | [], g => by rw [evQ_congr q (g := g) (fun i => by rw [co_padd]; simp [co])]; simp [evQ]; grind
  | a :: f, [] => by rw [evQ_congr q (g := a :: f) (fun i => by rw [co_padd]; simp [co])]; simp [evQ]; grind
  | a :: f, b :: g => by
    rw [evQ_congr q (g := (a + b) :: padd f g) (fun i => by
      rw [co_padd]
      cases i with
      | zero => simp [co]
      | succ i =>
        have := co_padd f g i
        simp only [co, List.getD_cons_succ] at this ⊢
        omega)]
    simp only [evQ, evQ_padd q f g, Rat.intCast_add]
    grind
theorem evQ_scale (q : Rat) (c : Int) : ∀ f : List Int, evQ (scaleP f c) q = (c : Rat) * evQ f q
  | [] => by simp [scaleP, evQ]
  | a :: f => by
    have ih := evQ_scale q c f
    simp only [scaleP, List.map_cons, evQ, Rat.intCast_mul] at ih ⊢
    rw [ih]
    grind
theorem co_pmul_cons (a : Int) (f g : List Int) (k : Nat) : co (pmul (a :: f) g) k = co (padd (scaleP g a) (0 :: pmul f g)) k := by
  rw [co_pmul, co_padd, co_scaleP]
  unfold conv convF
  rw [rsum_head]
  cases k with
  | zero => simp [rsum, co, Int.mul_comm]
  | succ k =>
    have e1 : co (0 :: pmul f g) (k + 1) = conv f g k := by rw [← co_pmul]; simp [co]
    rw [e1]
    unfold conv convF
    have e2 : rsum (fun i => co (a :: f) (i + 1) * co g (k + 1 - (i + 1))) (k + 1) = rsum (fun i => co f i * co g (k - i)) (k + 1) := rsum_congr fun i _ => by simp [co]
    rw [e2]
    simp [co, Int.mul_comm]
theorem evQ_pmul (q : Rat) : ∀ f g : List Int, evQ (pmul f g) q = evQ f q * evQ g q
  | [], g => by simp [pmul, evQ]
  | a :: f, g => by
    rw [evQ_congr q (co_pmul_cons a f g), evQ_padd, evQ_scale]
    simp only [evQ, evQ_pmul q f g]
    simp
    grind
theorem evQ_phorn (q : Rat) (g : List Int) : ∀ f : List Int, evQ (phorn g f) q = evQ f (evQ g q)
  | [] => rfl
  | a :: f => by
    show evQ (padd (pmul (phorn g f) g) [a]) q = _
    rw [evQ_padd, evQ_pmul, evQ_phorn q g f]
    simp only [evQ]
    grind
/-! how the walk of a value comes out -/
theorem evZ_step {n d v : Int} {F : List Int} {k : Nat} (hk : 0 < k) (hl : k ≤ F.length) (hv : v = evZ n d (F.drop k)) : v * n + co F (k - 1) * d ^ (F.length - 1 - (k - 1)) = evZ n d (F.drop (k - 1)) := by
  rw [List.drop_eq_getElem_cons (show k - 1 < F.length by omega), show k - 1 + 1 = k by omega]
  simp only [evZ, ← hv, List.length_drop]
  rw [show F.length - 1 - (k - 1) = F.length - k by omega]
  have : co F (k - 1) = F[k - 1] := by simp [co, List.getD, show k - 1 < F.length by omega]
  rw [this, Int.mul_comm v n]
  omega
theorem pow_keep {d : Int} {N k : Nat} (hk : k = N) : d ^ (N - 1 - k) = d ^ (N - 1 - (k - 1)) := by congr 1; omega
theorem pow_more {d : Int} {N k : Nat} (hk : 0 < k) (hN : k < N) : d ^ (N - 1 - k) * d = d ^ (N - 1 - (k - 1)) := by rw [← Int.pow_succ]; congr 1; omega
theorem rv_mul {z : Int} {v : Nat} {n d : Int} (h : n * (rden v : Int) = rnum z v * d) (hd : 0 < d) : rv z v * (d : Rat) = (n : Rat) := by
  have h1 : (n : Rat) * ((rden v : Int) : Rat) = (rnum z v : Rat) * (d : Rat) := by rw [← Rat.intCast_mul, ← Rat.intCast_mul, h]
  have h2 : ((rden v : Int) : Rat) ≠ 0 := cast_ne (by have := rden_pos v; omega)
  unfold rv
  grind
theorem scaled_end {n d v p : Int} {F : List Int} {q : Rat} (hq : q * (d : Rat) = (n : Rat)) (hd : 0 < d) (hv : v = evZ n d F) (hp : p = d ^ (F.length - 1)) : (v : Rat) = evQ F q * (p : Rat) ∧ 0 < p := by
  have h1 := evZ_Q hq F
  have h2 := cast_ne (show d ≠ 0 by omega)
  refine ⟨?_, by rw [hp]; exact Int.pow_pos hd⟩
  rw [hv, hp, cast_pow]
  cases F with
  | nil => simp [evZ, evQ]
  | cons a l =>
    simp only [List.length_cons, Nat.add_sub_cancel, Rat.pow_succ] at h1 ⊢
    grind
theorem evalrat_end {v p r : Int} {dr : Nat} {e : Rat} (h : (v : Rat) = e * (p : Rat)) (hp : 0 < p) (hx : r * p = v * (dr : Int)) (hd : 0 < dr) : rv r dr = e := by
  unfold rv
  rw [rnum_of hd, rden_of hd]
  have h1 : (r : Rat) * (p : Rat) = (v : Rat) * ((dr : Int) : Rat) := by rw [← Rat.intCast_mul, ← Rat.intCast_mul, hx]
  have h2 := cast_ne (show p ≠ 0 by omega)
  have h3 := cast_ne (show (dr : Int) ≠ 0 by omega)
  grind
end Go.Gx
