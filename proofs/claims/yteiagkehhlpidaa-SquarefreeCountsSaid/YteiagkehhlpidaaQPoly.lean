/-
  Polynomials with rational coefficients: degrees, divisibility, division with rest, common divisors. Plain numbers; no program in sight.
-/
import Derived.Test.YteiagkehhlpidaaInvMath
import Derived.Test.YteiagkehhlpidaaSqMath2
namespace Go.Gx
/-- A polynomial function. -/
structure QP where
  v : Rat → Rat
  p : ∃ (c : Int) (l : List Int), c ≠ 0 ∧ ∀ x, (c : Rat) * v x = evQ l x
theorem QP.eq {f g : QP} (h : ∀ x, f.v x = g.v x) : f = g := by
  cases f; cases g
  simp only [QP.mk.injEq]
  exact funext h
theorem one_cast : ((1 : Int) : Rat) = 1 := rfl
theorem zero_cast : ((0 : Int) : Rat) = 0 := rfl
/-- The polynomial with these coefficients. -/
def P (l : List Int) : QP := ⟨evQ l, 1, l, by decide, fun x => by rw [one_cast]; grind⟩
instance : Add QP := ⟨fun f g => ⟨fun x => f.v x + g.v x, by
  obtain ⟨c, l, hc, h⟩ := f.p
  obtain ⟨d, m, hd, k⟩ := g.p
  exact ⟨c * d, padd (scaleP l d) (scaleP m c), Int.mul_ne_zero hc hd, fun x => by rw [evQ_padd, evQ_scale, evQ_scale, ← h, ← k, Rat.intCast_mul]; grind⟩⟩⟩
instance : Neg QP := ⟨fun f => ⟨fun x => - f.v x, by
  obtain ⟨c, l, hc, h⟩ := f.p
  exact ⟨-c, l, by omega, fun x => by rw [← h, Rat.intCast_neg]; grind⟩⟩⟩
instance : Sub QP := ⟨fun f g => ⟨fun x => f.v x - g.v x, by
  obtain ⟨c, l, hc, h⟩ := f.p
  obtain ⟨d, m, hd, k⟩ := g.p
  exact ⟨c * d, psub (scaleP l d) (scaleP m c), Int.mul_ne_zero hc hd, fun x => by rw [evQ_psub, evQ_scale, evQ_scale, ← h, ← k, Rat.intCast_mul]; grind⟩⟩⟩
instance : Mul QP := ⟨fun f g => ⟨fun x => f.v x * g.v x, by
  obtain ⟨c, l, hc, h⟩ := f.p
  obtain ⟨d, m, hd, k⟩ := g.p
  exact ⟨c * d, pmul l m, Int.mul_ne_zero hc hd, fun x => by rw [evQ_pmul, ← h, ← k, Rat.intCast_mul]; grind⟩⟩⟩
theorem den_ne (r : Rat) : ((r.den : Int) : Rat) ≠ 0 := cast_ne (by have := r.den_nz; omega)
theorem den_mul (r : Rat) : ((r.den : Int) : Rat) * r = (r.num : Rat) := by
  have h : (r.num : Rat) / ((r.den : Int) : Rat) = r := by
    rw [← Rat.divInt_eq_div]; exact Rat.num_divInt_den r
  have := den_ne r
  grind
/-- A constant. -/
def K (r : Rat) : QP := ⟨fun _ => r, r.den, [r.num], by have := r.den_nz; omega, fun x => by rw [den_mul]; simp only [evQ]; grind⟩
instance : OfNat QP 0 := ⟨K 0⟩
instance : OfNat QP 1 := ⟨K 1⟩
theorem pow_ne {a : Rat} (h : a ≠ 0) : ∀ n : Nat, a ^ n ≠ 0
  | 0 => by rw [Rat.pow_zero]; decide
  | n + 1 => by rw [Rat.pow_succ]; exact fun e => (Rat.mul_eq_zero.1 e).elim (pow_ne h n) h
theorem rat_mul_pow (a b : Rat) : ∀ n : Nat, (a * b) ^ n = a ^ n * b ^ n
  | 0 => by simp only [Rat.pow_zero]; grind
  | n + 1 => by simp only [Rat.pow_succ, rat_mul_pow a b n]; grind
theorem rat_pow_add (a : Rat) (m : Nat) : ∀ n : Nat, a ^ (m + n) = a ^ m * a ^ n
  | 0 => by simp only [Rat.pow_zero, Nat.add_zero]; grind
  | n + 1 => by rw [← Nat.add_assoc]; simp only [Rat.pow_succ, rat_pow_add a m n]; grind
instance : HPow QP Nat QP := ⟨fun f n => ⟨fun x => f.v x ^ n, by
  obtain ⟨c, l, hc, h⟩ := f.p
  refine ⟨c ^ n, ppow l n, Int.pow_ne_zero hc, fun x => ?_⟩
  rw [evQ_ppow, ← h, rat_mul_pow, cast_pow]⟩⟩
theorem v_add (f g : QP) (x : Rat) : (f + g).v x = f.v x + g.v x := rfl
theorem v_sub (f g : QP) (x : Rat) : (f - g).v x = f.v x - g.v x := rfl
theorem v_neg (f : QP) (x : Rat) : (-f).v x = - f.v x := rfl
theorem v_mul (f g : QP) (x : Rat) : (f * g).v x = f.v x * g.v x := rfl
theorem v_pow (f : QP) (n : Nat) (x : Rat) : (f ^ n).v x = f.v x ^ n := rfl
theorem v_K (r x : Rat) : (K r).v x = r := rfl
theorem v_0 (x : Rat) : (0 : QP).v x = 0 := rfl
theorem v_1 (x : Rat) : (1 : QP).v x = 1 := rfl
theorem v_P (l : List Int) (x : Rat) : (P l).v x = evQ l x := rfl
theorem qat {f g : QP} (h : f = g) (x : Rat) : f.v x = g.v x := by rw [h]
theorem P_mul (f g : List Int) : P (pmul f g) = P f * P g := QP.eq fun x => evQ_pmul x f g
theorem P_add (f g : List Int) : P (padd f g) = P f + P g := QP.eq fun x => evQ_padd x f g
theorem P_sub (f g : List Int) : P (psub f g) = P f - P g := QP.eq fun x => evQ_psub x f g
theorem P_scale (f : List Int) (c : Int) : P (scaleP f c) = K c * P f := QP.eq fun x => evQ_scale x c f
theorem P_trim (f : List Int) : P (trimZ f) = P f := QP.eq fun x => evQ_trim f x
theorem P_pow (f : List Int) (n : Nat) : P (ppow f n) = P f ^ n := QP.eq fun x => evQ_ppow f x n
theorem P_nil : P [] = 0 := QP.eq fun _ => rfl
theorem P_congr {f g : List Int} (h : ∀ i, co f i = co g i) : P f = P g := QP.eq fun x => evQ_congr x h
theorem P_inj {f g : List Int} (h : P f = P g) : trimZ f = trimZ g := poly_eq fun x => qat h (x : Rat)
theorem P_co {f g : List Int} (h : P f = P g) (i : Nat) : co f i = co g i := by rw [← co_trim f, ← co_trim g, P_inj h]
/-! lengths -/
theorem tlen_spec (l : List Int) : (∀ i, (trimZ l).length ≤ i → co l i = 0) ∧ ((trimZ l).length = 0 ∨ co l ((trimZ l).length - 1) ≠ 0) := by
  refine ⟨fun i hi => ?_, ?_⟩
  · rw [← co_trim]; exact co_ge hi
  · rcases Nat.eq_zero_or_pos (trimZ l).length with h | h
    · exact .inl h
    · right; rw [← co_trim]; exact canon_last (f := trimZ l) (canon_trim isZI l) (by omega)
theorem tlen_of {l : List Int} {n : Nat} (hz : ∀ i, n ≤ i → co l i = 0) (hn : n = 0 ∨ co l (n - 1) ≠ 0) : (trimZ l).length = n := by
  have ⟨a, b⟩ := tlen_spec l
  rcases Nat.lt_trichotomy (trimZ l).length n with h | h | h
  · exact absurd (a (n - 1) (by omega)) (hn.resolve_left (by omega))
  · exact h
  · exact absurd (hz _ (by omega)) (b.resolve_left (by omega))
theorem tlen_scale (l : List Int) {c : Int} (hc : c ≠ 0) : (trimZ (scaleP l c)).length = (trimZ l).length := by
  have ⟨a, b⟩ := tlen_spec l
  refine tlen_of (fun i hi => by rw [co_scaleP, a i hi, Int.zero_mul]) (b.imp id fun h => ?_)
  rw [co_scaleP]; exact Int.mul_ne_zero h hc
theorem co_top {f g : List Int} {m n : Nat} (hf : ∀ i, m < i → co f i = 0) (hg : ∀ i, n < i → co g i = 0) : co (pmul f g) (m + n) = co f m * co g n ∧ ∀ i, m + n < i → co (pmul f g) i = 0 := by
  constructor
  · rw [co_pmul]
    unfold conv convF
    rw [rsum_more (n := m + 1) (by omega) (fun i h1 h2 => by rw [hf i (by omega), Int.zero_mul]), rsum_succ, rsum_zero (fun i hi => by rw [hg (m + n - i) (by omega), Int.mul_zero]), show m + n - m = n by omega, Int.zero_add]
  · intro i hi
    rw [co_pmul]
    refine rsum_zero fun j hj => ?_
    rcases Nat.lt_or_ge m j with h | h
    · rw [hf j h, Int.zero_mul]
    · rw [hg (i - j) (by omega), Int.mul_zero]
theorem tlen_mul {f g : List Int} (hf : (trimZ f).length ≠ 0) (hg : (trimZ g).length ≠ 0) : (trimZ (pmul f g)).length + 1 = (trimZ f).length + (trimZ g).length := by
  have ⟨a, b⟩ := tlen_spec f
  have ⟨c, d⟩ := tlen_spec g
  have ⟨t1, t2⟩ := co_top (f := f) (g := g) (m := (trimZ f).length - 1) (n := (trimZ g).length - 1) (fun i hi => a i (by omega)) (fun i hi => c i (by omega))
  have := tlen_of (l := pmul f g) (n := (trimZ f).length + (trimZ g).length - 1) (fun i hi => t2 i (by omega)) (.inr (by
    rw [show (trimZ f).length + (trimZ g).length - 1 - 1 = (trimZ f).length - 1 + ((trimZ g).length - 1) by omega, t1]
    exact Int.mul_ne_zero (b.resolve_left hf) (d.resolve_left hg)))
  omega
/-- The degree and one more; 0 for 0. -/
noncomputable def dg (f : QP) : Nat := (trimZ (Classical.choose (Classical.choose_spec f.p))).length
theorem dg_eq {f : QP} {c : Int} {l : List Int} (hc : c ≠ 0) (h : ∀ x, (c : Rat) * f.v x = evQ l x) : dg f = (trimZ l).length := by
  have h2 := Classical.choose_spec (Classical.choose_spec f.p)
  revert h2
  unfold dg
  generalize Classical.choose (Classical.choose_spec f.p) = m
  generalize Classical.choose f.p = d
  intro ⟨hd, h2⟩
  have : trimZ (scaleP m c) = trimZ (scaleP l d) := poly_eq fun x => by rw [evQ_scale, evQ_scale, ← h, ← h2]; grind
  rw [← tlen_scale m hc, this, tlen_scale l hd]
theorem dg_P (l : List Int) : dg (P l) = (trimZ l).length := dg_eq (c := 1) (by decide) fun x => by rw [one_cast]; simp only [v_P]; grind
theorem dg_rep (f : QP) : ∃ (c : Int) (l : List Int), c ≠ 0 ∧ K c * f = P l ∧ dg f = (trimZ l).length := by
  obtain ⟨c, l, hc, h⟩ := f.p
  exact ⟨c, l, hc, QP.eq h, dg_eq hc h⟩
theorem K_ne {r : Rat} (h : r ≠ 0) : K r ≠ 0 := fun e => h (qat e 0)
theorem dg_zero {f : QP} : dg f = 0 ↔ f = 0 := by
  obtain ⟨c, l, hc, h, hd⟩ := dg_rep f
  constructor
  · intro h0
    rw [h0] at hd
    have hl : trimZ l = [] := List.eq_nil_of_length_eq_zero hd.symm
    refine QP.eq fun x => ?_
    have h1 := qat h x
    rw [← P_trim, hl, P_nil] at h1
    simp only [v_mul, v_K, v_0] at h1 ⊢
    exact (Rat.mul_eq_zero.1 h1).resolve_left (cast_ne hc)
  · rintro rfl
    have : P l = P [] := by rw [← h, P_nil]; refine QP.eq fun x => ?_; simp only [v_mul, v_0]; grind
    rw [hd, P_inj this]; rfl
theorem dg_pos {f : QP} : f ≠ 0 ↔ 0 < dg f := by
  constructor
  · intro h; rcases Nat.eq_zero_or_pos (dg f) with h0 | h0
    · exact absurd (dg_zero.1 h0) h
    · exact h0
  · intro h e; rw [dg_zero.2 e] at h; omega
theorem dg_mul {f g : QP} (hf : f ≠ 0) (hg : g ≠ 0) : dg (f * g) + 1 = dg f + dg g := by
  obtain ⟨c, l, hc, h, hd⟩ := dg_rep f
  obtain ⟨d, m, hd', k, hk⟩ := dg_rep g
  have : dg (f * g) = (trimZ (pmul l m)).length := dg_eq (c := c * d) (Int.mul_ne_zero hc hd') fun x => by
    rw [evQ_pmul]
    have h1 := qat h x
    have h2 := qat k x
    simp only [v_mul, v_K, v_P] at h1 h2 ⊢
    rw [← h1, ← h2, Rat.intCast_mul]; grind
  rw [this, hd, hk]
  have h1 := dg_pos.1 hf
  have h2 := dg_pos.1 hg
  exact tlen_mul (by omega) (by omega)
theorem qp_dom {f g : QP} (h : f * g = 0) : f = 0 ∨ g = 0 := by
  by_cases hf : f = 0
  · exact .inl hf
  · by_cases hg : g = 0
    · exact .inr hg
    · have h1 := dg_mul hf hg
      have h2 := dg_pos.1 hf
      have h3 := dg_pos.1 hg
      rw [h, dg_zero.2 rfl] at h1
      omega
theorem qp_mul_ne {f g : QP} (hf : f ≠ 0) (hg : g ≠ 0) : f * g ≠ 0 := fun h => (qp_dom h).elim hf hg
theorem qp_cancel {f g h : QP} (hh : h ≠ 0) (e : f * h = g * h) : f = g := by
  have : (f - g) * h = 0 := QP.eq fun x => by have := qat e x; simp only [v_mul, v_sub, v_0] at this ⊢; grind
  have := (qp_dom this).resolve_right hh
  exact QP.eq fun x => by have := qat this x; simp only [v_sub, v_0] at this; grind
theorem qp_pow_ne {f : QP} (hf : f ≠ 0) : ∀ n : Nat, f ^ n ≠ 0
  | 0 => by
    have : f ^ 0 = 1 := QP.eq fun x => by rw [v_pow, v_1, Rat.pow_zero]
    rw [this]; exact K_ne (by decide)
  | n + 1 => by
    have : f ^ (n + 1) = f ^ n * f := QP.eq fun x => by rw [v_pow, v_mul, v_pow, Rat.pow_succ]
    rw [this]; exact qp_mul_ne (qp_pow_ne hf n) hf
theorem qp_pow_add (f : QP) (m n : Nat) : f ^ (m + n) = f ^ m * f ^ n := QP.eq fun x => by simp only [v_pow, v_mul, rat_pow_add]
theorem qp_pow_succ (f : QP) (n : Nat) : f ^ (n + 1) = f ^ n * f := QP.eq fun x => by rw [v_pow, v_mul, v_pow, Rat.pow_succ]
theorem qp_pow_zero (f : QP) : f ^ 0 = 1 := QP.eq fun x => by rw [v_pow, v_1, Rat.pow_zero]
instance : Dvd QP := ⟨fun g f => ∃ q, f = q * g⟩
theorem dg_add (f g : QP) : dg (f + g) ≤ max (dg f) (dg g) := by
  obtain ⟨c, l, hc, h, hd⟩ := dg_rep f
  obtain ⟨d, m, hd', k, hk⟩ := dg_rep g
  have : dg (f + g) = (trimZ (padd (scaleP l d) (scaleP m c))).length := dg_eq (c := c * d) (Int.mul_ne_zero hc hd') fun x => by
    rw [evQ_padd, evQ_scale, evQ_scale]
    have h1 := qat h x
    have h2 := qat k x
    simp only [v_mul, v_K, v_P, v_add] at h1 h2 ⊢
    rw [← h1, ← h2, Rat.intCast_mul]; grind
  rw [this, hd, hk]
  have ⟨a, _⟩ := tlen_spec l
  have ⟨a', _⟩ := tlen_spec m
  have ⟨_, b⟩ := tlen_spec (padd (scaleP l d) (scaleP m c))
  rcases b with b | b
  · omega
  · apply Classical.byContradiction
    intro hn
    apply b
    rw [co_padd, co_scaleP, co_scaleP, a _ (by omega), a' _ (by omega)]; simp
theorem dg_K {r : Rat} (h : r ≠ 0) : dg (K r) = 1 := by
  have : dg (K r) = (trimZ [r.num]).length := dg_eq (c := r.den) (by have := r.den_nz; omega) fun x => by rw [v_K, den_mul]; simp only [evQ]; grind
  rw [this]
  refine tlen_of (fun i hi => co_ge (by simpa using hi)) (.inr ?_)
  simp [co]
  exact h
theorem dg_Kmul {r : Rat} (h : r ≠ 0) (f : QP) : dg (K r * f) = dg f := by
  by_cases hf : f = 0
  · subst hf
    have : K r * 0 = 0 := QP.eq fun x => by simp only [v_mul, v_0]; grind
    rw [this]
  · have := dg_mul (K_ne h) hf
    rw [dg_K h] at this
    omega
theorem dg_neg (f : QP) : dg (-f) = dg f := by
  have : -f = K (-1) * f := QP.eq fun x => by simp only [v_neg, v_mul, v_K]; grind
  rw [this, dg_Kmul (by decide)]
theorem dg_sub (f g : QP) : dg (f - g) ≤ max (dg f) (dg g) := by
  have : f - g = f + -g := QP.eq fun x => by simp only [v_sub, v_add, v_neg]; grind
  rw [this]
  have := dg_add f (-g)
  rwa [dg_neg] at this
theorem dg_one {f : QP} (h : dg f ≤ 1) : ∃ r, f = K r := by
  obtain ⟨c, l, hc, e, hd⟩ := dg_rep f
  have : P l = P [co l 0] := P_congr fun i => by
    cases i with
    | zero => simp [co]
    | succ i => rw [(tlen_spec l).1 (i + 1) (by omega)]; simp [co]
  refine ⟨(co l 0 : Rat) / (c : Rat), QP.eq fun x => ?_⟩
  rw [this] at e
  have h1 := qat e x
  have h2 := cast_ne hc
  simp only [v_mul, v_K, v_P, evQ] at h1 ⊢
  grind
/-! division with rest -/
theorem dvd_small {f g : QP} (h : g ∣ f) (hd : dg f < dg g) : f = 0 := by
  obtain ⟨q, rfl⟩ := h
  by_cases hq : q = 0
  · subst hq; exact QP.eq fun x => by simp only [v_mul, v_0]; grind
  · have hg : g ≠ 0 := dg_pos.2 (by omega)
    have := dg_mul hq hg
    have := dg_pos.1 hq
    omega
theorem dvd_le {f g : QP} (h : g ∣ f) (hf : f ≠ 0) : dg g ≤ dg f := by
  apply Classical.byContradiction
  intro hn
  exact hf (dvd_small h (by omega))
theorem qp_step {f g : QP} (hg : g ≠ 0) (h : dg g ≤ dg f) : ∃ q, dg (f - q * g) < dg f := by
  obtain ⟨c, l, hc, e, hd⟩ := dg_rep f
  obtain ⟨d, m, hd', k, hk⟩ := dg_rep g
  have hg' := dg_pos.1 hg
  have ⟨a, b⟩ := tlen_spec l
  have ⟨a', b'⟩ := tlen_spec m
  replace b := b.resolve_left (by omega)
  replace b' := b'.resolve_left (by omega)
  have h1 := cast_ne hc
  have h2 := cast_ne hd'
  have h3 := cast_ne b'
  refine ⟨K (((co l ((trimZ l).length - 1) : Int) : Rat) * (d : Rat) / ((c : Rat) * ((co m ((trimZ m).length - 1) : Int) : Rat))) * P (List.replicate (dg f - dg g) 0 ++ [1]), ?_⟩
  have : dg (f - K (((co l ((trimZ l).length - 1) : Int) : Rat) * (d : Rat) / ((c : Rat) * ((co m ((trimZ m).length - 1) : Int) : Rat))) * P (List.replicate (dg f - dg g) 0 ++ [1]) * g) =
      (trimZ (psub (scaleP l (co m ((trimZ m).length - 1))) (scaleP (List.replicate (dg f - dg g) 0 ++ m) (co l ((trimZ l).length - 1))))).length :=
    dg_eq (c := c * co m ((trimZ m).length - 1)) (Int.mul_ne_zero hc b') fun x => by
      rw [evQ_psub, evQ_scale, evQ_scale, evQ_shift]
      have e1 := qat e x
      have e2 := qat k x
      simp only [v_mul, v_K, v_P, v_sub, evQ_shift] at e1 e2 ⊢
      rw [← e1, ← e2, Rat.intCast_mul]
      simp only [evQ, one_cast]
      grind
  rw [this]
  have hz : ∀ i, dg f - 1 ≤ i → co (psub (scaleP l (co m ((trimZ m).length - 1))) (scaleP (List.replicate (dg f - dg g) 0 ++ m) (co l ((trimZ l).length - 1)))) i = 0 := fun i hi => by
    rw [co_psub, co_scaleP, co_scaleP, cs_co]
    unfold cs
    rw [if_pos (by omega)]
    by_cases h4 : i = dg f - 1
    · rw [show i - (dg f - dg g) = (trimZ m).length - 1 by omega, show i = (trimZ l).length - 1 by omega, Int.mul_comm]; omega
    · rw [a i (by omega), a' (i - (dg f - dg g)) (by omega)]; simp
  have ⟨_, t⟩ := tlen_spec (psub (scaleP l (co m ((trimZ m).length - 1))) (scaleP (List.replicate (dg f - dg g) 0 ++ m) (co l ((trimZ l).length - 1))))
  rcases t with t | t
  · omega
  · apply Classical.byContradiction
    intro hn
    exact t (hz _ (by omega))
theorem divmod_ {g : QP} (hg : g ≠ 0) : ∀ (n : Nat) (f : QP), dg f ≤ n → ∃ q r, f = q * g + r ∧ dg r < dg g
  | 0, f, h => ⟨0, f, QP.eq fun x => by simp only [v_add, v_mul, v_0]; grind, by have := dg_pos.1 hg; omega⟩
  | n + 1, f, h => by
    rcases Nat.lt_or_ge (dg f) (dg g) with h1 | h1
    · exact ⟨0, f, QP.eq fun x => by simp only [v_add, v_mul, v_0]; grind, h1⟩
    · obtain ⟨q, hq⟩ := qp_step hg h1
      obtain ⟨q', r, e, hr⟩ := divmod_ hg n (f - q * g) (by omega)
      exact ⟨q + q', r, QP.eq fun x => by have := qat e x; simp only [v_add, v_mul, v_sub] at this ⊢; grind, hr⟩
theorem qp_divmod {g : QP} (hg : g ≠ 0) (f : QP) : ∃ q r, f = q * g + r ∧ dg r < dg g := divmod_ hg _ f (Nat.le_refl _)
theorem qdvd_refl (f : QP) : f ∣ f := ⟨1, QP.eq fun x => by simp only [v_mul, v_1]; grind⟩
theorem qdvd_zero (f : QP) : f ∣ 0 := ⟨0, QP.eq fun x => by simp only [v_mul, v_0]; grind⟩
theorem qdvd_trans {f g h : QP} : f ∣ g → g ∣ h → f ∣ h := by
  rintro ⟨q, rfl⟩ ⟨r, rfl⟩
  exact ⟨r * q, QP.eq fun x => by simp only [v_mul]; grind⟩
theorem qdvd_add {f g h : QP} : f ∣ g → f ∣ h → f ∣ g + h := by
  rintro ⟨q, rfl⟩ ⟨r, rfl⟩
  exact ⟨q + r, QP.eq fun x => by simp only [v_mul, v_add]; grind⟩
theorem qdvd_sub {f g h : QP} : f ∣ g → f ∣ h → f ∣ g - h := by
  rintro ⟨q, rfl⟩ ⟨r, rfl⟩
  exact ⟨q - r, QP.eq fun x => by simp only [v_mul, v_sub]; grind⟩
theorem qdvd_mulL {f g : QP} (h : QP) : f ∣ g → f ∣ h * g := by
  rintro ⟨q, rfl⟩
  exact ⟨h * q, QP.eq fun x => by simp only [v_mul]; grind⟩
theorem qdvd_mulR {f g : QP} (h : QP) : f ∣ g → f ∣ g * h := by
  rintro ⟨q, rfl⟩
  exact ⟨h * q, QP.eq fun x => by simp only [v_mul]; grind⟩
theorem qmul_comm (f g : QP) : f * g = g * f := QP.eq fun x => by simp only [v_mul]; grind
theorem qmul_assoc (f g h : QP) : f * g * h = f * (g * h) := QP.eq fun x => by simp only [v_mul]; grind
theorem qmul_mul {f g h k : QP} : f ∣ g → h ∣ k → f * h ∣ g * k := by
  rintro ⟨q, rfl⟩ ⟨r, rfl⟩
  exact ⟨q * r, QP.eq fun x => by simp only [v_mul]; grind⟩
theorem zero_qdvd {f : QP} : (0 : QP) ∣ f → f = 0 := by
  rintro ⟨q, rfl⟩
  exact QP.eq fun x => by simp only [v_mul, v_0]; grind
/-! the multiplicity of a factor -/
def Mul_ (f g : QP) (k : Nat) : Prop := ∃ r, f = r * g ^ k ∧ ¬ g ∣ r
theorem mul_le {f g : QP} {k m : Nat} (hg : g ≠ 0) (h : Mul_ f g k) : g ^ m ∣ f ↔ m ≤ k := by
  obtain ⟨r, rfl, hr⟩ := h
  constructor
  · rintro ⟨q, e⟩
    apply Classical.byContradiction
    intro hn
    obtain ⟨j, rfl⟩ : ∃ j, m = k + j + 1 := ⟨m - k - 1, by omega⟩
    apply hr
    refine ⟨q * g ^ j, qp_cancel (qp_pow_ne hg k) ?_⟩
    rw [e, qp_pow_succ, qp_pow_add]
    exact QP.eq fun x => by simp only [v_mul]; grind
  · intro hm
    obtain ⟨j, rfl⟩ : ∃ j, k = j + m := ⟨k - m, by omega⟩
    exact ⟨r * g ^ j, by rw [qp_pow_add]; exact QP.eq fun x => by simp only [v_mul]; grind⟩
theorem mul_unique {f g : QP} {k m : Nat} (hg : g ≠ 0) (h : Mul_ f g k) (h' : Mul_ f g m) : k = m := by
  have h1 := (mul_le (m := k) hg h').1 ((mul_le (m := k) hg h).2 (Nat.le_refl _))
  have h2 := (mul_le (m := m) hg h).1 ((mul_le (m := m) hg h').2 (Nat.le_refl _))
  omega
theorem mul_more {f g : QP} {k : Nat} (n : Nat) (h : Mul_ f g k) : Mul_ (f * g ^ n) g (k + n) := by
  obtain ⟨r, rfl, hr⟩ := h
  exact ⟨r, by rw [qp_pow_add]; exact qmul_assoc _ _ _, hr⟩
theorem dvd_K {f g : QP} {r : Rat} (hr : r ≠ 0) : (g ∣ K r * f) ↔ g ∣ f := by
  constructor
  · rintro ⟨q, e⟩
    exact ⟨K (1 / r) * q, QP.eq fun x => by have := qat e x; simp only [v_mul, v_K] at this ⊢; grind⟩
  · exact qdvd_mulL _
theorem K_dvd {f g : QP} {r : Rat} (hr : r ≠ 0) : (K r * g ∣ f) ↔ g ∣ f := by
  constructor
  · rintro ⟨q, rfl⟩
    exact ⟨q * K r, QP.eq fun x => by simp only [v_mul, v_K]; grind⟩
  · rintro ⟨q, rfl⟩
    exact ⟨K (1 / r) * q, QP.eq fun x => by simp only [v_mul, v_K]; grind⟩
theorem mul_assocd {f g : QP} {k : Nat} {r s : Rat} (hr : r ≠ 0) (hs : s ≠ 0) (h : Mul_ f g k) : Mul_ (K r * f) (K s * g) k := by
  obtain ⟨q, rfl, hq⟩ := h
  have hp := pow_ne hs k
  refine ⟨K (r / s ^ k) * q, QP.eq fun x => ?_, fun hd => hq ?_⟩
  · simp only [v_mul, v_K, v_pow, rat_mul_pow]; grind
  · exact (dvd_K (r := r / s ^ k) (by grind)).1 ((K_dvd hs).1 hd)
end Go.Gx
