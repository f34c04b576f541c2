/-
  Primitive polynomials: Gauss' lemma, exact division. Plain numbers; no program in sight.
-/
import Derived.Test.YteiagkehhlpidaaQPoly
namespace Go.Gx
theorem prime_in : ∀ (m n : Nat), n ≤ m → 2 ≤ n → ∃ p : Nat, 2 ≤ p ∧ p ∣ n ∧ ∀ a b : Nat, p ∣ a * b → p ∣ a ∨ p ∣ b
  | 0, n, h, h2 => by omega
  | m + 1, n, h, h2 => by
    by_cases hd : ∃ d, 2 ≤ d ∧ d < n ∧ d ∣ n
    · obtain ⟨d, h3, h4, h5⟩ := hd
      obtain ⟨p, hp, hpd, hpp⟩ := prime_in m d (by omega) h3
      exact ⟨p, hp, Nat.dvd_trans hpd h5, hpp⟩
    · refine ⟨n, h2, Nat.dvd_refl n, fun a b hab => ?_⟩
      have hg := Nat.gcd_dvd_left n a
      have hg0 : 0 < Nat.gcd n a := Nat.gcd_pos_of_pos_left _ (by omega)
      have hle := Nat.le_of_dvd (by omega) hg
      rcases Nat.lt_or_ge (Nat.gcd n a) 2 with h1 | h1
      · right
        have : Nat.gcd n a = 1 := by omega
        exact Nat.Coprime.dvd_of_dvd_mul_left this hab
      · left
        have : Nat.gcd n a = n := Classical.byContradiction fun hne => hd ⟨_, h1, by omega, hg⟩
        rw [← this]; exact Nat.gcd_dvd_right n a
theorem prime_int {n : Nat} (h : 2 ≤ n) : ∃ p : Nat, 2 ≤ p ∧ p ∣ n ∧ ∀ a b : Int, (p : Int) ∣ a * b → (p : Int) ∣ a ∨ (p : Int) ∣ b := by
  obtain ⟨p, h1, h2, h3⟩ := prime_in n n (Nat.le_refl _) h
  refine ⟨p, h1, h2, fun a b hab => ?_⟩
  rw [Int.ofNat_dvd_left] at hab ⊢
  rw [Int.ofNat_dvd_left]
  rw [Int.natAbs_mul] at hab
  exact h3 _ _ hab
theorem rsum_but {p : Int} {F : Nat → Int} {i : Nat} : ∀ n, (∀ a, a < n → a ≠ i → p ∣ F a) → p ∣ rsum F n - (if i < n then F i else 0)
  | 0, _ => by simp [rsum]
  | n + 1, h => by
    have ih := rsum_but (p := p) (F := F) (i := i) n fun a ha hi => h a (by omega) hi
    rw [rsum_succ]
    by_cases h1 : n = i
    · subst h1
      rw [if_neg (by omega)] at ih
      rw [if_pos (by omega), show rsum F n + F n - F n = rsum F n - 0 by omega]
      exact ih
    · have h2 := h n (by omega) h1
      by_cases h3 : i < n
      · rw [if_pos h3] at ih
        rw [if_pos (by omega), show rsum F n + F n - F i = (rsum F n - F i) + F n by omega]
        exact Int.dvd_add ih h2
      · rw [if_neg h3] at ih
        rw [if_neg (by omega), show rsum F n + F n - 0 = (rsum F n - 0) + F n by omega]
        exact Int.dvd_add ih h2
theorem least {Q : Nat → Prop} : ∀ n, Q n → ∃ j, Q j ∧ ∀ i, i < j → ¬ Q i := fun n => by
  induction n using Nat.strongRecOn with
  | ind n ih =>
    intro h
    by_cases h1 : ∃ i, i < n ∧ Q i
    · obtain ⟨i, h2, h3⟩ := h1; exact ih i h2 h3
    · exact ⟨n, h, fun i hi hq => h1 ⟨i, hi, hq⟩⟩
theorem gauss_prime {p : Int} (hp : ∀ a b : Int, p ∣ a * b → p ∣ a ∨ p ∣ b) {l d : List Int} (h : ∀ i, p ∣ co (pmul l d) i) (hd : ∃ j, ¬ p ∣ co d j) : ∀ i, p ∣ co l i := by
  obtain ⟨j0, hj0⟩ := hd
  obtain ⟨j, hj, hl⟩ := least (Q := fun j => ¬ p ∣ co d j) j0 hj0
  intro i
  induction i using Nat.strongRecOn with
  | ind i ih =>
    have h1 := h (i + j)
    rw [co_pmul] at h1
    have h2 := rsum_but (p := p) (F := fun a => co l a * co d (i + j - a)) (i := i) (i + j + 1) (fun a ha hai => by
      rcases Nat.lt_or_ge a i with h3 | h3
      · exact Int.dvd_mul_of_dvd_left (ih a h3)
      · exact Int.dvd_mul_of_dvd_right (Classical.not_not.1 (hl (i + j - a) (by omega))))
    rw [if_pos (by omega), show i + j - i = j by omega] at h2
    have h3 : p ∣ co l i * co d j := by
      have := Int.dvd_sub h1 h2
      have e : conv l d (i + j) - (rsum (fun a => co l a * co d (i + j - a)) (i + j + 1) - co l i * co d j) = co l i * co d j := by unfold conv convF; omega
      rwa [e] at this
    exact (hp _ _ h3).resolve_right hj
theorem cont_dvd {k : Nat} : ∀ {F : List Int}, (∀ i, (k : Int) ∣ co F i) → k ∣ contP F
  | [], _ => by simp [contP]
  | a :: F, h => by
    rw [contP_cons]
    refine Nat.dvd_gcd (cont_dvd fun i => ?_) ?_
    · have := h (i + 1); simpa [co] using this
    · have := h 0; exact Int.ofNat_dvd_left.1 (by simpa [co] using this)
theorem dvd_cont : ∀ (F : List Int) (i : Nat), (contP F : Int) ∣ co F i
  | [], i => by simp [co]
  | a :: F, i => by
    rw [contP_cons]
    cases i with
    | zero =>
      have : co (a :: F) 0 = a := by simp [co]
      rw [this]; exact Int.ofNat_dvd_left.2 (Nat.gcd_dvd_right _ _)
    | succ i =>
      have : co (a :: F) (i + 1) = co F i := by simp [co]
      rw [this]
      exact Int.dvd_trans (Int.ofNat_dvd.2 (Nat.gcd_dvd_left _ _)) (dvd_cont F i)
theorem co_div (l : List Int) (p : Int) (i : Nat) : co (l.map (fun x => x / p)) i = co l i / p := by
  simp only [co, List.getD, List.getElem?_map]
  cases l[i]? <;> simp
theorem gauss {d R : List Int} (hd : contP d = 1) : ∀ (n : Nat) (c : Int) (l : List Int), c.natAbs ≤ n → c ≠ 0 → (∀ i, co R i * c = co (pmul l d) i) → ∃ W, ∀ i, co l i = c * co W i
  | 0, c, l, hn, hc, _ => by omega
  | n + 1, c, l, hn, hc, h => by
    by_cases h1 : c.natAbs < 2
    · have : c = 1 ∨ c = -1 := by omega
      refine ⟨scaleP l c, fun i => ?_⟩
      rw [co_scaleP]
      rcases this with rfl | rfl <;> omega
    · obtain ⟨p, hp2, hpc, hpp⟩ := prime_int (n := c.natAbs) (by omega)
      have hpc' : (p : Int) ∣ c := Int.ofNat_dvd_left.2 hpc
      obtain ⟨c', rfl⟩ := hpc'
      have hj : ∃ j, ¬ (p : Int) ∣ co d j := by
        apply Classical.byContradiction
        intro hn'
        have : p ∣ contP d := cont_dvd fun i => Classical.byContradiction fun h => hn' ⟨i, h⟩
        rw [hd] at this
        have := Nat.le_of_dvd (by omega) this
        omega
      have hl := gauss_prime hpp (l := l) (d := d) (fun i => by rw [← h i, ← Int.mul_assoc, Int.mul_comm (co R i)]; exact ⟨co R i * c', by rw [Int.mul_assoc]⟩) hj
      have hp0 : (p : Int) ≠ 0 := by omega
      have hc' : c' ≠ 0 := fun e => hc (by rw [e, Int.mul_zero])
      have hco : ∀ i, co l i = p * co (l.map (fun x => x / (p : Int))) i := fun i => by rw [co_div]; exact (Int.mul_ediv_cancel' (hl i)).symm
      have e2 : ∀ i, co (pmul l d) i = p * co (pmul (l.map (fun x => x / (p : Int))) d) i := fun i => by
        rw [co_pmul, co_pmul]
        unfold conv convF
        rw [← rsum_mul]
        exact rsum_congr fun a _ => by rw [hco a, Int.mul_assoc]
      obtain ⟨W, hW⟩ := gauss hd n c' (l.map (fun x => x / (p : Int))) (by
        rw [Int.natAbs_mul] at hn
        have h3 : 2 * c'.natAbs ≤ (p : Int).natAbs * c'.natAbs := Nat.mul_le_mul_right _ (by omega)
        have : c'.natAbs ≠ 0 := by omega
        omega) hc' (fun i => by
        have := h i
        rw [e2 i, ← Int.mul_assoc, Int.mul_comm (co R i), Int.mul_assoc] at this
        exact Int.eq_of_mul_eq_mul_left hp0 this)
      exact ⟨W, fun i => by rw [hco i, hW i, Int.mul_assoc]⟩
/-- Gauss: what a primitive polynomial divides, it divides over the integers. -/
theorem gauss_dvd {d R : List Int} (hd : contP d = 1) (h : P d ∣ P R) : ∃ W, P R = P W * P d := by
  obtain ⟨q, e⟩ := h
  obtain ⟨c, l, hc, hq, _⟩ := dg_rep q
  have e1 : P (scaleP R c) = P (pmul l d) := by rw [P_scale, P_mul, ← hq, e, qmul_assoc]
  obtain ⟨W, hW⟩ := gauss hd _ c l (Nat.le_refl _) hc fun i => by rw [← co_scaleP]; exact P_co e1 i
  refine ⟨W, ?_⟩
  have e2 : P l = K c * P W := by rw [← P_scale]; exact P_congr fun i => by rw [hW i, co_scaleP, Int.mul_comm]
  refine QP.eq fun x => ?_
  have h1 := qat e x
  have h2 := qat hq x
  have h3 := qat e2 x
  have h4 := cast_ne hc
  simp only [v_mul, v_K] at h1 h2 h3 ⊢
  grind
theorem exFail_not {F G : List Int} (hp : contP G = 1) (hl : ldP G ≠ 0) (h : exFail F G) : ¬ P G ∣ P F := by
  intro hd
  obtain ⟨W, hW⟩ := gauss_dvd hp hd
  obtain ⟨Q, R, s, hI, hz, hs⟩ := h
  obtain ⟨d, hdl⟩ := ld_len hl
  have ⟨hdL, hdz, _⟩ := ld_deg hdl
  rw [hdl, show d + 1 - 1 = d from rfl] at hz hs
  have e : P R = P (pmul (psub W Q) G) := QP.eq fun x => by
    have h1 := qat hW x
    have h2 := hI x
    rw [P_mul, P_sub]
    simp only [v_mul, v_sub, v_P] at h1 ⊢
    grind
  have hR : ∀ n, (∀ i, n ≤ i → co R i = 0) → dg (P R) ≤ n := fun n hn => by
    rw [dg_P]
    rcases (tlen_spec R).2 with h | h
    · omega
    · apply Classical.byContradiction
      intro hc; exact h (hn _ (by omega))
  rcases hs with ⟨hs, hs2⟩ | ⟨rfl, i, hi⟩
  · apply hs2
    have hU : ∀ i, s - 1 < i → co (psub W Q) i = 0 := fun i hi => by
      by_cases h0 : P (psub W Q) = 0
      · have := P_co (h0.trans P_nil.symm) i; rw [this]; simp [co]
      · have h1 := hR _ hz
        rw [e, P_mul] at h1
        have h2 := dg_mul h0 (g := P G) (dg_pos.2 (by rw [dg_P]; omega))
        rw [dg_P, dg_P G] at h2
        exact (tlen_spec _).1 i (by omega)
    rw [P_co e, (co_top hU hdz).1, hdL]
    exact Int.dvd_mul_left _ _
  · apply hi
    have h1 := hR d fun i hi => hz i (by omega)
    have h2 : P R = 0 := dvd_small (g := P G) ⟨P (psub W Q), by rw [e, P_mul]⟩ (by rw [dg_P G]; omega)
    have := P_co (h2.trans P_nil.symm) i
    rw [this]; simp [co]
/-! primitive parts -/
theorem primC_abs (F : List Int) : (primC F).natAbs = contP F := by unfold primC; split <;> omega
theorem primC_ne {F : List Int} (h : ldP F ≠ 0) : primC F ≠ 0 := by have := cont_pos h; have := primC_abs F; omega
theorem primC_dvd (F : List Int) (i : Nat) : primC F ∣ co F i := by rw [← Int.natAbs_dvd, primC_abs]; exact dvd_cont F i
theorem co_tdiv (l : List Int) (p : Int) (i : Nat) : co (l.map (fun x => x.tdiv p)) i = (co l i).tdiv p := by
  simp only [co, List.getD, List.getElem?_map]
  cases l[i]? <;> simp
theorem co_prim (F : List Int) (i : Nat) : primC F * co (primP F) i = co F i := by
  unfold primP; rw [co_tdiv, co_trim]; exact Int.mul_tdiv_cancel' (primC_dvd F i)
theorem P_prim (F : List Int) : P F = K (primC F) * P (primP F) := by
  rw [← P_scale]; exact P_congr fun i => by rw [co_scaleP, Int.mul_comm, co_prim]
theorem P_primP {F : List Int} (h : ldP F ≠ 0) : P (primP F) = K (1 / (primC F : Rat)) * P F := QP.eq fun x => by
  have h1 := qat (P_prim F) x
  have h2 := cast_ne (primC_ne h)
  simp only [v_mul, v_K] at h1 ⊢
  grind
theorem cont_prim {F : List Int} (h : ldP F ≠ 0) : contP (primP F) = 1 := by
  have h0 := cont_pos h
  have h1 : contP F * contP (primP F) ∣ contP F := cont_dvd fun i => by
    rw [← co_prim F i]
    have := dvd_cont (primP F) i
    obtain ⟨z, hz⟩ := this
    rw [hz]
    rw [Int.ofNat_dvd_left, Int.natAbs_mul, Int.natAbs_mul, primC_abs]
    exact ⟨z.natAbs, by simp [Nat.mul_assoc]⟩
  have h2 := Nat.le_of_dvd h0 h1
  have h3 : contP (primP F) ≠ 0 := fun e => by rw [e, Nat.mul_zero] at h1; have := Nat.eq_zero_of_zero_dvd h1; omega
  apply Classical.byContradiction
  intro hn
  have : contP F * 2 ≤ contP F * contP (primP F) := Nat.mul_le_mul_left _ (by omega)
  omega
theorem prim_len (F : List Int) : (primP F).length = (trimZ F).length := by unfold primP; simp
theorem prim_trim (F : List Int) : trimZ (primP F) = primP F := by
  by_cases h : ldP F = 0
  · rw [← primP_zero h]; rfl
  · refine canon_of_last ?_
    by_cases h0 : (primP F).length = 0
    · exact .inl h0
    · right
      intro e
      have h1 := co_prim F ((primP F).length - 1)
      rw [e, Int.mul_zero, prim_len] at h1
      rw [prim_len] at h0
      exact (tlen_spec F).2.resolve_left h0 h1.symm
theorem ld_prim {F : List Int} (h : ldP F ≠ 0) : 0 < ldP (primP F) := by
  obtain ⟨d, hd⟩ := ld_len h
  have ⟨h1, _, _⟩ := ld_deg hd
  have ⟨h2, _, h5⟩ := ld_deg (G := primP F) (d := d) (by rw [prim_trim, prim_len, hd])
  have h3 := co_prim F d
  rw [h1, h2] at h3
  have h4 := cont_pos h
  unfold primC at h3
  by_cases hn : ldP F < 0
  · rw [if_pos hn] at h3
    apply Classical.byContradiction
    intro hc
    have : 0 ≤ (contP F : Int) * (-(ldP (primP F))) := Int.mul_nonneg (by omega) (by omega)
    have e : -(contP F : Int) * ldP (primP F) = (contP F : Int) * (-(ldP (primP F))) := by rw [Int.neg_mul, Int.mul_neg]
    omega
  · rw [if_neg hn] at h3
    apply Classical.byContradiction
    intro hc
    have : 0 ≤ (contP F : Int) * (-(ldP (primP F))) := Int.mul_nonneg (by omega) (by omega)
    rw [Int.mul_neg] at this
    omega
theorem ld_zero_iff (F : List Int) : ldP F = 0 ↔ P F = 0 := by
  constructor
  · intro h; rw [← P_trim, ld_zero h, P_nil]
  · intro h
    have := P_inj (h.trans P_nil.symm)
    unfold ldP; rw [this]; rfl
theorem ld_ne_iff (F : List Int) : ldP F ≠ 0 ↔ P F ≠ 0 := not_congr (ld_zero_iff F)
end Go.Gx
