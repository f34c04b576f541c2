/-
  Contents and primitive parts of polynomials. Plain numbers; no program in sight.
-/
import Derived.Test.YteiagkehhlpidaaPolyMath2
namespace Go.Gx
theorem drop_predZ {F : List Int} {k : Nat} (hk : 0 < k) (hl : k ≤ F.length) : F.drop (k - 1) = co F (k - 1) :: F.drop k := by
  rw [List.drop_eq_getElem_cons (show k - 1 < F.length by omega), show k - 1 + 1 = k by omega]
  simp [co, List.getD, show k - 1 < F.length by omega]
def contP (l : List Int) : Nat := l.foldr (fun a g => Nat.gcd g a.natAbs) 0
theorem contP_cons (a : Int) (l : List Int) : contP (a :: l) = Nat.gcd (contP l) a.natAbs := rfl
theorem cont_step {F : List Int} {k c g u : Nat} {a : Int} (hg : g = Nat.gcd c (contP (F.drop k))) (hk : 0 < k) (hl : k ≤ F.length) (ha : a = co F (k - 1)) (hu : u = a.natAbs) : Nat.gcd g u = Nat.gcd c (contP (F.drop (k - 1))) := by
  rw [drop_predZ hk hl, contP_cons, ← ha, ← hu, hg, Nat.gcd_assoc]
theorem cont_start {F : List Int} {k c : Nat} (hk : F.length ≤ k) : c = Nat.gcd c (contP (F.drop k)) := by
  rw [List.drop_of_length_le hk]; simp [contP]
/-- Once 1, always 1. -/
theorem cont_one {F : List Int} {c : Nat} : ∀ (k : Nat), Nat.gcd c (contP (F.drop k)) = 1 → Nat.gcd c (contP F) = 1
  | 0, h => h
  | k + 1, h => by
    rcases Nat.lt_or_ge k F.length with hk | hk
    · refine cont_one k ?_
      have e := cont_step (F := F) (k := k + 1) (c := c) rfl (by omega) (by omega) rfl rfl
      rw [show k + 1 - 1 = k from rfl, h] at e
      rw [← e]; simp
    · rw [List.drop_of_length_le (by omega)] at h
      have : c = 1 := by simpa [contP] using h
      rw [this]; simp
def cc2 (F G : List Int) : Nat → Nat
  | 0 => 0
  | 1 => contP F
  | _ => Nat.gcd (contP F) (contP G)
theorem cc2_step {F G H : List Int} {i : Nat} (hi : i < 2) (h0 : i = 0 → H = F) (h1 : i = 1 → H = G) : Nat.gcd (cc2 F G i) (contP H) = cc2 F G (i + 1) := by
  rcases (show i = 0 ∨ i = 1 by omega) with rfl | rfl
  · rw [h0 rfl]; simp [cc2]
  · rw [h1 rfl]; rfl
theorem cc2_one {F G : List Int} {i : Nat} (hi : i < 2) (h : cc2 F G (i + 1) = 1) : cc2 F G 2 = 1 := by
  rcases (show i = 0 ∨ i = 1 by omega) with rfl | rfl
  · have h : contP F = 1 := h
    show Nat.gcd (contP F) (contP G) = 1
    rw [h]; simp
  · exact h
theorem contP_zero : ∀ {F : List Int}, contP F = 0 → ∀ i, co F i = 0
  | [], _, i => by simp [co]
  | a :: F, h, i => by
    rw [contP_cons] at h
    have h1 := Nat.eq_zero_of_gcd_eq_zero_left h
    have h2 := Nat.eq_zero_of_gcd_eq_zero_right h
    cases i with
    | zero => simp [co]; omega
    | succ i => have := contP_zero h1 i; simpa [co] using this
def ldP (F : List Int) : Int := coI (trimZ F) (((trimZ F).length : Int) - 1)
theorem ld_zero {F : List Int} (h : ldP F = 0) : trimZ F = [] := by
  rcases Nat.eq_zero_or_pos (trimZ F).length with h0 | h0
  · exact List.eq_nil_of_length_eq_zero h0
  · exfalso
    unfold ldP at h
    rw [show (((trimZ F).length : Int) - 1) = (((trimZ F).length - 1 : Nat) : Int) by omega, coI_nat] at h
    exact canon_last (f := trimZ F) (canon_trim isZI F) (by omega) h
theorem cont_pos {F : List Int} (h : ldP F ≠ 0) : 0 < contP F := by
  rcases Nat.eq_zero_or_pos (contP F) with h0 | h0
  · exfalso; apply h
    have hz := contP_zero h0
    unfold ldP
    by_cases hl : (((trimZ F).length : Int) - 1) < 0
    · simp [coI, hl]
    · rw [← coI_in (by omega), co_trim, hz]
  · exact h0
def primC (F : List Int) : Int := if ldP F < 0 then -(contP F : Int) else (contP F : Int)
def primP (F : List Int) : List Int := (trimZ F).map (fun x => x.tdiv (primC F))
theorem primP_zero {F : List Int} (h : ldP F = 0) : [] = primP F := by unfold primP; rw [ld_zero h]; rfl
theorem ov_step {G L : List Int} {k : Nat} {v c : Int} (h : ∀ j, co L j = if j < k then (co G j).tdiv c else co G j) (hk : k < L.length) (hv : v = (co L k).tdiv c) : ∀ j, co (L.set k v) j = if j < k + 1 then (co G j).tdiv c else co G j := fun j => by
  by_cases e : j = k
  · subst e
    rw [if_pos (by omega), hv, h j, if_neg (by omega)]
    simp [co, List.getD, List.getElem?_set_self hk]
  · have e2 : co (L.set k v) j = co L j := by simp only [co, List.getD]; rw [List.getElem?_set_ne (Ne.symm e)]
    rw [e2, h j]
    by_cases h1 : j < k
    · rw [if_pos h1, if_pos (by omega)]
    · rw [if_neg h1, if_neg (by omega)]
theorem ov_fin {G L : List Int} {k : Nat} {c : Int} (h : ∀ j, co L j = if j < k then (co G j).tdiv c else co G j) (hl : L.length = G.length) (hk : G.length ≤ k) : L = G.map (fun x => x.tdiv c) := by
  apply List.ext_getElem
  · simpa using hl
  · intro i h1 h2
    have e := h i
    rw [if_pos (by omega)] at e
    simp only [co, List.getD] at e
    rw [List.getElem?_eq_getElem h1, List.getElem?_eq_getElem (by omega)] at e
    simpa using e
theorem co_pow1 (a : Int) : ∀ (n i : Nat), co (ppow [a] n) i = if i = 0 then a ^ n else 0
  | 0, i => by cases i <;> simp [ppow, co]
  | n + 1, i => by
    show co (pmul (ppow [a] n) [a]) i = _
    rw [co_pmul]
    unfold conv convF
    cases i with
    | zero =>
      have e := co_pow1 a n 0
      simp [rsum, co, Int.pow_succ] at e ⊢
      rw [e]
    | succ i =>
      rw [if_neg (by omega)]
      have : rsum (fun j => co (ppow [a] n) j * co [a] (i + 1 - j)) (i + 1 + 1) = rsum (fun _ => 0) (i + 1 + 1) := rsum_congr fun j hj => by
        rw [co_pow1 a n]
        by_cases h0 : j = 0
        · subst h0; simp [co]
        · rw [if_neg h0, Int.zero_mul]
      rw [this]
      have z : ∀ m, rsum (fun _ => (0 : Int)) m = 0 := by intro m; induction m with | zero => rfl | succ m ih => simp [rsum, ih]
      exact z _
theorem ld_pow1 {a : Int} {n : Nat} {F : List Int} (h : F = trimZ (ppow [a] n)) : ldP F = a ^ n := by
  have hF : trimZ F = F := by rw [h]; exact canon_trim isZI _
  have hc : ∀ i, co F i = if i = 0 then a ^ n else 0 := fun i => by rw [h, co_trim, co_pow1]
  unfold ldP
  rw [hF]
  rcases Nat.eq_zero_or_pos F.length with h0 | h0
  · rw [← coI_out (.inl (by omega))]
    have := hc 0
    rw [if_pos rfl, List.eq_nil_of_length_eq_zero h0] at this
    simpa [co] using this
  · rw [show ((F.length : Int) - 1) = ((F.length - 1 : Nat) : Int) by omega, coI_nat]
    have h1 := canon_last (f := F) (by rw [h]; exact canon_trim isZI _) (by omega)
    rw [hc] at h1 ⊢
    by_cases e : F.length - 1 = 0
    · rw [if_pos e]
    · rw [if_neg e] at h1; exact absurd rfl h1
end Go.Gx
