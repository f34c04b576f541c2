/-
  Sizes of coefficients; the law on multiplicities. No program in sight.
-/
import Derived.Test.YteiagkehhlpidaaCountMath
namespace Go.Gx
def nrm (l : List Int) : Nat := l.foldr (fun a s => a.natAbs + s) 0
theorem nrm_cons (a : Int) (l : List Int) : nrm (a :: l) = a.natAbs + nrm l := rfl
theorem nrm_head (l : List Int) : nrm l = (co l 0).natAbs + nrm l.tail := by
  cases l with
  | nil => simp [nrm, co]
  | cons a l => simp [nrm_cons, co]
theorem nrm_ext : ∀ (n : Nat) (f g : List Int), f.length + g.length ≤ n → (∀ i, co f i = co g i) → nrm f = nrm g
  | 0, f, g, hn, _ => by
    have h1 : f = [] := List.eq_nil_of_length_eq_zero (by omega)
    have h2 : g = [] := List.eq_nil_of_length_eq_zero (by omega)
    rw [h1, h2]
  | n + 1, f, g, hn, h => by
    rcases Nat.eq_zero_or_pos (f.length + g.length) with h0 | h0
    · have h1 : f = [] := List.eq_nil_of_length_eq_zero (by omega)
      have h2 : g = [] := List.eq_nil_of_length_eq_zero (by omega)
      rw [h1, h2]
    · rw [nrm_head f, nrm_head g, h 0, nrm_ext n f.tail g.tail (by simp; omega) (fun i => by rw [co_tail, co_tail]; exact h (i + 1))]
theorem nrm_congr {f g : List Int} (h : ∀ i, co f i = co g i) : nrm f = nrm g := nrm_ext _ f g (Nat.le_refl _) h
theorem nrm_trim (f : List Int) : nrm (trimZ f) = nrm f := nrm_congr fun i => co_trim f i
theorem nrm_co : ∀ (l : List Int) (i : Nat), (co l i).natAbs ≤ nrm l
  | [], i => by simp [co]
  | a :: l, 0 => by simp [co, nrm_cons]
  | a :: l, i + 1 => by
    have := nrm_co l i
    have e : co (a :: l) (i + 1) = co l i := by simp [co]
    rw [e, nrm_cons]; omega
theorem nrm_padd : ∀ f g : List Int, nrm (padd f g) ≤ nrm f + nrm g
  | [], g => by rw [nrm_congr (g := g) (fun i => by rw [co_padd]; simp [co])]; omega
  | a :: f, [] => by rw [nrm_congr (g := a :: f) (fun i => by rw [co_padd]; simp [co])]; omega
  | a :: f, b :: g => by
    have ih := nrm_padd f g
    rw [nrm_congr (g := (a + b) :: padd f g) (fun i => by
      rw [co_padd]
      cases i with
      | zero => simp [co]
      | succ i =>
        have := co_padd f g i
        simp only [co, List.getD_cons_succ] at this ⊢
        omega)]
    rw [nrm_cons, nrm_cons, nrm_cons]
    omega
theorem nrm_scale (c : Int) : ∀ f : List Int, nrm (scaleP f c) = c.natAbs * nrm f
  | [] => by simp [scaleP, nrm]
  | a :: f => by
    have ih := nrm_scale c f
    simp only [scaleP, List.map_cons, nrm_cons, Int.natAbs_mul] at ih ⊢
    rw [ih, Nat.mul_add, Nat.mul_comm]
theorem nrm_pmul : ∀ f g : List Int, nrm (pmul f g) ≤ nrm f * nrm g
  | [], g => by simp [pmul, nrm]
  | a :: f, g => by
    have ih := nrm_pmul f g
    have h1 := nrm_padd (scaleP g a) (0 :: pmul f g)
    rw [nrm_congr (co_pmul_cons a f g), nrm_cons, Nat.add_mul]
    rw [nrm_scale, nrm_cons] at h1
    simp at h1
    omega
theorem nrm_ppow (g : List Int) : ∀ k, nrm (ppow g k) ≤ nrm g ^ k
  | 0 => by show nrm [1] ≤ _; simp [nrm]
  | k + 1 => by
    show nrm (pmul (ppow g k) g) ≤ _
    rw [Nat.pow_succ]
    exact Nat.le_trans (nrm_pmul _ _) (Nat.mul_le_mul_right _ (nrm_ppow g k))
theorem PolyR.tight {w : World} {S : Nat → Prop} {A : Option Addr} {n c M : Nat} {l : List RI} {K : Nat} (h : PolyR w S A n c l M) (hc : AllC l) (hn : nrm (zs l) < BS ^ K) : PolyR w S A n c l K := by
  refine ⟨h.1, fun r hr => ⟨(h.2 r hr).1, ?_⟩⟩
  have hN := (h.2 r hr).1
  obtain ⟨i, hi, e⟩ := List.getElem_of_mem hr
  have h1 := nrm_co (zs l) i
  have e1 : co (zs l) i = r.z := by simp [co, List.getD, List.getElem?_eq_getElem hi, e]
  rw [e1] at h1
  have e2 : r.z.natAbs = val r.d := by unfold RI.z zval; split <;> omega
  have h2 := lt_val_len (hc r hr).1 (k := K) (by omega)
  have h3 : r.d.length = r.n := by have := hN.1.1; simpa using this
  omega
theorem nrm_small : ∀ (xs : List Int), (∀ x ∈ xs, -32768 ≤ x ∧ x ≤ 32767) → nrm xs ≤ 32768 * xs.length
  | [], _ => by simp [nrm]
  | a :: xs, h => by
    have h1 := h a (by simp)
    have h2 := nrm_small xs fun x hx => h x (by simp [hx])
    rw [nrm_cons, List.length_cons]; omega
theorem nrm_short {F xs : List Int} {k : Nat} (e : F = trimZ (xs.take k)) (h : ∀ x ∈ xs, -32768 ≤ x ∧ x ≤ 32767) : nrm F ≤ 32768 * k := by
  rw [e, nrm_trim]
  have := nrm_small (xs.take k) fun x hx => h x (List.mem_of_mem_take hx)
  have h2 : (xs.take k).length ≤ k := by simp; omega
  omega
theorem pow_norm {G W : List Int} {n N B : Nat} (e : W = trimZ (ppow G n)) (h : nrm G ≤ B) (hB : 0 < B) (hn : n ≤ N) : nrm W ≤ B ^ N := by
  rw [e, nrm_trim]
  exact Nat.le_trans (nrm_ppow G n) (Nat.le_trans (Nat.pow_le_pow_left h n) (Nat.pow_le_pow_right hB hn))
theorem dg_pow_succ {g : QP} (hg : g ≠ 0) (n : Nat) : dg (g ^ (n + 1)) + 1 = dg (g ^ n) + dg g := by rw [qp_pow_succ]; exact dg_mul (qp_pow_ne hg n) hg
theorem dg_pow_ge {g : QP} (hg : 2 ≤ dg g) : ∀ n, n + 1 ≤ dg (g ^ n)
  | 0 => by rw [qp_pow_zero]; exact Nat.le_of_eq (dg_K (by decide)).symm
  | n + 1 => by have := dg_pow_succ (g := g) (dg_pos.2 (by omega)) n; have := dg_pow_ge hg n; omega
theorem dg_pow_le (g : QP) : ∀ n, dg (g ^ n) ≤ n * dg g + 1
  | 0 => by rw [qp_pow_zero]; exact Nat.le_of_eq (by rw [show (1 : QP) = K 1 from rfl, dg_K (by decide)]; simp)
  | n + 1 => by
    by_cases hg : g = 0
    · subst hg
      rw [qp_pow_succ, show (0 : QP) ^ n * 0 = 0 from QP.eq fun x => by simp only [v_mul, v_0]; grind, dg_zero.2 rfl]; omega
    · have := dg_pow_succ hg n
      have := dg_pow_le g n
      rw [Nat.succ_mul]; omega
theorem tlen_pow {G W : List Int} {n N L : Nat} (e : W = trimZ (ppow G n)) (hG : (trimZ G).length ≤ L) (hn : n ≤ N) : W.length ≤ N * L + 1 := by
  have h := dg_pow_le (P G) n
  rw [← P_pow, dg_P, dg_P, ← e] at h
  have : n * (trimZ G).length ≤ N * L := Nat.mul_le_mul hn hG
  omega
theorem P_len {F : List Int} (h : P F = 0) : (trimZ F).length = 0 := by rw [← dg_P]; exact dg_zero.2 h
theorem cnt_H {F G W H : List Int} {n : Nat} (hW : W = trimZ (ppow G n)) (hH : H = trimZ (pmul F W)) : P H = P F * P G ^ n := by
  rw [hH, P_trim, P_mul, hW, P_trim, P_pow]
theorem cnt_none {F G H r : List Int} {n m : Nat} (hH : P H = P F * P G ^ n) (h : Rem H G m r) (h0 : (trimZ F).length = 0 ∨ (trimZ G).length < 2) : m = 0 := by
  refine rem_zero h (h0.imp (fun h => ?_) id)
  rw [hH, dg_zero.1 ((dg_P F).trans h)]
  exact QP.eq fun x => by simp only [v_mul, v_0]; grind
theorem cnt_all {F G H r r' : List Int} {m k n L : Nat} (hH : P H = P F * P G ^ n) (h1 : Rem H G m r) (h2 : Rem F G k r') (hF : (trimZ F).length ≠ 0) (hG : 2 ≤ (trimZ G).length) (hL : (trimZ H).length ≤ L) :
    m = k + n ∧ m + 1 ≤ L ∧ (trimZ (ppow G m)).length ≤ L ∧ (trimZ (ppow G (m + 1))).length ≤ L + (trimZ G).length ∧ P G ^ m ∣ P H ∧ ¬ P G ^ (m + 1) ∣ P H := by
  have hF' : P F ≠ 0 := dg_pos.2 (by rw [dg_P]; omega)
  have hG' : P G ≠ 0 := dg_pos.2 (by rw [dg_P]; omega)
  have hH' : P H ≠ 0 := by rw [hH]; exact qp_mul_ne hF' (qp_pow_ne hG' n)
  have a := rem_mul h1 hH' hG
  have b := rem_mul h2 hF' hG
  have c := mul_more n b
  rw [← hH] at c
  have hd : P G ^ m ∣ P H := (mul_le hG' a).2 (Nat.le_refl _)
  have hn : ¬ P G ^ (m + 1) ∣ P H := fun h => by have := (mul_le hG' a).1 h; omega
  have e1 := dvd_le hd hH'
  have e2 := dg_pow_ge (g := P G) (by rw [dg_P]; exact hG) m
  have e3 := dg_pow_succ hG' m
  rw [dg_P] at e1
  rw [dg_P G, ← P_pow, ← P_pow, dg_P, dg_P] at e3
  rw [← P_pow, dg_P] at e1 e2
  exact ⟨mul_unique hG' a c, by omega, by omega, by omega, hd, hn⟩
end Go.Gx
