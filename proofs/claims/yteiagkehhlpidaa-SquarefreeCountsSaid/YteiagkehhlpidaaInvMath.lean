/-
  Inverses of shifts and reversals; sums of fractions. Plain numbers; no program in sight.
-/
import Derived.Test.YteiagkehhlpidaaEndMath
namespace Go.Gx
theorem evQ_zero {f : List Int} (h : ∀ x : Int, evI f x = 0) : trimZ f = [] := by
  by_cases h0 : (trimZ f).length = 0
  · exact List.eq_nil_of_length_eq_zero h0
  · exfalso
    have hl := canon_last (canon_trim isZI f) h0
    have hb := big_sign (x := (hgt (trimZ f) : Int) + 2) (H := hgt (trimZ f)) (.inl (Int.le_refl _)) (trimZ f) h0 hl (Nat.le_refl _)
    apply hb.1
    have e : ((evI (trimZ f) ((hgt (trimZ f) : Int) + 2) : Int) : Rat) = ((evI f ((hgt (trimZ f) : Int) + 2) : Int) : Rat) := by rw [← evQ_int, ← evQ_int, evQ_trim]
    rw [Rat.intCast_inj.1 e]
    exact h _
theorem evQ_psub (q : Rat) (f g : List Int) : evQ (psub f g) q = evQ f q - evQ g q := by
  rw [evQ_congr q (g := padd f (scaleP g (-1))) (fun i => by rw [co_psub, co_padd, co_scaleP]; omega), evQ_padd, evQ_scale]
  show evQ f q + ((-1 : Int) : Rat) * evQ g q = _
  have : ((-1 : Int) : Rat) = -1 := rfl
  rw [this]; grind
theorem poly_eq {f g : List Int} (h : ∀ x : Int, evQ f (x : Rat) = evQ g (x : Rat)) : trimZ f = trimZ g := by
  have h1 : trimZ (psub f g) = [] := evQ_zero fun x => by
    have := evQ_psub (x : Rat) f g
    rw [h x, evQ_int] at this
    have e : evQ g (x : Rat) - evQ g (x : Rat) = ((0 : Int) : Rat) := by
      have : ((0 : Int) : Rat) = 0 := rfl
      rw [this]; grind
    rw [e] at this
    exact Rat.intCast_inj.1 this
  refine trim_inj fun i => ?_
  have h2 := co_trim (psub f g) i
  rw [h1, co_psub] at h2
  have : co [] i = 0 := by simp [co]
  omega
theorem evQ_lin (c : Int) (q : Rat) : evQ [c, 1] q = (c : Rat) + q := by
  simp only [evQ]
  have : ((1 : Int) : Rat) = 1 := rfl
  rw [this]; grind
theorem shift_back {F : List Int} {c d : Int} (hd : d = -c) : trimZ (trimZ (phorn [d, 1] (trimZ (phorn [c, 1] F)))) = trimZ F := by
  rw [show trimZ (trimZ (phorn [d, 1] (trimZ (phorn [c, 1] F)))) = trimZ (phorn [d, 1] (trimZ (phorn [c, 1] F))) from canon_trim isZI _]
  refine poly_eq fun x => ?_
  rw [evQ_phorn, evQ_trim, evQ_phorn, evQ_lin, evQ_lin]
  congr 1
  rw [hd, Rat.intCast_neg]
  grind
theorem rev_back {F : List Int} (h : co F 0 ≠ 0) : trimZ (trimZ (trimZ (trimZ (trimZ F).reverse)).reverse) = trimZ F := by
  have hc : Canon isZI (trimZ F).reverse := by
    refine canon_of_last ?_
    by_cases h0 : (trimZ F).length = 0
    · left; simpa using h0
    · right
      have e : co (trimZ F).reverse ((trimZ F).reverse.length - 1) = co (trimZ F) 0 := by
        simp only [co, List.getD, List.length_reverse]
        rw [List.getElem?_reverse (by omega)]
        congr 2; omega
      rw [e, co_trim]; exact h
  have hc' : trimZ (trimZ F).reverse = (trimZ F).reverse := hc
  have ht : trimZ (trimZ F) = trimZ F := canon_trim isZI F
  rw [hc', hc', List.reverse_reverse, ht, ht]
theorem rv_cross {a b : Int} {u v : Nat} (h : rv a u = rv b v) : rnum a u * (rden v : Int) = rnum b v * (rden u : Int) := by
  unfold rv at h
  have h1 := cast_ne (show ((rden u : Int)) ≠ 0 by have := rden_pos u; omega)
  have h2 := cast_ne (show ((rden v : Int)) ≠ 0 by have := rden_pos v; omega)
  refine Rat.intCast_inj.1 ?_
  rw [Rat.intCast_mul, Rat.intCast_mul]
  grind
theorem rv_of_x {n N D : Int} {v : Nat} {q : Rat} (hx : n * D = N * (v : Int)) (hv : 0 < v) (hD : 0 < D) (hq : q * (D : Rat) = (N : Rat)) : rv n v = q := by
  unfold rv
  rw [rnum_of hv, rden_of hv]
  have h1 : (n : Rat) * (D : Rat) = (N : Rat) * ((v : Int) : Rat) := by rw [← Rat.intCast_mul, ← Rat.intCast_mul, hx]
  have h2 := cast_ne (show D ≠ 0 by omega)
  have h3 := cast_ne (show ((v : Int)) ≠ 0 by omega)
  grind
theorem rv_add {a b n : Int} {u v w : Nat} (hx : n * ((rden u : Int) * (rden v : Int)) = (rnum a u * (rden v : Int) + rnum b v * (rden u : Int)) * (w : Int)) (hw : 0 < w) : rv n w = rv a u + rv b v := by
  have h1 := rden_pos u
  have h2 := rden_pos v
  refine rv_of_x hx hw (Int.mul_pos (by omega) (by omega)) ?_
  have h3 := cast_ne (show ((rden u : Int)) ≠ 0 by omega)
  have h4 := cast_ne (show ((rden v : Int)) ≠ 0 by omega)
  rw [Rat.intCast_add, Rat.intCast_mul, Rat.intCast_mul, Rat.intCast_mul]
  unfold rv
  grind
theorem rv_prod {a b n : Int} {u v w : Nat} (hx : n * ((rden u : Int) * (rden v : Int)) = (rnum a u * rnum b v) * (w : Int)) (hw : 0 < w) : rv n w = rv a u * rv b v := by
  have h1 := rden_pos u
  have h2 := rden_pos v
  refine rv_of_x hx hw (Int.mul_pos (by omega) (by omega)) ?_
  have h3 := cast_ne (show ((rden u : Int)) ≠ 0 by omega)
  have h4 := cast_ne (show ((rden v : Int)) ≠ 0 by omega)
  rw [Rat.intCast_mul, Rat.intCast_mul]
  unfold rv
  grind
theorem two_pick {w : World} {g : Nat} {t : TypeId} {v0 v1 : Value} {k : Nat} (h : Blk w g t [v0, v1]) (hk : k < 2) : ∃ v, w.cell? ⟨g, k, none⟩ = some v ∧ (k = 0 → v = v0) ∧ (k = 1 → v = v1) := by
  rcases (show k = 0 ∨ k = 1 by omega) with h0 | h0
  · subst h0; exact ⟨v0, h.at_ rfl, fun _ => rfl, fun h => by omega⟩
  · subst h0; exact ⟨v1, h.at_ rfl, fun h => by omega, fun _ => rfl⟩
theorem two_slices {w : World} {g : Nat} {t : TypeId} {A0 A1 : Option Addr} {n0 c0 n1 c1 k : Nat} (h : Blk w g t [.slice A0 n0 c0, .slice A1 n1 c1]) (hk : k < 2) : ∃ A n c, w.cell? ⟨g, k, none⟩ = some (.slice A n c) ∧ (k = 0 → n = n0) ∧ (k = 1 → n = n1) := by
  rcases (show k = 0 ∨ k = 1 by omega) with h0 | h0
  · subst h0; exact ⟨A0, n0, c0, h.at_ rfl, fun _ => rfl, fun h => by omega⟩
  · subst h0; exact ⟨A1, n1, c1, h.at_ rfl, fun h => by omega, fun _ => rfl⟩
end Go.Gx
namespace Go.Gx
theorem prod_rule_co (F G : List Int) (k : Nat) : co (derivP (pmul F G)) k = co (padd (pmul (derivP F) G) (pmul F (derivP G))) k := by
  rw [co_derivP, co_pmul, co_padd, co_pmul, co_pmul]
  have hA : conv (derivP F) G k = rsum (fun j => ((j : Nat) : Int) * (co F j * co G (k + 1 - j))) (k + 2) := by
    rw [rsum_head]
    unfold conv convF
    rw [rsum_congr (G := fun i => ((i + 1 : Nat) : Int) * (co F (i + 1) * co G (k + 1 - (i + 1)))) (fun i hi => by
      rw [co_derivP, show k + 1 - (i + 1) = k - i by omega]; grind)]
    simp
  have hB : conv F (derivP G) k = rsum (fun j => ((k + 1 - j : Nat) : Int) * (co F j * co G (k + 1 - j))) (k + 2) := by
    rw [rsum_succ]
    unfold conv convF
    rw [rsum_congr (G := fun j => ((k + 1 - j : Nat) : Int) * (co F j * co G (k + 1 - j))) (fun i hi => by
      rw [co_derivP, show k - i + 1 = k + 1 - i by omega]; grind)]
    simp
  rw [hA, hB, ← rsum_add]
  unfold conv convF
  rw [← rsum_mul_r]
  refine rsum_congr fun j hj => ?_
  have e : ((j : Nat) : Int) + ((k + 1 - j : Nat) : Int) = ((k + 1 : Nat) : Int) := by omega
  rw [← Int.add_mul, e, Int.mul_comm]
theorem deriv_rule (F G : List Int) : trimZ (trimZ (derivP (trimZ (pmul F G)))) = trimZ (trimZ (padd (trimZ (pmul (trimZ (derivP F)) G)) (trimZ (pmul F (trimZ (derivP G)))))) := by
  refine trim_inj fun i => ?_
  rw [co_trim, co_trim, co_derivP, co_trim, ← co_derivP, prod_rule_co, co_padd, co_padd, co_trim, co_trim, co_pmul, co_pmul, co_pmul, co_pmul]
  congr 1
  · exact (conv_congr (fun j => co_trim _ j) (fun _ => rfl)).symm
  · exact (conv_congr (fun _ => rfl) (fun j => co_trim _ j)).symm
end Go.Gx
