/-
  x^2 divided by x. Plain numbers; no program in sight.
-/
import Derived.Test.YteiagkehhlpidaaSqMath2
import Derived.Test.YteiagkehhlpidaaInvMath
namespace Go.Gx
theorem ex_none : ¬ exFail [0, 0, 1] [0, 1] := by
  rintro ⟨Q, R, s, hI, hz, h⟩
  rcases h with ⟨_, h⟩ | ⟨hs, i, hi⟩
  · exact h (by rw [show ldP [0, 1] = 1 by decide]; exact Int.one_dvd _)
  · have h0 : i = 0 := by
      rcases Nat.eq_zero_or_pos i with h1 | h1
      · exact h1
      · exact absurd (hz i (by rw [show (trimZ [(0 : Int), 1]).length = 2 by decide]; omega)) hi
    subst h0
    have h1 := hI 0
    rw [evQ_head R] at h1
    simp only [evQ] at h1
    have e0 : ((0 : Int) : Rat) = 0 := rfl
    have e1 : ((1 : Int) : Rat) = 1 := rfl
    rw [e0, e1] at h1
    have h2 : ((co R 0 : Int) : Rat) = 0 := by grind
    exact hi (Rat.intCast_inj.1 (h2.trans e0.symm))
theorem quo_x {q : List Int} (h : ∀ x : Rat, evQ [0, 0, 1] x = evQ q x * evQ [0, 1] x) : trimZ q = [0, 1] := by
  have h1 : trimZ (0 :: q) = trimZ [0, 0, 1] := poly_eq fun x => by
    have := h (x : Rat)
    simp only [evQ] at this ⊢
    have e0 : ((0 : Int) : Rat) = 0 := rfl
    have e1 : ((1 : Int) : Rat) = 1 := rfl
    rw [e0, e1] at this ⊢
    grind
  have h2 : ∀ i, co q i = co [0, 1] i := fun i => by
    have e1 : co (0 :: q) (i + 1) = co [0, 0, 1] (i + 1) := by rw [← co_trim, h1, co_trim]
    simpa [co] using e1
  exact (trim_inj h2).trans (by decide)
theorem tmod6 (x : Int) : -5 ≤ x.tmod 6 ∧ x.tmod 6 ≤ 5 := by
  have h1 := Int.tmod_lt_of_pos x (b := 6) (by decide)
  have h2 := Int.tmod_lt_of_pos (-x) (b := 6) (by decide)
  rw [Int.neg_tmod] at h2
  omega
end Go.Gx
