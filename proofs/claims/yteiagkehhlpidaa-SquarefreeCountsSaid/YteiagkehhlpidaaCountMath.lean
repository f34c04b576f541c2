/-
  Divisibility and multiplicities, as the program finds them. Plain numbers; no program in sight.
-/
import Derived.Test.YteiagkehhlpidaaGauss
namespace Go.Gx
theorem ld_of_deg {G : List Int} {x : Int} (h : x = ((trimZ G).length : Int) - 1) (hx : ¬ x < 0) : ldP G ≠ 0 := by
  rw [ld_ne_iff, dg_pos, dg_P]; omega
theorem div_rem {F G Q R : List Int} {e nr : Nat} (h : ∀ x : Rat, evQ F x * ((ldP G : Int) : Rat) ^ e = evQ Q x * evQ G x + evQ R x) (hlt : nr + 1 ≤ (trimZ G).length) (ht : trimZ R = R) (hl : R.length = nr) : ((nr : Int) = 0) ↔ P G ∣ P F := by
  have hG : ldP G ≠ 0 := by rw [ld_ne_iff, dg_pos, dg_P]; omega
  have hL := pow_ne (cast_ne hG) e
  have e1 : K (((ldP G : Int) : Rat) ^ e) * P F = P Q * P G + P R := QP.eq fun x => by
    have := h x
    simp only [v_mul, v_K, v_add, v_P]
    grind
  constructor
  · intro h0
    have : R = [] := List.eq_nil_of_length_eq_zero (by omega)
    rw [this, P_nil] at e1
    refine (dvd_K hL).1 ⟨P Q, ?_⟩
    rw [e1]; exact QP.eq fun x => by simp only [v_add, v_0]; grind
  · intro hd
    have h2 : P G ∣ P R := by
      have : P R = K (((ldP G : Int) : Rat) ^ e) * P F - P Q * P G := by rw [e1]; exact QP.eq fun x => by simp only [v_add, v_sub]; grind
      rw [this]
      exact qdvd_sub (qdvd_mulL _ hd) (qdvd_mulL _ (qdvd_refl _))
    have h3 := dvd_small h2 (by rw [dg_P, dg_P, ht]; omega)
    have h4 := dg_zero.2 h3
    rw [dg_P, ht] at h4
    omega
theorem div_zero {F G : List Int} {a b : Int} (ha : a = ((trimZ G).length : Int) - 1) (hn : a < 0) (hb : b = ((trimZ F).length : Int) - 1) : b < 0 ↔ P G ∣ P F := by
  have hG : P G = 0 := dg_zero.1 (by rw [dg_P]; omega)
  rw [hG]
  constructor
  · intro h
    have : P F = 0 := dg_zero.1 (by rw [dg_P]; omega)
    rw [this]; exact qdvd_refl _
  · intro h
    have := dg_zero.2 (zero_qdvd h)
    rw [dg_P] at this
    omega
/-- What the removal of a factor starts from. -/
def RemC (F G : List Int) : Prop := P (primP F) ≠ 0 ∧ 2 ≤ (trimZ G).length ∧ P (primP G) ≠ 0 ∧ contP (primP G) = 1 ∧ ldP (primP G) ≠ 0
/-- k times the factor G, and the rest. -/
def Rem (F G : List Int) (k : Nat) (R : List Int) : Prop :=
  (RemC F G ∧ P (primP F) = P R * P (primP G) ^ k ∧ ¬ P (primP G) ∣ P R) ∨ ((P F = 0 ∨ (trimZ G).length < 2) ∧ k = 0 ∧ R = primP F)
theorem rem_open {F G A B : List Int} (hA : A = primP F) (hB : B = primP G) (h1 : A.length ≠ 0) (h2 : 2 ≤ B.length) : RemC F G := by
  subst hA hB
  rw [prim_len] at h1 h2
  have hG : ldP G ≠ 0 := by rw [ld_ne_iff, dg_pos, dg_P]; omega
  exact ⟨dg_pos.2 (by rw [dg_P, prim_trim, prim_len]; omega), h2, dg_pos.2 (by rw [dg_P, prim_trim, prim_len]; omega), cont_prim hG, by have := ld_prim hG; omega⟩
theorem rem_none {F G A B : List Int} (hA : A = primP F) (hB : B = primP G) (h : A.length = 0 ∨ B.length < 2) : Rem F G 0 A := by
  subst hA hB
  rw [prim_len, prim_len] at h
  exact .inr ⟨h.imp (fun h => dg_zero.1 (by rw [dg_P]; omega)) id, rfl, rfl⟩
theorem rem_start (A : List Int) (g : QP) : P A = P A * g ^ 0 := by rw [qp_pow_zero]; exact QP.eq fun x => by simp only [v_mul, v_1]; grind
theorem rem_quo {A B Q G : List Int} (h : ∀ x : Rat, evQ A x = evQ Q x * evQ B x) (hB : B = G) : P A = P Q * P G := by subst hB; exact QP.eq h
theorem rmv_step {f a q g : QP} {k : Nat} (h : f = a * g ^ k) (hq : a = q * g) : f = q * g ^ (k + 1) := by
  rw [h, hq, qp_pow_succ]; exact QP.eq fun x => by simp only [v_mul]; grind
theorem rem_ne {a q g : QP} (h : a ≠ 0) (hq : a = q * g) : q ≠ 0 := fun e => h (by rw [hq, e]; exact QP.eq fun x => by simp only [v_mul, v_0]; grind)
theorem rem_lt {A Q G : List Int} (h : P A ≠ 0) (hq : P A = P Q * P (primP G)) (hg : P (primP G) ≠ 0) (h2 : 2 ≤ (trimZ G).length) : (trimZ Q).length < (trimZ A).length := by
  have h1 := dg_mul (rem_ne h hq) hg
  rw [← hq, dg_P, dg_P, dg_P, prim_trim, prim_len] at h1
  omega
theorem rem_bud {B E a b M T : Nat} (h : B + E * a ≤ M + E * T) (hlt : b < a) : B + E + E * b ≤ M + E * T := by
  have : E * (b + 1) ≤ E * a := Nat.mul_le_mul_left _ hlt
  rw [Nat.mul_succ] at this
  omega
def remM (M G : Nat) : Nat := M + 4096 * (G + 16) + 1
theorem rem_big {B G a M T : Nat} (h : B + 64 * (G + 16) * a ≤ M + 1 + 64 * (G + 16) * T) (hT : T ≤ 64) : B ≤ remM M G := by
  unfold remM
  have h1 : 64 * (G + 16) * T ≤ 64 * (G + 16) * 64 := Nat.mul_le_mul_left _ hT
  have e : 64 * (G + 16) * 64 = 4096 * (G + 16) := by rw [Nat.mul_comm (64 * (G + 16)) 64, ← Nat.mul_assoc]
  rw [e] at h1
  generalize 64 * (G + 16) * T = X at h h1
  generalize 64 * (G + 16) * a = Y at h
  omega
theorem rem_cap {B G M : Nat} (h : B ≤ remM M G) (hM : M ≤ 4096) (hG : G ≤ 4096) : B ≤ 268435456 :=
  Nat.le_trans h (Nat.le_trans (Nat.add_le_add_right (Nat.add_le_add hM (Nat.mul_le_mul_left 4096 (Nat.add_le_add_right hG 16))) 1) (by decide))
/-- The removal finds the multiplicity. -/
theorem rem_mul {F G R : List Int} {k : Nat} (h : Rem F G k R) (hF : P F ≠ 0) (hG : 2 ≤ (trimZ G).length) : Mul_ (P F) (P G) k := by
  rcases h with ⟨⟨h1, h2, h3, h4, h5⟩, e, hn⟩ | ⟨h, _⟩
  · have hG' : ldP G ≠ 0 := by rw [ld_ne_iff, dg_pos, dg_P]; omega
    have hF' : ldP F ≠ 0 := (ld_ne_iff F).2 hF
    have : Mul_ (P (primP F)) (P (primP G)) k := ⟨P R, e, hn⟩
    have := mul_assocd (cast_ne (primC_ne hF')) (cast_ne (primC_ne hG')) this
    rwa [← P_prim, ← P_prim] at this
  · rcases h with h | h
    · exact absurd h hF
    · omega
theorem rem_zero {F G R : List Int} {k : Nat} (h : Rem F G k R) (h0 : P F = 0 ∨ (trimZ G).length < 2) : k = 0 := by
  rcases h with ⟨⟨h1, h2, _⟩, _⟩ | ⟨_, h, _⟩
  · exfalso
    rcases h0 with h0 | h0
    · apply h1
      have hl := ld_zero ((ld_zero_iff F).2 h0)
      unfold primP; rw [hl]; exact P_nil
    · omega
  · exact h
end Go.Gx
