/-
  Lists of small integers that came in, lists that grow, two polynomials in a list. No program in sight.
-/
import Derived.Test.YteiagkehhlpidaaRefPreds
import Derived.Test.YteiagkehhlpidaaSqMath
namespace Go.Gx
open Go.RowKit
def I16R (w : World) (S : Nat → Prop) (A : Option Addr) (n c : Nat) (xs : List Int) : Prop := Rd w S A n c 1 (xs.map (Value.int .i16)) ∧ ∀ x ∈ xs, -32768 ≤ x ∧ x ≤ 32767
section
variable {w w' : World} {S S' G : Nat → Prop} {A : Option Addr} {n c : Nat} {xs : List Int}
theorem I16R.frmB (h : I16R w S A n c xs) (f : Frm G w w') (hd : ∀ b, b < w.heap.size → S b → ¬ G b) : I16R w' S A n c xs := ⟨h.1.frmB f hd, h.2⟩
theorem I16R.ext (h : I16R w S A n c xs) (f : Ext w w') : I16R w' S A n c xs := ⟨h.1.ext f, h.2⟩
theorem I16R.low (h : I16R w S A n c xs) : I16R w (· < w.heap.size) A n c xs := ⟨h.1.low, h.2⟩
theorem I16R.len (h : I16R w S A n c xs) : xs.length = n := by have := h.1.1; simpa using this
theorem I16R.lkm (h : I16R w S A n c xs) : xs.length = n ∧ n ≤ c ∧ c ≤ 9223372036854775807 := ⟨h.len, h.1.2.1, h.1.2.2.1⟩
theorem I16R.base (h : I16R w S A n c xs) (hn : 0 < n) : ∃ b off, A = some ⟨b, off, none⟩ := h.1.base hn
theorem I16R.rng (h : I16R w S A n c xs) (i : Nat) : -32768 ≤ xs.getD i 0 ∧ xs.getD i 0 ≤ 32767 := by
  rcases Nat.lt_or_ge i xs.length with hi | hi
  · simp only [List.getD, List.getElem?_eq_getElem hi, Option.getD_some]; exact h.2 _ (List.getElem_mem hi)
  · simp [List.getD, List.getElem?_eq_none hi]
theorem I16R.cell {b off : Nat} (h : I16R w S (some ⟨b, off, none⟩) n c xs) {i : Nat} (hi : i < n) : w.cell? ⟨b, off + i, none⟩ = some (.int .i16 (xs.getD i 0)) := by
  refine h.1.cell ?_
  have hl : i < xs.length := by rw [h.len]; exact hi
  simp [List.getElem?_map, List.getElem?_eq_getElem hl]
theorem Own.intsR {B : Nat} {e : TypeId} (h : Own w B e 1 A n c (xs.map (Value.int .i64))) (hx : ∀ x ∈ xs, -9223372036854775808 ≤ x ∧ x ≤ 9223372036854775807) : IntsR w (fun b => B ≤ b) A n c xs := ⟨h.rd, hx⟩
end
theorem take_snoc16 {O F : List Int} {k : Nat} (h : O = F.take k) (hk : k < F.length) : O ++ [F.getD k 0] = F.take (k + 1) := by
  rw [h, List.take_add_one, List.getElem?_eq_getElem hk]; simp [List.getD, List.getElem?_eq_getElem hk]
theorem small_snoc {O : List Int} {x : Int} (h : ∀ y ∈ O, -32768 ≤ y ∧ y ≤ 32767) (hx : -32768 ≤ x ∧ x ≤ 32767) : ∀ y ∈ O ++ [x], -32768 ≤ y ∧ y ≤ 32767 := fun y hy => by
  rcases List.mem_append.1 hy with h1 | h1
  · exact h y h1
  · simp at h1; subst h1; exact hx
theorem small_wide {O : List Int} (h : ∀ y ∈ O, -32768 ≤ y ∧ y ≤ 32767) : ∀ y ∈ O, -9223372036854775808 ≤ y ∧ y ≤ 9223372036854775807 := fun y hy => by have := h y hy; omega
/-- One of two polynomials of a list. -/
theorem two_polys {w : World} {g : Nat} {t : TypeId} {S : Nat → Prop} {Af Ag : Option Addr} {nf cf ng cg Mf Mg k : Nat} {lf lg : List RI} (h : Blk w g t [.slice Af nf cf, .slice Ag ng cg]) (hf : PolyR w S Af nf cf lf Mf) (hg : PolyR w S Ag ng cg lg Mg) (hk : k < 2) :
    ∃ A n c l, w.cell? ⟨g, k, none⟩ = some (.slice A n c) ∧ PolyR w S A n c l (max Mf Mg) ∧ (k = 0 → zs l = zs lf ∧ n = nf) ∧ (k = 1 → zs l = zs lg ∧ n = ng) := by
  rcases (show k = 0 ∨ k = 1 by omega) with rfl | rfl
  · exact ⟨Af, nf, cf, lf, h.at_ rfl, hf.le (by omega), fun _ => ⟨rfl, rfl⟩, fun h => by omega⟩
  · exact ⟨Ag, ng, cg, lg, h.at_ rfl, hg.le (by omega), fun h => by omega, fun _ => ⟨rfl, rfl⟩⟩
theorem one_poly {w : World} {g : Nat} {t : TypeId} {S : Nat → Prop} {Af : Option Addr} {nf cf Mf k : Nat} {lf : List RI} (h : Blk w g t [.slice Af nf cf]) (hf : PolyR w S Af nf cf lf Mf) (hk : k < 1) :
    ∃ A n c l, w.cell? ⟨g, k, none⟩ = some (.slice A n c) ∧ PolyR w S A n c l Mf ∧ zs l = zs lf ∧ n = nf := by
  obtain rfl : k = 0 := by omega
  exact ⟨Af, nf, cf, lf, h.at_ rfl, hf, rfl, rfl⟩
/-- One of the three factors: f with the power xk, nothing with the power 0, f with the power -3. -/
theorem three_facs {w : World} {g : Nat} {t : TypeId} {S : Nat → Prop} {Af : Option Addr} {nf cf Mf k : Nat} {lf : List RI} {xk : Int} (h : Blk w g t [.slice Af nf cf, .int .i64 xk, .slice none 0 0, .int .i64 0, .slice Af nf cf, .int .i64 (-3)]) (hf : PolyR w S Af nf cf lf Mf) (hk : k < 3) :
    ∃ A n c l x, w.cell? ⟨g, k * 2, none⟩ = some (.slice A n c) ∧ w.cell? ⟨g, k * 2 + 1, none⟩ = some (.int .i64 x) ∧ PolyR w S A n c l Mf ∧ n ≤ nf ∧ (k = 0 → zs l = zs lf ∧ x = xk) ∧ (k ≠ 0 → -3 ≤ x ∧ x ≤ 0) := by
  rcases (show k = 0 ∨ k = 1 ∨ k = 2 by omega) with rfl | rfl | rfl
  · exact ⟨Af, nf, cf, lf, xk, h.at_ rfl, h.at_ rfl, hf, Nat.le_refl _, fun _ => ⟨rfl, rfl⟩, fun h => absurd rfl h⟩
  · exact ⟨none, 0, 0, [], 0, h.at_ rfl, h.at_ rfl, PolyR.nil, Nat.zero_le _, fun h => by omega, fun _ => by omega⟩
  · exact ⟨Af, nf, cf, lf, -3, h.at_ rfl, h.at_ rfl, hf, Nat.le_refl _, fun h => by omega, fun _ => by omega⟩
end Go.Gx
