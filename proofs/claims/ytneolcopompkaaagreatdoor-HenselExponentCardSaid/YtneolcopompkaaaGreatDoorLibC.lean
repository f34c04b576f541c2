/-
  The laws of the walks and the plain laws of numbers and polynomials, part 3: Open.
-/
import Derived.Test.YtneolcopompkaaaGreatDoorLibB
import Derived.Deep.Slices
import Derived.ProofKit
/-
  Arguments that came in, read as the walks want them. No program in sight.
-/
namespace Go.Gx
open Go.RowKit Go.ChangeShapes Go.WideShapes Go.Deep
section
variable {H : Type} {enc : TypeId × Value → H} {P : Program} {w : World} {base : Nat} {spare : Nat → Bool} {held : Bool}
theorem u32_wf {n : Int} (h : (Lit.int .u32 n).wf = true) : 0 ≤ n ∧ n < 4294967296 := by
  have h1 : IntKind.u32.min ≤ n ∧ n ≤ IntKind.u32.max := by simpa [Lit.wf] using h
  have e1 : IntKind.u32.min = 0 := by decide
  have e2 : IntKind.u32.max = 4294967295 := by decide
  omega
theorem nat_list : ∀ (zs : List Int), (∀ z ∈ zs, 0 ≤ z ∧ z < 4294967296) → ∃ ds : List Nat, ds.map (fun d : Nat => (d : Int)) = zs ∧ ∀ d ∈ ds, d < BS
  | [], _ => ⟨[], rfl, by simp⟩
  | z :: zs, h => by
    obtain ⟨ds, h1, h2⟩ := nat_list zs fun x hx => h x (by simp [hx])
    have h0 := h z (by simp)
    refine ⟨z.toNat :: ds, by simp [h1]; omega, fun d hd => ?_⟩
    rcases List.mem_cons.1 hd with h3 | h3
    · subst h3; show z.toNat < 4294967296; omega
    · exact h2 d h3
/-- A slice of digits that came in. -/
theorem open_nat {t e : TypeId} {fuel : Nat} {v : Value} {x : DataW H × List MemPlace} (ht : P.underlying t = some (.slice e)) (he : P.underlying e = some (.int .u32)) (hc : P.cellsOf e = 1)
    (h : DataW.trod enc P w base spare held fuel t [v] = some x) : ∃ A n c d, v = .slice A n c ∧ NatR w (fun _ => True) A n c d := by
  rcases open_ints ht he hc h with ⟨hcs, _⟩ | ⟨a, len, cap, zs, hcs, hb, hl, hm, hz, _, hcell, hwf⟩
  · simp at hcs; subst hcs; exact ⟨none, 0, 0, [], rfl, NatR.nil⟩
  · simp at hcs
    subst hcs
    have hlen : len ≤ zs.length := by rw [hz]; split <;> omega
    obtain ⟨ds, hds, hlt⟩ := nat_list zs fun z hz' => u32_wf (hwf z hz')
    have hdl : ds.length = zs.length := by rw [← hds]; simp
    refine ⟨some a, len, cap, ds.take len, rfl, ⟨⟨by simp; omega, hl, by simp [CapMax, maxLen] at hm ⊢; omega, fun h0 => ?_⟩, fun d hd => hlt d (List.mem_of_mem_take hd)⟩⟩
    have hc0 := hcell 0 (by omega)
    have hs : (a.add 0).spot = none := World.cell?_spot hc0
    obtain ⟨b, off, spot⟩ := a
    have hsp : spot = none := by simpa [Addr.add] using hs
    subst hsp
    refine ⟨b, off, rfl, trivial, ?_, fun j u hj => ?_⟩
    · have := World.block_lt_of_cell? w _ hc0
      simpa [addr_add] using this
    · have hjl : j < len := by
        rcases Nat.lt_or_ge j len with h1 | h1
        · exact h1
        · rw [List.getElem?_eq_none (by simp; omega)] at hj; cases hj
      have h2 := hcell j (by omega)
      rw [addr_add] at h2
      rw [h2]
      simp only [List.getElem?_map, List.getElem?_take_of_lt hjl] at hj
      rw [List.getElem?_eq_getElem (by omega)] at hj
      simp [u32] at hj
      rw [← hj]
      have : zs.getD j 0 = (ds[j] : Int) := by
        have e := congrArg (fun l : List Int => l.getD j 0) hds
        simp only [List.getD, List.getElem?_map] at e
        rw [List.getElem?_eq_getElem (by omega)] at e
        simpa [List.getD] using e.symm
      rw [this]
end
end Go.Gx
namespace Go.Gx
open Go.RowKit Go.ChangeShapes Go.WideShapes Go.Deep
section
variable {H : Type} {enc : TypeId × Value → H} {P : Program} {w : World} {base : Nat} {spare : Nat → Bool} {held : Bool}
theorem u32_came {t : TypeId} {fuel : Nat} {n : Int} {x : DataW H × List MemPlace} (ht : P.underlying t = some (.int .u32)) (h : DataW.trod enc P w base spare held fuel t [.int .u32 n] = some x) : ∃ y : Nat, n = (y : Int) ∧ y < 4294967296 := by
  obtain ⟨m, e, _, hw⟩ := DataW.trod_int ht h
  simp at e
  subst e
  have h1 : IntKind.u32.min ≤ n ∧ n ≤ IntKind.u32.max := by simpa [Lit.wf] using hw
  have e1 : IntKind.u32.min = 0 := by decide
  have e2 : IntKind.u32.max = 4294967295 := by decide
  exact ⟨n.toNat, by omega, by omega⟩
end
end Go.Gx
namespace Go.Gx
open Go.RowKit Go.ChangeShapes Go.WideShapes Go.Deep
section
variable {H : Type} {enc : TypeId × Value → H} {P : Program} {w : World} {base : Nat} {spare : Nat → Bool} {held : Bool}
/-- An integer that came in. -/
theorem open_int {t tb tn tu : TypeId} {f0 f1 : Field} {fuel : Nat} {cs : Array Value} {x : DataW H × List MemPlace} (he : P.underlying t = some (.struct #[f0, f1]))
    (h0 : f0.type = tb ∧ f0.offset = 0 ∧ P.cellsOf tb = 1 ∧ P.underlying tb = some .bool) (h1 : f1.type = tn ∧ f1.offset = 1 ∧ P.cellsOf tn = 1 ∧ P.underlying tn = some (.slice tu)) (hu : P.underlying tu = some (.int .u32) ∧ P.cellsOf tu = 1) (hsz : cs.size = 2)
    (h : DataW.trod enc P w base spare held fuel t cs.toList = some x) : ∃ g A n c d, cs = #[.bool g, .slice A n c] ∧ NatR w (fun _ => True) A n c d := by
  obtain ⟨t0, o0, c0, u0⟩ := h0
  obtain ⟨t1, o1, c1, u1⟩ := h1
  obtain ⟨v0, v1, rfl⟩ : ∃ v0 v1, cs = #[v0, v1] := by
    obtain ⟨l⟩ := cs
    match l, hsz with
    | [v0, v1], _ => exact ⟨v0, v1, rfl⟩
  obtain ⟨y0, y1, k', _, _, hy0, hy1⟩ := trod_struct2 he h
  rw [t0, o0, c0] at hy0
  rw [t1, o1, c1] at hy1
  simp at hy0 hy1
  obtain ⟨b, hb', _⟩ := DataW.trod_bool u0 hy0
  simp at hb'
  obtain ⟨A', n', c', d', hv1, hN⟩ := open_nat u1 hu.1 hu.2 hy1
  subst hb' hv1
  exact ⟨b, A', n', c', d', rfl, hN⟩
end
end Go.Gx
