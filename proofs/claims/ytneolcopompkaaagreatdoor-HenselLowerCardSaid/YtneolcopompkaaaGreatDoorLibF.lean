/-
  The laws of the walks and the plain laws of numbers and polynomials, part 6: Open, Open16, OpenTab, Open2.
-/
import Derived.Test.YtneolcopompkaaaGreatDoorLibC
import Derived.Deep.Slices
import Derived.ProofKit
import Derived.OpenShut
import Derived.Test.YtneolcopompkaaaGreatDoorRows
import Derived.LaidMore
import Derived.Stop.Joined
/-
 Arguments that came in, read as the walks want them. No program in sight.
-/
namespace Go.Gx
open Go.RowKit Go.ChangeShapes Go.WideShapes Go.Deep
section
variable {H : Type} {enc : TypeId × Value → H} {P : Program} {w : World} {base : Nat} {spare : Nat → Bool} {held : Bool}
theorem u32_wf {n : Int} (h : (Lit.int .u32 n).wf = true) : 0 ≤ n ∧ n < 4294967296 := by
 have h1 : IntKind.u32.min ≤ n ∧ n ≤ IntKind.u32.max := by simpa [Lit.wf] using h
 have e1 : IntKind.u32.min = 0 := by decide
 have e2 : IntKind.u32.max = 4294967295 := by decide
 omega
theorem nat_list : ∀ (zs : List Int), (∀ z ∈ zs, 0 ≤ z ∧ z < 4294967296) → ∃ ds : List Nat, ds.map (fun d : Nat => (d : Int)) = zs ∧ ∀ d ∈ ds, d < BS
 | [], _ => ⟨[], rfl, by simp⟩
 | z :: zs, h => by
  obtain ⟨ds, h1, h2⟩ := nat_list zs fun x hx => h x (by simp [hx])
  have h0 := h z (by simp)
  refine ⟨z.toNat :: ds, by simp [h1]; omega, fun d hd => ?_⟩
  rcases List.mem_cons.1 hd with h3 | h3
  ·subst h3; show z.toNat < 4294967296; omega
  ·exact h2 d h3
theorem open_nat {t e : TypeId} {fuel : Nat} {v : Value} {x : DataW H × List MemPlace} (ht : P.underlying t = some (.slice e)) (he : P.underlying e = some (.int .u32)) (hc : P.cellsOf e = 1)
  (h : DataW.trod enc P w base spare held fuel t [v] = some x) : ∃ A n c d, v = .slice A n c ∧ NatR w (fun _ => True) A n c d := by
 rcases open_ints ht he hc h with ⟨hcs, _⟩ | ⟨a, len, cap, zs, hcs, hb, hl, hm, hz, _, hcell, hwf⟩
 ·simp at hcs; subst hcs; exact ⟨none, 0, 0, [], rfl, NatR.nil⟩
 ·simp at hcs
  subst hcs
  have hlen : len ≤ zs.length := by rw [hz]; split <;> omega
  obtain ⟨ds, hds, hlt⟩ := nat_list zs fun z hz' => u32_wf (hwf z hz')
  have hdl : ds.length = zs.length := by rw [← hds]; simp
  refine ⟨some a, len, cap, ds.take len, rfl, ⟨⟨by simp; omega, hl, by simp [CapMax, maxLen] at hm ⊢; omega, fun h0 => ?_⟩, fun d hd => hlt d (List.mem_of_mem_take hd)⟩⟩
  have hc0 := hcell 0 (by omega)
  have hs : (a.add 0).spot = none := World.cell?_spot hc0
  obtain ⟨b, off, spot⟩ := a
  have hsp : spot = none := by simpa [Addr.add] using hs
  subst hsp
  refine ⟨b, off, rfl, trivial, ?_, fun j u hj => ?_⟩
  ·have := World.block_lt_of_cell? w _ hc0
   simpa [addr_add] using this
  ·have hjl : j < len := by
    rcases Nat.lt_or_ge j len with h1 | h1
    ·exact h1
    ·rw [List.getElem?_eq_none (by simp; omega)] at hj; cases hj
   have h2 := hcell j (by omega)
   rw [addr_add] at h2
   rw [h2]
   simp only [List.getElem?_map, List.getElem?_take_of_lt hjl] at hj
   rw [List.getElem?_eq_getElem (by omega)] at hj
   simp [u32] at hj
   rw [← hj]
   have : zs.getD j 0 = (ds[j] : Int) := by
    have e := congrArg (fun l : List Int => l.getD j 0) hds
    simp only [List.getD, List.getElem?_map] at e
    rw [List.getElem?_eq_getElem (by omega)] at e
    simpa [List.getD] using e.symm
   rw [this]
theorem choose_list {Q : Nat → RI → Prop} : ∀ (n : Nat), (∀ i, i < n → ∃ r, Q i r) → ∃ l : List RI, l.length = n ∧ ∀ i r, l[i]? = some r → Q i r
 | 0, _ => ⟨[], rfl, fun i r h => by simp at h⟩
 | n + 1, h => by
  obtain ⟨l, hl, hq⟩ := choose_list n fun i hi => h i (by omega)
  obtain ⟨r, hr⟩ := h n (by omega)
  refine ⟨l ++ [r], by simp [hl], fun i x hx => ?_⟩
  rcases Nat.lt_trichotomy i l.length with h1 | h1 | h1
  ·rw [List.getElem?_append_left h1] at hx; exact hq i x hx
  ·subst h1; simp at hx; subst hx; rw [hl]; exact hr
  ·rw [List.getElem?_eq_none (by simp; omega)] at hx; cases hx
theorem NatR.len_le {S : Nat → Prop} {A : Option Addr} {n c : Nat} {d : List Nat} (h : NatR w S A n c d) : n ≤ 9223372036854775807 := Nat.le_trans h.cap h.max
theorem open_poly {t e tb tn tu : TypeId} {f0 f1 : Field} {fuel : Nat} {A : Option Addr} {n c : Nat} {x : DataW H × List MemPlace} (ht : P.underlying t = some (.slice e)) (he : P.underlying e = some (.struct #[f0, f1]))
  (h0 : f0.type = tb ∧ f0.offset = 0 ∧ P.cellsOf tb = 1 ∧ P.underlying tb = some .bool) (h1 : f1.type = tn ∧ f1.offset = 1 ∧ P.cellsOf tn = 1 ∧ P.underlying tn = some (.slice tu)) (hu : P.underlying tu = some (.int .u32) ∧ P.cellsOf tu = 1) (hC : P.cellsOf e = 2)
  (h : DataW.trod enc P w base spare held fuel t [.slice A n c] = some x) : ∃ l, PolyR w (fun _ => True) A n c l 9223372036854775807 := by
 obtain ⟨t0, o0, c0, u0⟩ := h0
 obtain ⟨t1, o1, c1, u1⟩ := h1
 rcases open_slice ht h with ⟨hcs, _⟩ | ⟨a, len, cap, m, k, D, Pl, hcs, hb, hl, hm, hmm, _, hi⟩
 ·simp at hcs; obtain ⟨rfl, rfl, rfl⟩ := hcs; exact ⟨[], PolyR.nil⟩
 ·simp at hcs
  obtain ⟨rfl, rfl, rfl⟩ := hcs
  have hml : n ≤ m := by rw [hmm]; split <;> omega
  have each : ∀ i, i < n → ∃ r : RI, w.cell? (a.add (i * 2)) = some (.bool r.neg) ∧ w.cell? (a.add (i * 2 + 1)) = some (.slice r.A r.n r.c) ∧ NatR w (fun _ => True) r.A r.n r.c r.d := by
   intro i hin
   obtain ⟨cs', hc', htr⟩ := hi i (by omega)
   rw [hC] at hc'
   obtain ⟨_, hcl, hat⟩ := World.cells?_some hc'
   obtain ⟨y0, y1, k', _, _, hy0, hy1⟩ := trod_struct2 he htr
   rw [t0, o0, c0] at hy0
   rw [t1, o1, c1] at hy1
   match cs', hcl with
   | [v0, v1], _ =>
    simp at hy0 hy1
    obtain ⟨b, hb', _⟩ := DataW.trod_bool u0 hy0
    simp at hb'
    obtain ⟨A', n', c', d', hv1, hN⟩ := open_nat u1 hu.1 hu.2 hy1
    have e0 := hat 0 (by omega)
    have e1 := hat 1 (by omega)
    simp only [Go.Deep.add_add] at e0 e1
    refine ⟨⟨b, A', n', c', d'⟩, ?_, ?_, hN⟩
    ·rw [show i * 2 = i * 2 + 0 from rfl, e0]; simp [hb']
    ·rw [e1]; simp [hv1]
  obtain ⟨l, hll, hq⟩ := choose_list n each
  refine ⟨l, ⟨by rw [cellsI_len, hll], hl, by simp [CapMax, maxLen] at hm ⊢; omega, fun hn0 => ?_⟩, fun r hr => ?_⟩
  ·obtain ⟨r0, hr0, _, _⟩ := each 0 hn0
   have hs : (a.add (0 * 2)).spot = none := World.cell?_spot hr0
   obtain ⟨b, off, spot⟩ := a
   have hsp : spot = none := by simpa [Addr.add] using hs
   subst hsp
   refine ⟨b, off, rfl, trivial, ?_, fun j v hj => ?_⟩
   ·have := World.block_lt_of_cell? w _ hr0
    simpa [addr_add] using this
   ·have hjl : j < l.length * 2 := by
     rw [← cellsI_len]
     rcases Nat.lt_or_ge j (cellsI l).length with h2 | h2
     ·exact h2
     ·rw [List.getElem?_eq_none h2] at hj; cases hj
    have hlt : j / 2 < l.length := by omega
    have hget : l[j / 2]? = some l[j / 2] := List.getElem?_eq_getElem hlt
    have hcg := cellsI_get hget
    have hqq := hq _ _ hget
    simp only [addr_add] at hqq
    rcases Nat.mod_two_eq_zero_or_one j with h3 | h3
    ·have h4 : j / 2 * 2 = j := by omega
     rw [h4] at hcg hqq
     rw [hcg.1] at hj
     injection hj with hj; subst hj
     exact hqq.1
    ·have h4 : j / 2 * 2 + 1 = j := by omega
     rw [h4] at hcg hqq
     rw [hcg.2] at hj
     injection hj with hj; subst hj
     exact hqq.2.1
  ·obtain ⟨i, hi', e⟩ := List.getElem_of_mem hr
   have := hq i r (by rw [List.getElem?_eq_getElem hi', e])
   exact ⟨this.2.2, NatR.len_le this.2.2⟩
end
end Go.Gx
namespace Go.Gx
open Go.RowKit Go.ChangeShapes Go.WideShapes Go.Deep
section
variable {H : Type} {enc : TypeId × Value → H} {P : Program} {w : World} {base : Nat} {spare : Nat → Bool} {held : Bool}
end
end Go.Gx
namespace Go.Gx
open Go.RowKit Go.ChangeShapes Go.WideShapes Go.Deep
section
variable {H : Type} {enc : TypeId × Value → H} {P : Program} {w : World} {base : Nat} {spare : Nat → Bool} {held : Bool}
end
end Go.Gx

/-
 Small integers that came in, and slices of these. No program in sight.
-/
namespace Go.Gx
open Go.RowKit Go.ChangeShapes Go.WideShapes Go.Deep
section
variable {H : Type} {enc : TypeId × Value → H} {P : Program} {w : World} {base : Nat} {spare : Nat → Bool} {held : Bool}
theorem u8_came {t : TypeId} {fuel : Nat} {n : Int} {x : DataW H × List MemPlace} (ht : P.underlying t = some (.int .u8)) (h : DataW.trod enc P w base spare held fuel t [.int .u8 n] = some x) : ∃ y : Nat, n = (y : Int) ∧ y < 256 := by
 obtain ⟨m, e, _, hw⟩ := DataW.trod_int ht h
 simp at e
 subst e
 have h1 : IntKind.u8.min ≤ n ∧ n ≤ IntKind.u8.max := by simpa [Lit.wf] using hw
 have e1 : IntKind.u8.min = 0 := by decide
 have e2 : IntKind.u8.max = 255 := by decide
 exact ⟨n.toNat, by omega, by omega⟩
theorem okWide_arr {t e : TypeId} {n b : Nat} {r : Reach} {v : Value} (ht : P.underlying t = some (.array n e)) (h : Value.okWide P w r b t v) : ∃ cs, v = .agg cs ∧ cs.size = P.cellsOf t := by
 simp only [Value.okWide, ht] at h
 obtain ⟨cs, h1, h2, _⟩ := h
 exact ⟨cs, h1, h2⟩
theorem u8_one {t : TypeId} {fuel : Nat} {v : Value} {x : DataW H × List MemPlace} (ht : P.underlying t = some (.int .u8)) (h : DataW.trod enc P w base spare held fuel t [v] = some x) : ∃ y : Nat, v = .int .u8 (y : Int) ∧ y < 256 := by
 obtain ⟨m, e, _, hw⟩ := DataW.trod_int ht h
 simp at e
 subst e
 have h1 : IntKind.u8.min ≤ m ∧ m ≤ IntKind.u8.max := by simpa [Lit.wf] using hw
 have e1 : IntKind.u8.min = 0 := by decide
 have e2 : IntKind.u8.max = 255 := by decide
 exact ⟨m.toNat, by rw [show ((m.toNat : Nat) : Int) = m by omega], by omega⟩
end
end Go.Gx

/-
 The table that the row lists, as the walks want it.
-/
namespace Go.Proofs.YtneolcopompkaaaGreatDoor
open Go.ChangeShapes Go.WideShapes Go.ChangeAt Go.RowKit Go.Gx
theorem tab_of_laid {W : World} (h : laidMetH Tryz.prog [("math/bits.deBruijn32tab", Rows.laid_math_bits_deBruijn32tab)] W) : TabR W := by
 rw [MakeChecks.laidMetH_plain _ _ _ (by kernel_rfl)] at h
 obtain ⟨ps, ⟨g, t, cs, fuel, p, q, hg, ht, hv, hd, _, _⟩, _, _⟩ := h
 obtain rfl := Option.some.inj ((show Tryz.prog.globalNamed "math/bits.deBruijn32tab" = some 0 by kernel_rfl).symm.trans hg)
 obtain rfl := Option.some.inj ((show (Tryz.prog.globals[0]?).map (·.type) = some 149 by kernel_rfl).symm.trans ht)
 obtain ⟨xs, m, _, ex, _, hl, hel⟩ := DataW.trod_array Tryz.underlying149 hd
 have c5 : Tryz.prog.cellsOf 5 = 1 := by kernel_rfl
 have hlen : tabL.length = 32 := rfl
 have e3 : (xs.map (·.1)) = tabL.map fun n => .lit (.int .u8 ((n : Nat) : Int)) := (DataW.agg.inj (Prod.mk.inj ex).1).symm
 have key : ∀ r, r < 32 → W.cell? ⟨0, r, none⟩ = some (u8v (tabL.getD r 0)) := by
  intro r hr
  have hE := hel r hr
  rw [c5, Nat.mul_one, List.getElem?_eq_getElem (by omega)] at hE
  obtain ⟨z, e1, e2, _⟩ := DataW.trod_int Tryz.underlying5 hE
  have e4 : (xs.map (·.1))[r]? = (tabL.map fun n => (DataW.lit (.int .u8 ((n : Nat) : Int)) : DataW _))[r]? := by rw [e3]
  rw [List.getElem?_map, List.getElem?_map, List.getElem?_eq_getElem (by omega : r < xs.length), List.getElem?_eq_getElem (by omega : r < tabL.length), Option.map_some, Option.map_some, e2] at e4
  have hz : z = ((tabL.getD r 0 : Nat) : Int) := by
   have h5 := Option.some.inj e4
   rw [List.getD, List.getElem?_eq_getElem (by omega : r < tabL.length)]
   simpa using h5
  have hc := World.var?_cell hg hv r
  have h6 : cs.toList[r]? = some (.int .u8 z) := by
   have h7 := congrArg (fun l => l[0]?) e1
   simpa [List.getElem?_take, List.getElem?_drop] using h7
  rw [hc, ← Array.getElem?_toList, h6, hz]
  rfl
 refine ⟨rfl, Nat.le_refl _, by decide, fun _ => ⟨0, 0, rfl, rfl, ?_, fun j v hj => ?_⟩⟩
 ·have h0 := key 0 (by omega)
  rcases Nat.lt_or_ge 0 W.heap.size with h1 | h1
  ·exact h1
  ·unfold World.cell? at h0
   rw [Array.getElem?_eq_none h1] at h0
   cases h0
 ·have hj' : j < 32 := by
   have := (List.getElem?_eq_some_iff.1 hj).1
   rw [List.length_map, hlen] at this
   exact this
  rw [Nat.zero_add, key j hj']
  rw [List.getElem?_map, List.getElem?_eq_getElem (by omega : j < tabL.length)] at hj
  rw [List.getD, List.getElem?_eq_getElem (by omega : j < tabL.length)]
  exact hj
end Go.Proofs.YtneolcopompkaaaGreatDoor

/-
 A pair of bytes that came in. No program in sight.
-/
namespace Go.Gx
open Go.RowKit Go.ChangeShapes Go.WideShapes Go.Deep
section
variable {H : Type} {enc : TypeId × Value → H} {P : Program} {w : World} {base : Nat} {spare : Nat → Bool} {held : Bool}
theorem open_u8x2 {t e : TypeId} {fuel : Nat} {cs : Array Value} {x : DataW H × List MemPlace} (ht : P.underlying t = some (.array 2 e)) (he : P.underlying e = some (.int .u8)) (hc : P.cellsOf e = 1) (hsz : cs.size = 2)
  (h : DataW.trod enc P w base spare held fuel t cs.toList = some x) : ∃ a b : Nat, cs = #[.int .u8 (a : Int), .int .u8 (b : Int)] ∧ a < 256 ∧ b < 256 := by
 obtain ⟨v0, v1, rfl⟩ : ∃ v0 v1, cs = #[v0, v1] := by
  obtain ⟨l⟩ := cs
  match l, hsz with
  | [v0, v1], _ => exact ⟨v0, v1, rfl⟩
 obtain ⟨xs, m, _, _, _, hl, hi⟩ := DataW.trod_array ht h
 have one : ∀ i, i < 2 → ∃ y, DataW.trod enc P w base spare held m e (([v0, v1].drop i).take 1) = some y := fun i hi4 => by
  have h1 := hi i hi4
  rw [hc, Nat.mul_one] at h1
  exact ⟨xs[i]'(by omega), by rw [← List.getElem?_eq_getElem]; exact h1⟩
 obtain ⟨_, h0⟩ := one 0 (by omega)
 obtain ⟨_, h1⟩ := one 1 (by omega)
 obtain ⟨a, rfl, ha⟩ := u8_one he h0
 obtain ⟨b, rfl, hb⟩ := u8_one he h1
 exact ⟨a, b, rfl, ha, hb⟩
end
end Go.Gx
