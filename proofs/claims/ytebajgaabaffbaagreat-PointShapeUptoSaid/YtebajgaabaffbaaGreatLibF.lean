/-
  The laws of the walks and the plain laws of numbers and polynomials, part 6: Open, Open16, OpenT, OpenPt.
-/
import Derived.Test.YtebajgaabaffbaaGreatLibB
import Derived.Deep.Slices
import Derived.ProofKit
import Derived.OpenShut
import Derived.Test.YtebajgaabaffbaaGreatRows
/-
 Arguments that came in, read as the walks want them. No program in sight.
-/
namespace Go.Gx
open Go.RowKit Go.ChangeShapes Go.WideShapes Go.Deep
section
variable {H : Type} {enc : TypeId × Value → H} {P : Program} {w : World} {base : Nat} {spare : Nat → Bool} {held : Bool}
end
end Go.Gx
namespace Go.Gx
open Go.RowKit Go.ChangeShapes Go.WideShapes Go.Deep
section
variable {H : Type} {enc : TypeId × Value → H} {P : Program} {w : World} {base : Nat} {spare : Nat → Bool} {held : Bool}
end
end Go.Gx
namespace Go.Gx
open Go.RowKit Go.ChangeShapes Go.WideShapes Go.Deep
section
variable {H : Type} {enc : TypeId × Value → H} {P : Program} {w : World} {base : Nat} {spare : Nat → Bool} {held : Bool}
end
end Go.Gx

/-
 Small integers that came in, and slices of these. No program in sight.
-/
namespace Go.Gx
open Go.RowKit Go.ChangeShapes Go.WideShapes Go.Deep
section
variable {H : Type} {enc : TypeId × Value → H} {P : Program} {w : World} {base : Nat} {spare : Nat → Bool} {held : Bool}
theorem i8_wf {n : Int} (h : (Lit.int .i8 n).wf = true) : -128 ≤ n ∧ n ≤ 127 := by
 have h1 : IntKind.i8.min ≤ n ∧ n ≤ IntKind.i8.max := by simpa [Lit.wf] using h
 have e1 : IntKind.i8.min = -128 := by decide
 have e2 : IntKind.i8.max = 127 := by decide
 omega
end
end Go.Gx

/-
 Slices of arrays of three int8 that came in. No program in sight.
-/
namespace Go.Gx
open Go.RowKit Go.ChangeShapes Go.WideShapes Go.Deep
section
variable {H : Type} {enc : TypeId × Value → H} {P : Program} {w : World} {base : Nat} {spare : Nat → Bool} {held : Bool}
theorem i8_one {t : TypeId} {fuel : Nat} {v : Value} {x : DataW H × List MemPlace} (ht : P.underlying t = some (.int .i8)) (h : DataW.trod enc P w base spare held fuel t [v] = some x) : ∃ y : Int, v = .int .i8 y ∧ -128 ≤ y ∧ y ≤ 127 := by
 obtain ⟨m, e, _, hw⟩ := DataW.trod_int ht h
 simp at e
 exact ⟨m, e, i8_wf hw⟩
end
end Go.Gx

/-
 Polynomials and points that came in. No program in sight.
-/
namespace Go.Gx
open Go.RowKit Go.ChangeShapes Go.WideShapes Go.Deep Go.Proofs.YtebajgaabaffbaaGreat
theorem bk_one {H : Type} (d : DataW H) : 1 ≤ Rows.uptoBulk d := by
 cases d with
 | lit l => cases l <;> simp [Rows.uptoBulk]
 | _ => simp [Rows.uptoBulk]
theorem bk_len {H : Type} : ∀ l : List (DataW H), l.length ≤ Rows.uptoBulkAll l
 | [] => by simp [Rows.uptoBulkAll]
 | d :: l => by have h1 := bk_one d; have h2 := bk_len l; simp only [Rows.uptoBulkAll, List.length_cons]; omega
theorem bk_mem {H : Type} {d : DataW H} : ∀ {l : List (DataW H)}, d ∈ l → Rows.uptoBulk d ≤ Rows.uptoBulkAll l
 | x :: l, h => by
  simp only [Rows.uptoBulkAll]
  rcases List.mem_cons.1 h with rfl | h
  ·omega
  ·have := bk_mem h; omega
theorem choose_g {α : Type} {Q : Nat → α → Prop} : ∀ (n : Nat), (∀ i, i < n → ∃ r, Q i r) → ∃ l : List α, l.length = n ∧ ∀ i r, l[i]? = some r → Q i r
 | 0, _ => ⟨[], rfl, fun i r h => by simp at h⟩
 | n + 1, h => by
  obtain ⟨l, hl, hq⟩ := choose_g n fun i hi => h i (by omega)
  obtain ⟨r, hr⟩ := h n (by omega)
  refine ⟨l ++ [r], by simp [hl], fun i x hx => ?_⟩
  rcases Nat.lt_trichotomy i l.length with h1 | h1 | h1
  ·rw [List.getElem?_append_left h1] at hx; exact hq i x hx
  ·subst h1; simp at hx; subst hx; rw [hl]; exact hr
  ·rw [List.getElem?_eq_none (by simp; omega)] at hx; cases hx
section
variable {H : Type} {enc : TypeId × Value → H} {P : Program} {w : World} {base : Nat} {spare : Nat → Bool} {held : Bool}
theorem open_list {α : Type} (L : SK α) (B : Nat) {t e : TypeId} {fuel : Nat} {A : Option Addr} {n c : Nat} {x : DataW H × List MemPlace} (ht : P.underlying t = some (.slice e)) (hC : P.cellsOf e = L.k) (hb : Rows.uptoBulk x.1 ≤ B)
  (each : ∀ (m : Nat) (cs : List Value) (y : DataW H × List MemPlace), cs.length = L.k → Rows.uptoBulk y.1 ≤ B → DataW.trod enc P w base spare held m e cs = some y → ∃ f, cs = L.cells f ∧ L.R w (fun _ => True) f)
  (h : DataW.trod enc P w base spare held fuel t [.slice A n c] = some x) : (∃ l, SListR L w (fun _ => True) A n c l) ∧ n ≤ B := by
 rcases open_slice ht h with ⟨hcs, _⟩ | ⟨a, len, cap, m, k, D, Pl, hcs, hbb, hl, hm, hmm, hx, hi⟩
 ·simp at hcs; obtain ⟨rfl, rfl, rfl⟩ := hcs; exact ⟨⟨[], SListR.nil⟩, by omega⟩
 ·simp at hcs
  obtain ⟨rfl, rfl, rfl⟩ := hcs
  have hml : n ≤ m := by rw [hmm]; split <;> omega
  have hx1 : x.1 = .slice ((List.range n).map D) ((List.range (m - n)).map fun j => D (n + j)) := by rw [hx]
  rw [hx1] at hb
  simp only [Rows.uptoBulk] at hb
  have hlen := bk_len ((List.range n).map D)
  simp only [List.length_map, List.length_range] at hlen
  refine ⟨?_, by omega⟩
  have one : ∀ i, i < n → ∃ f : α, (∀ (j : Nat) v, (L.cells f)[j]? = some v → w.cell? (a.add (i * L.k + j)) = some v) ∧ L.R w (fun _ => True) f := by
   intro i hin
   obtain ⟨cs', hc', htr⟩ := hi i (by omega)
   rw [hC] at hc'
   obtain ⟨_, hcl, hat⟩ := World.cells?_some hc'
   have hd := bk_mem (List.mem_map_of_mem (f := D) (List.mem_range.2 hin))
   obtain ⟨f, rfl, hf⟩ := each _ _ _ hcl (by dsimp only; omega) htr
   refine ⟨f, fun j v hj => ?_, hf⟩
   have hjl : j < L.k := by
    have := (List.getElem?_eq_some_iff.1 hj).1
    rw [L.len] at this; exact this
   have h1 := hat j hjl
   simp only [Go.Deep.add_add] at h1
   rw [h1]; exact hj
  obtain ⟨l, hll, hq⟩ := choose_g n one
  refine ⟨l, ⟨by rw [L.flat_len, hll], hl, by simp [CapMax, maxLen] at hm ⊢; omega, fun hn0 => ?_⟩, fun f hf => ?_⟩
  ·obtain ⟨r0, hr0, _⟩ := one 0 hn0
   have hk := L.pos
   have hr0 := hr0 0 _ (List.getElem?_eq_getElem (by rw [L.len]; exact hk))
   have hs : (a.add (0 * L.k + 0)).spot = none := World.cell?_spot hr0
   obtain ⟨b, off, spot⟩ := a
   have hsp : spot = none := by simpa [Addr.add] using hs
   subst hsp
   refine ⟨b, off, rfl, trivial, ?_, fun j v hj => ?_⟩
   ·have := World.block_lt_of_cell? w _ hr0
    simpa [addr_add] using this
   ·have hjl : j < l.length * L.k := by
     rw [← L.flat_len]
     exact (List.getElem?_eq_some_iff.1 hj).1
    have hlt : j / L.k < l.length := Nat.div_lt_of_lt_mul (by rw [Nat.mul_comm]; exact hjl)
    have hget : l[j / L.k]? = some l[j / L.k] := List.getElem?_eq_getElem hlt
    have h4 : j / L.k * L.k + j % L.k = j := by rw [Nat.mul_comm]; exact Nat.div_add_mod j L.k
    have hmod : j % L.k < L.k := Nat.mod_lt _ hk
    have hv : (L.cells l[j / L.k])[j % L.k]? = some ((L.cells l[j / L.k])[j % L.k]'(by rw [L.len]; exact hmod)) := List.getElem?_eq_getElem _
    have hcg := SK.flat_get L hget hv
    have hqq := (hq _ _ hget).1 (j % L.k) _ hv
    simp only [addr_add] at hqq
    rw [h4] at hcg hqq
    rw [hcg] at hj
    injection hj with hj; subst hj
    exact hqq
  ·obtain ⟨i, hi', e⟩ := List.getElem_of_mem hf
   exact (hq i f (by rw [List.getElem?_eq_getElem hi', e])).2
theorem u8_int {t : TypeId} {fuel : Nat} {v : Value} {x : DataW H × List MemPlace} (ht : P.underlying t = some (.int .u8)) (h : DataW.trod enc P w base spare held fuel t [v] = some x) : ∃ y : Int, v = .int .u8 y ∧ 0 ≤ y ∧ y ≤ 255 := by
 obtain ⟨m, e, _, hw⟩ := DataW.trod_int ht h
 simp at e
 have h1 : IntKind.u8.min ≤ m ∧ m ≤ IntKind.u8.max := by simpa [Lit.wf] using hw
 have e1 : IntKind.u8.min = 0 := by decide
 have e2 : IntKind.u8.max = 255 := by decide
 exact ⟨m, e, by omega, by omega⟩
theorem open_i8x2 {t e : TypeId} {fuel : Nat} {cs : List Value} {x : DataW H × List MemPlace} (hl : cs.length = 2) (ht : P.underlying t = some (.array 2 e)) (he : P.underlying e = some (.int .i8)) (hc : P.cellsOf e = 1)
  (h : DataW.trod enc P w base spare held fuel t cs = some x) : ∃ a b : Int, cs = [.int .i8 a, .int .i8 b] ∧ (-128 ≤ a ∧ a ≤ 127) ∧ -128 ≤ b ∧ b ≤ 127 := by
 match cs, hl with
 | [v0, v1], _ =>
  obtain ⟨xs, m, _, _, _, hl, hi⟩ := DataW.trod_array ht h
  have one : ∀ i, i < 2 → ∃ y, DataW.trod enc P w base spare held m e (([v0, v1].drop i).take 1) = some y := fun i hi3 => by
   have h1 := hi i hi3
   rw [hc, Nat.mul_one] at h1
   exact ⟨xs[i]'(by omega), by rw [← List.getElem?_eq_getElem]; exact h1⟩
  obtain ⟨_, h0⟩ := one 0 (by omega)
  obtain ⟨_, h1⟩ := one 1 (by omega)
  obtain ⟨a, rfl, ha⟩ := i8_one he h0
  obtain ⟨b, rfl, hb⟩ := i8_one he h1
  exact ⟨a, b, rfl, ha, hb⟩
theorem open_u8x4l {t e : TypeId} {fuel : Nat} {cs : List Value} {x : DataW H × List MemPlace} (hl : cs.length = 4) (ht : P.underlying t = some (.array 4 e)) (he : P.underlying e = some (.int .u8)) (hc : P.cellsOf e = 1)
  (h : DataW.trod enc P w base spare held fuel t cs = some x) : ∃ a b c d : Int, cs = [.int .u8 a, .int .u8 b, .int .u8 c, .int .u8 d] ∧ (0 ≤ a ∧ a ≤ 255) ∧ (0 ≤ b ∧ b ≤ 255) ∧ (0 ≤ c ∧ c ≤ 255) ∧ 0 ≤ d ∧ d ≤ 255 := by
 match cs, hl with
 | [v0, v1, v2, v3], _ =>
  obtain ⟨xs, m, _, _, _, hl, hi⟩ := DataW.trod_array ht h
  have one : ∀ i, i < 4 → ∃ y, DataW.trod enc P w base spare held m e (([v0, v1, v2, v3].drop i).take 1) = some y := fun i hi3 => by
   have h1 := hi i hi3
   rw [hc, Nat.mul_one] at h1
   exact ⟨xs[i]'(by omega), by rw [← List.getElem?_eq_getElem]; exact h1⟩
  obtain ⟨_, h0⟩ := one 0 (by omega)
  obtain ⟨_, h1⟩ := one 1 (by omega)
  obtain ⟨_, h2⟩ := one 2 (by omega)
  obtain ⟨_, h3⟩ := one 3 (by omega)
  obtain ⟨a, rfl, ha⟩ := u8_int he h0
  obtain ⟨b, rfl, hb⟩ := u8_int he h1
  obtain ⟨c, rfl, hc'⟩ := u8_int he h2
  obtain ⟨d, rfl, hd⟩ := u8_int he h3
  exact ⟨a, b, c, d, rfl, ha, hb, hc', hd⟩
theorem open_i8x2x2 {t e e8 : TypeId} {fuel : Nat} {cs : List Value} {x : DataW H × List MemPlace} (hl : cs.length = 4) (ht : P.underlying t = some (.array 2 e)) (hC : P.cellsOf e = 2) (he : P.underlying e = some (.array 2 e8)) (h8 : P.underlying e8 = some (.int .i8)) (hc : P.cellsOf e8 = 1)
  (h : DataW.trod enc P w base spare held fuel t cs = some x) : ∃ a b p q : Int, cs = [.int .i8 a, .int .i8 b, .int .i8 p, .int .i8 q] ∧ ((-128 ≤ a ∧ a ≤ 127) ∧ -128 ≤ b ∧ b ≤ 127) ∧ (-128 ≤ p ∧ p ≤ 127) ∧ -128 ≤ q ∧ q ≤ 127 := by
 match cs, hl with
 | [v0, v1, v2, v3], _ =>
  obtain ⟨xs, m, _, _, _, hl, hi⟩ := DataW.trod_array ht h
  have one : ∀ i, i < 2 → ∃ y, DataW.trod enc P w base spare held m e (([v0, v1, v2, v3].drop (i * 2)).take 2) = some y := fun i hi3 => by
   have h1 := hi i hi3
   rw [hC] at h1
   exact ⟨xs[i]'(by omega), by rw [← List.getElem?_eq_getElem]; exact h1⟩
  obtain ⟨_, h0⟩ := one 0 (by omega)
  obtain ⟨_, h1⟩ := one 1 (by omega)
  obtain ⟨a, b, e1, ha⟩ := open_i8x2 rfl he h8 hc h0
  obtain ⟨p, q, e2, hp⟩ := open_i8x2 rfl he h8 hc h1
  simp at e1 e2
  obtain ⟨rfl, rfl⟩ := e1
  obtain ⟨rfl, rfl⟩ := e2
  exact ⟨a, b, p, q, rfl, ha, hp⟩
structure PtT (P : Program) (tM tm tE t2 t8 ta tu tC : TypeId) where
 s8 : P.underlying t8 = some (.int .i8) ∧ P.cellsOf t8 = 1
 su : P.underlying tu = some (.int .u8) ∧ P.cellsOf tu = 1
 sa : P.underlying ta = some (.array 4 tu) ∧ P.cellsOf ta = 4
 s2 : P.underlying t2 = some (.array 2 t8) ∧ P.cellsOf t2 = 2
 sE : P.underlying tE = some (.array 2 t2) ∧ P.cellsOf tE = 4
 sM : P.underlying tM = some (.slice tm) ∧ P.cellsOf tM = 1
 sm : ∃ f0 f1 : Field, P.underlying tm = some (.struct #[f0, f1]) ∧ (f0.type = t8 ∧ f0.offset = 0) ∧ (f1.type = ta ∧ f1.offset = 1) ∧ P.cellsOf tm = 5
 sC : ∃ f0 f1 : Field, P.underlying tC = some (.struct #[f0, f1]) ∧ (f0.type = tM ∧ f0.offset = 0) ∧ (f1.type = tE ∧ f1.offset = 1) ∧ P.cellsOf tC = 5
variable {tM tm tE t2 t8 ta tu tC : TypeId}
theorem PtT.mono (T : PtT P tM tm tE t2 t8 ta tu tC) (m : Nat) (cs : List Value) (y : DataW H × List MemPlace) (hl : cs.length = 5) (h : DataW.trod enc P w base spare held m tm cs = some y) : ∃ f, cs = MEK.cells f ∧ MEK.R w (fun _ => True) f := by
 obtain ⟨f0, f1, hu, ⟨a1, a2⟩, ⟨b1, b2⟩, _⟩ := T.sm
 obtain ⟨y0, y1, k, _, _, h0, h1⟩ := trod_struct2 hu h
 rw [a1, a2, T.s8.2] at h0
 rw [b1, b2, T.sa.2] at h1
 match cs, hl with
 | [v0, v1, v2, v3, v4], _ =>
  obtain ⟨v, rfl, hv⟩ := i8_one T.s8.1 h0
  obtain ⟨a, b, c, d, e, ha, hb, hc, hd⟩ := open_u8x4l rfl T.sa.1 T.su.1 T.su.2 h1
  simp at e
  obtain ⟨rfl, rfl, rfl, rfl⟩ := e
  exact ⟨⟨v, a, b, c, d⟩, rfl, hv, ha, hb, hc, hd⟩
theorem PtT.monos (T : PtT P tM tm tE t2 t8 ta tu tC) {fuel : Nat} {A : Option Addr} {n c : Nat} {x : DataW H × List MemPlace} (hb : Rows.uptoBulk x.1 ≤ 1048576) (h : DataW.trod enc P w base spare held fuel tM [.slice A n c] = some x) :
  (∃ l, SListR MEK w (fun _ => True) A n c l) ∧ n ≤ 1048576 := by
 obtain ⟨_, _, _, _, _, h5⟩ := T.sm
 exact open_list MEK 1048576 T.sM.1 h5 hb (fun m cs y hl _ hy => T.mono m cs y hl hy) h
theorem PtT.monosV (T : PtT P tM tm tE t2 t8 ta tu tC) {fuel : Nat} {v : Value} {x : DataW H × List MemPlace} (hb : Rows.uptoBulk x.1 ≤ 1048576) (h : DataW.trod enc P w base spare held fuel tM [v] = some x) :
  ∃ A n c l, v = .slice A n c ∧ SListR MEK w (fun _ => True) A n c l ∧ n ≤ 1048576 := by
 obtain ⟨A, n, c, rfl⟩ : ∃ A n c, v = .slice A n c := by
  rcases open_slice T.sM.1 h with ⟨hcs, _⟩ | ⟨a, len, cap, m, k, D, Pl, hcs, _⟩
  ·simp at hcs; exact ⟨none, 0, 0, hcs⟩
  ·simp at hcs; exact ⟨_, _, _, hcs⟩
 obtain ⟨⟨l, hl⟩, hn⟩ := T.monos hb h
 exact ⟨A, n, c, l, rfl, hl, hn⟩
theorem PtT.coord (T : PtT P tM tm tE t2 t8 ta tu tC) (m : Nat) (cs : List Value) (y : DataW H × List MemPlace) (hl : cs.length = 5) (hb : Rows.uptoBulk y.1 ≤ 1048576) (h : DataW.trod enc P w base spare held m tC cs = some y) : ∃ f, cs = UEK.cells f ∧ UEK.R w (fun _ => True) f := by
 obtain ⟨f0, f1, hu, ⟨a1, a2⟩, ⟨b1, b2⟩, _⟩ := T.sC
 obtain ⟨y0, y1, k, hy, _, h0, h1⟩ := trod_struct2 hu h
 rw [a1, a2, T.sM.2] at h0
 rw [b1, b2, T.sE.2] at h1
 rw [hy] at hb
 simp only [Rows.uptoBulk, Rows.uptoBulkAll] at hb
 match cs, hl with
 | [v0, v1, v2, v3, v4], _ =>
  obtain ⟨A, n, c, l, rfl, hl, hn⟩ := T.monosV (by omega) h0
  obtain ⟨a, b, p, q, e, hab, hpq⟩ := open_i8x2x2 rfl T.sE.1 T.s2.2 T.s2.1 T.s8.1 T.s8.2 h1
  simp at e
  obtain ⟨rfl, rfl, rfl, rfl⟩ := e
  exact ⟨⟨A, n, c, l, a, b, p, q⟩, rfl, hl, hab, hpq, hn⟩
theorem PtT.coords (T : PtT P tM tm tE t2 t8 ta tu tC) {t : TypeId} (ht : P.underlying t = some (.slice tC)) {fuel : Nat} {A : Option Addr} {n c : Nat} {x : DataW H × List MemPlace} (hb : Rows.uptoBulk x.1 ≤ 1048576) (h : DataW.trod enc P w base spare held fuel t [.slice A n c] = some x) :
  (∃ l, SListR UEK w (fun _ => True) A n c l) ∧ n ≤ 1048576 := by
 obtain ⟨_, _, _, _, _, h5⟩ := T.sC
 exact open_list UEK 1048576 ht h5 hb (fun m cs y hl hby hy => T.coord m cs y hl hby hy) h
end
end Go.Gx
