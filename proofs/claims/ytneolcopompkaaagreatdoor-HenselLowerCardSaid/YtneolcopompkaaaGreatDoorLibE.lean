/-
  The laws of the walks and the plain laws of numbers and polynomials, part 5: FacSort.
-/
import Derived.Test.YtneolcopompkaaaGreatDoorLibC
import Derived.Test.YtneolcopompkaaaGreatDoorLibD

/-
 slices.SortFunc over lists of polynomials modulo a number: what it leaves behind. No program in sight.
-/
namespace Go.Gx
open Go.RowKit Go.Sort Go.Proofs Go.Shelf
def CandN (w : World) (blk : Nat) (f : NE) : Prop := NatR w (fun b => b ≠ blk) f.A f.n f.c f.d ∧ f.n ≤ 64
def cellsN (l : List NE) : List Value := l.map LN.v
def CmpOkN (P : Program) (g : Nat) (cap : Array Value) (p : Nat) (w : World) (blk : Nat) : Prop := ∀ (W : World), Frm (fun b => b = blk) w W → ∀ a b : NE, CandN W blk a → CandN W blk b → Calls P g (#[.slice a.A a.n a.c, .slice b.A b.n b.c] ++ cap) W (Ret fun v w' => v = .int .i64 (cmpP (zl (nrmP p a.d)) (zl (nrmP p b.d))) ∧ Ext W w')
theorem sort_callsN {P : Program} {ρ : Ren} (L : SlLaysF.n6 P ρ) {g blk el n c p : Nat} {cap : Array Value} {w : World} {ps : List NE} {sp : List Value} (hg : ∀ args w, (callFunc g args).run P w = .ok (.enter g args) w) (hB : Blk w blk el (cellsN ps ++ sp)) (hn : ps.length = n) (hn0 : 0 < n) (hsz : n < 4611686018427387904)
  (hP : ∀ f ∈ ps, CandN w blk f) (hC : CmpOkN P g cap p w blk) :
  Calls P (ρ.f 6) #[.slice (some ⟨blk, 0, none⟩) n c, .func (.func g) #[] cap] w fun e w' => e = .returned (.tuple #[]) ∧ ∃ qs, qs.Perm ps ∧ Frm (fun b => b = blk) w w' ∧ Blk w' blk el (cellsN qs ++ sp) := by
 subst hn
 let α := { f : NE // CandN w blk f }
 obtain ⟨f0, hf0⟩ : ∃ f, f ∈ ps := by
  cases ps with
  | nil => simp at hn0
  | cons a l => exact ⟨a, by simp⟩
 letI : Inhabited α := ⟨⟨f0, hP f0 hf0⟩⟩
 let enc : α → Value := fun x => LN.v x.1
 let cf : α → α → Int := fun x y => cmpP (zl (nrmP p x.1.d)) (zl (nrmP p y.1.d))
 let d : Array α := (ps.attachWith (CandN w blk) hP).toArray
 have hd : d.size = ps.length := by
  show (ps.attachWith (CandN w blk) hP).toArray.size = _
  rw [List.size_toArray, List.length_attachWith]
 have hde : d.toList.map enc = cellsN ps := by
  simp only [d, enc, cellsN, List.toList_toArray]
  conv => rhs; rw [← List.attachWith_map_subtype_val hP]
  rw [List.map_map]; rfl
 have hH : Holds enc w blk 0 d := holds_blk (el := el) d [] sp (by rw [hde]; exact hB)
 have hL : CmpLays1 P g cap enc cf blk 0 d.size w := by
  intro m os dk hs x y
  have hF : Frm (fun b => b = blk) w (sortWorld enc w blk 0 m dk os) := sort_frm dk m os
  have cx : CandN (sortWorld enc w blk 0 m dk os) blk x.1 := ⟨x.2.1.frmB hF fun b _ hb he => hb he, x.2.2⟩
  have cy : CandN (sortWorld enc w blk 0 m dk os) blk y.1 := ⟨y.2.1.frmB hF fun b _ hb he => hb he, y.2.2⟩
  refine Calls.mono (hC _ hF x.1 y.1 cx cy) ?_
  rintro e w' ⟨v, rfl, rfl, hE⟩
  exact ⟨rfl, ext_grow hE⟩
 have hS := Any.slices_SortFunc L enc (fun _ => rfl) cf (sort_swo _) g cap blk 0 c d w hg hL hH hB.lt (by rw [hd]; exact hsz)
 rw [hd] at hS
 refine Calls.mono hS ?_
 rintro e w' ⟨rfl, d', k, os, ⟨hs', _, hperm⟩, hsorted, rfl⟩
 have hs2 : d'.size = d.size := hs'
 have hp : d'.toList.Perm d.toList := by
  have h1 : d'.extract 0 ps.length = d' := by rw [← hd, ← hs2]; simp
  have h2 : d.extract 0 ps.length = d := by rw [← hd]; simp
  rw [h1, h2] at hperm
  exact hperm
 refine ⟨rfl, d'.toList.map (·.1), ?_, sort_frm d' k os, ?_⟩
 ·have := hp.map (fun x : α => x.1)
  have e : d.toList.map (fun x : α => x.1) = ps := by simp only [d, List.toList_toArray]; exact List.attachWith_map_subtype_val hP
  rw [e] at this
  exact this
 ·have h1 := sort_blk (enc := enc) (w := w) d' k os hB
  rw [putCells_list d' (cellsN ps) sp (by rw [cellsN, List.length_map]; omega)] at h1
  have e2 : d'.toList.map enc = cellsN (d'.toList.map (·.1)) := by simp [cellsN, enc]
  rw [e2] at h1
  exact h1
end Go.Gx
