/-
  The laws of the walks and the plain laws of numbers and polynomials, part 4: SortPreds.
-/
import Derived.Test.YtbniolgfaeiedaaGreatLibC
import Derived.Shelf.SlSortCmp.NoneTotal
/-
  slices.SortFunc over slices of polynomials: what it leaves behind. No program in sight.
-/
namespace Go.Gx
open Go.RowKit Go.Sort Go.Proofs Go.Shelf
/-- Behind an extension: draws and blocks. -/
theorem ext_grow {w w' : World} (h : Ext w w') : ∃ q os, w' = grow (w.drewN q) os := by
  refine ⟨w'.drawn - w.drawn, w'.heap.extract w.heap.size w'.heap.size, ?_⟩
  have hd := h.drawn
  have hh : w'.heap = w.heap ++ w'.heap.extract w.heap.size w'.heap.size := by
    apply Array.ext
    · have := h.size; simp; omega
    · intro i h1 h2
      rw [Array.getElem_append]
      split
      · rename_i hi
        have := h.block i hi (fun f => f)
        rw [Array.getElem?_eq_getElem h1, Array.getElem?_eq_getElem hi] at this
        injection this
      · simp
        congr 1
        omega
  obtain ⟨hp, tp, dr, os, out⟩ := w'
  obtain ⟨hp0, tp0, dr0, os0, out0⟩ := w
  have e1 := h.os
  have e2 := h.tape
  have e3 := h.output
  dsimp only at *
  subst e1 e2 e3
  unfold grow World.drewN
  dsimp only
  rw [← hh, show dr0 + (dr - dr0) = dr by omega]
section
variable {α : Type} [Inhabited α] {enc : α → Value} {w : World} {blk : Nat} {el : TypeId} {cs : List Value}
theorem sort_frm (d : Array α) (n : Nat) (os : Array Obj) : Frm (fun b => b = blk) w (sortWorld enc w blk 0 n d os) := by
  refine ⟨rfl, rfl, rfl, by simp [sortWorld, grow], by simp [sortWorld, grow, Sort.ahead, putRow, mapBlock], fun k hk hne => ?_⟩
  unfold sortWorld
  have h1 : (grow (putRow enc (Sort.ahead w n) blk 0 d) os).heap[k]? = (putRow enc (Sort.ahead w n) blk 0 d).heap[k]? := by
    unfold grow
    dsimp only
    rw [Array.getElem?_append_left (by simpa [Sort.ahead] using hk)]
  rw [h1]
  have hne' : ¬ blk = k := fun e => hne e.symm
  simp [putRow, mapBlock, Sort.ahead, Array.getElem?_modify, hne']
theorem sort_blk (d : Array α) (n : Nat) (os : Array Obj) (h : Blk w blk el cs) : Blk (sortWorld enc w blk 0 n d os) blk el (putCells enc 0 d cs.toArray).toList := by
  have hlt := h.lt
  unfold Blk at h ⊢
  unfold sortWorld grow
  dsimp only
  rw [Array.getElem?_append_left (by simpa [Sort.ahead] using hlt)]
  simp [putRow, mapBlock, Sort.ahead, Array.getElem?_modify, h, onCells]
theorem putCells_list (d : Array α) (ps sp : List Value) (h : ps.length = d.size) : (putCells enc 0 d (ps ++ sp).toArray).toList = d.toList.map enc ++ sp := by
  apply List.ext_getElem
  · simp [putCells]; omega
  · intro i h1 h2
    simp only [putCells, Array.toList_mapIdx, List.getElem_mapIdx]
    by_cases hi : i < d.size
    · rw [if_pos ⟨Nat.zero_le _, by omega⟩, List.getElem_append_left (by simpa using hi)]
      simp [hi]
    · rw [if_neg (by omega)]
      have h3 : (d.toList.map enc).length ≤ i := by rw [List.length_map, Array.length_toList]; omega
      rw [List.getElem_append_right h3]
      refine (List.getElem_append_right (show ps.length ≤ i by omega)).trans ?_
      have h4 : (d.toList.map enc).length = ps.length := by rw [List.length_map, Array.length_toList, h]
      congr 1
      show i - ps.length = i - (d.toList.map enc).length
      rw [h4]
theorem holds_blk (d : Array α) (ps sp : List Value) (h : Blk w blk el (d.toList.map enc ++ sp)) : Holds enc w blk 0 d := fun j hj => by
  have hb := h
  unfold Blk at hb
  refine ⟨?_, by unfold World.frozen?; dsimp only; rw [hb]; rfl⟩
  rw [Nat.zero_add]
  refine h.at_ ?_
  rw [List.getElem?_append_left (by rw [List.length_map, Array.length_toList]; exact hj), List.getElem?_map, Array.getElem?_toList, Array.getElem?_eq_getElem hj, getElem!_pos d j hj]
  rfl
end
/-- A polynomial that a sort may compare. -/
def Cand (w : World) (blk M : Nat) (f : PE) : Prop := PolyR w (fun b => b ≠ blk) f.A f.n f.c f.l M ∧ f.n ≤ 11
/-- What the closure of the sort is asked for. -/
def CmpOk (P : Program) (g : Nat) (w : World) (blk M : Nat) : Prop := ∀ (W : World), Frm (fun b => b = blk) w W → ∀ a b : PE, Cand W blk M a → Cand W blk M b → Calls P g #[.slice a.A a.n a.c, .slice b.A b.n b.c] W (Ret fun v w' => v = .int .i64 (cmpP (trimZ (zs a.l)) (trimZ (zs b.l))) ∧ Ext W w')
theorem sort_swo {α : Type} (f : α → List Int) : SWO (ltOf fun x y : α => cmpP (f x) (f y)) where
  irrefl x := by simp [ltOf, cmpP_self]
  trans x y z h1 h2 := by simp only [ltOf, decide_eq_true_eq] at *; exact cmpP_trans h1 h2
  ntrans x y z h1 h2 := by
    simp only [ltOf, decide_eq_false_iff_not] at *
    intro h3
    have a1 := cmpP_anti (f x) (f y)
    have a2 := cmpP_anti (f y) (f z)
    by_cases e1 : cmpP (f x) (f y) = 0
    · rw [cmpP_zero.1 e1] at h3; exact h2 h3
    · by_cases e2 : cmpP (f y) (f z) = 0
      · rw [← cmpP_zero.1 e2] at h3; exact h1 h3
      · have t := cmpP_trans (f := f z) (g := f y) (h := f x) (by omega) (by omega)
        have a3 := cmpP_anti (f z) (f x)
        omega
theorem sort_calls {P : Program} {ρ : Ren} (L : SlLaysF.n6 P ρ) {g blk el n c M : Nat} {w : World} {ps : List PE} {sp : List Value} (hg : ∀ args w, (callFunc g args).run P w = .ok (.enter g args) w) (hB : Blk w blk el (cellsP ps ++ sp)) (hn : ps.length = n) (hn0 : 0 < n) (hsz : n < 4611686018427387904)
    (hP : ∀ f ∈ ps, Cand w blk M f) (hC : CmpOk P g w blk M) :
    Calls P (ρ.f 6) #[.slice (some ⟨blk, 0, none⟩) n c, .func (.func g) #[] #[]] w fun e w' => e = .returned (.tuple #[]) ∧ ∃ qs, qs.Perm ps ∧ (qs.Pairwise fun a b => ¬ cmpP (trimZ (zs b.l)) (trimZ (zs a.l)) < 0) ∧ Frm (fun b => b = blk) w w' ∧ Blk w' blk el (cellsP qs ++ sp) := by
  subst hn
  let α := { f : PE // Cand w blk M f }
  obtain ⟨f0, hf0⟩ : ∃ f, f ∈ ps := by
    cases ps with
    | nil => simp at hn0
    | cons a l => exact ⟨a, by simp⟩
  letI : Inhabited α := ⟨⟨f0, hP f0 hf0⟩⟩
  let enc : α → Value := fun x => x.1.v
  let cf : α → α → Int := fun x y => cmpP (trimZ (zs x.1.l)) (trimZ (zs y.1.l))
  let d : Array α := (ps.attachWith (Cand w blk M) hP).toArray
  have hd : d.size = ps.length := by
    show (ps.attachWith (Cand w blk M) hP).toArray.size = _
    rw [List.size_toArray, List.length_attachWith]
  have hde : d.toList.map enc = cellsP ps := by
    simp only [d, enc, cellsP, List.toList_toArray]
    conv => rhs; rw [← List.attachWith_map_subtype_val hP]
    rw [List.map_map]; rfl
  have hH : Holds enc w blk 0 d := holds_blk (el := el) d [] sp (by rw [hde]; exact hB)
  have hL : CmpLays1 P g #[] enc cf blk 0 d.size w := by
    intro m os dk hs x y
    have hF : Frm (fun b => b = blk) w (sortWorld enc w blk 0 m dk os) := sort_frm dk m os
    have cx : Cand (sortWorld enc w blk 0 m dk os) blk M x.1 := ⟨x.2.1.frmB hF fun b _ hb he => hb he, x.2.2⟩
    have cy : Cand (sortWorld enc w blk 0 m dk os) blk M y.1 := ⟨y.2.1.frmB hF fun b _ hb he => hb he, y.2.2⟩
    refine Calls.mono (hC _ hF x.1 y.1 cx cy) ?_
    rintro e w' ⟨v, rfl, rfl, hE⟩
    exact ⟨rfl, ext_grow hE⟩
  have hS := Any.slices_SortFunc L enc (fun _ => rfl) cf (sort_swo _) g #[] blk 0 c d w hg hL hH hB.lt (by rw [hd]; exact hsz)
  rw [hd] at hS
  refine Calls.mono hS ?_
  rintro e w' ⟨rfl, d', k, os, ⟨hs', _, hperm⟩, hsorted, rfl⟩
  have hs2 : d'.size = d.size := hs'
  have hp : d'.toList.Perm d.toList := by
    have h1 : d'.extract 0 ps.length = d' := by rw [← hd, ← hs2]; simp
    have h2 : d.extract 0 ps.length = d := by rw [← hd]; simp
    rw [h1, h2] at hperm
    exact hperm
  refine ⟨rfl, d'.toList.map (·.1), ?_, ?_, sort_frm d' k os, ?_⟩
  · have := hp.map (fun x : α => x.1)
    have e : d.toList.map (fun x : α => x.1) = ps := by simp only [d, List.toList_toArray]; exact List.attachWith_map_subtype_val hP
    rw [e] at this
    exact this
  · rw [List.pairwise_map]
    refine List.pairwise_iff_getElem.2 fun i j hi hj hij => ?_
    have := hsorted i j (Nat.zero_le _) hij (by simp at hj; omega)
    simp only [ltOf, decide_eq_false_iff_not] at this
    simp only [Array.length_toList] at hi hj
    rw [getElem!_pos d' i hi, getElem!_pos d' j hj] at this
    exact this
  · have h1 := sort_blk (enc := enc) (w := w) d' k os hB
    rw [putCells_list d' (cellsP ps) sp (by rw [cellsP_len]; omega)] at h1
    have e2 : d'.toList.map enc = cellsP (d'.toList.map (·.1)) := by simp [cellsP, enc]
    rw [e2] at h1
    exact h1
end Go.Gx
