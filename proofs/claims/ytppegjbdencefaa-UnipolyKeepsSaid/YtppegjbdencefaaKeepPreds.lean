/-
  Memory of results that may be written: digits, integers, lists of polynomials; what writes of the same kind keep. No program in sight.
-/
import Derived.Test.YtppegjbdencefaaPolyPreds
namespace Go.Gx
open Go.RowKit
/-- Digits in plain blocks from B on. -/
def WN (w : World) (B : Nat) (A : Option Addr) (n : Nat) : Prop := n = 0 ∨ ∃ b off, A = some ⟨b, off, none⟩ ∧ B ≤ b ∧ Pl w b ∧ ∀ j, j < n → ∃ x : Nat, x < 4294967296 ∧ w.cell? ⟨b, off + j, none⟩ = some (.int .u32 (x : Int))
/-- Integers in plain blocks from B on, and their digits. -/
def WP (w : World) (B : Nat) (A : Option Addr) (n : Nat) : Prop := n = 0 ∨ ∃ b off, A = some ⟨b, off, none⟩ ∧ B ≤ b ∧ Pl w b ∧ ∀ k, k < n → ∃ g A' n' c', w.cell? ⟨b, off + k * 2, none⟩ = some (.bool g) ∧ w.cell? ⟨b, off + k * 2 + 1, none⟩ = some (.slice A' n' c') ∧ n' ≤ 9223372036854775807 ∧ WN w B A' n'
def WL (w : World) (B : Nat) (cs : List Value) : Prop := ∀ v ∈ cs, ∃ A n c, v = .slice A n c ∧ n ≤ 9223372036854775807 ∧ WP w B A n
structure TP (B : Nat) (w w' : World) : Prop where
  u : ∀ b o (x : Nat), x < 4294967296 → w.cell? ⟨b, o, none⟩ = some (.int .u32 (x : Int)) → ∃ y : Nat, y < 4294967296 ∧ w'.cell? ⟨b, o, none⟩ = some (.int .u32 (y : Int))
  g : ∀ b o q, w.cell? ⟨b, o, none⟩ = some (.bool q) → ∃ q', w'.cell? ⟨b, o, none⟩ = some (.bool q')
  s : ∀ b o A n c, w.cell? ⟨b, o, none⟩ = some (.slice A n c) → w'.cell? ⟨b, o, none⟩ = some (.slice A n c) ∨ ∃ A' n' c', w'.cell? ⟨b, o, none⟩ = some (.slice A' n' c') ∧ n' ≤ 9223372036854775807 ∧ WN w' B A' n'
  p : ∀ b, Pl w b → Pl w' b
section
variable {w w' : World} {B : Nat} {A : Option Addr} {n : Nat} {cs : List Value}
theorem WN.keep (h : WN w B A n) (k : TP B w w') : WN w' B A n := by
  rcases h with h | ⟨b, off, hA, hB, hP, hc⟩
  · exact .inl h
  · exact .inr ⟨b, off, hA, hB, k.p b hP, fun j hj => by obtain ⟨x, hx, h⟩ := hc j hj; exact k.u _ _ x hx h⟩
theorem WP.keep (h : WP w B A n) (k : TP B w w') : WP w' B A n := by
  rcases h with h | ⟨b, off, hA, hB, hP, hc⟩
  · exact .inl h
  · refine .inr ⟨b, off, hA, hB, k.p b hP, fun j hj => ?_⟩
    obtain ⟨g, A', n', c', h0, h1, hn, hW⟩ := hc j hj
    obtain ⟨g2, h2⟩ := k.g _ _ _ h0
    rcases k.s _ _ _ _ _ h1 with h3 | ⟨A2, n2, c2, h3, hn2, hW2⟩
    · exact ⟨g2, A', n', c', h2, h3, hn, hW.keep k⟩
    · exact ⟨g2, A2, n2, c2, h2, h3, hn2, hW2⟩
theorem WL.keep (h : WL w B cs) (k : TP B w w') : WL w' B cs := fun v hv => by
  obtain ⟨A, n, c, e, hn, hW⟩ := h v hv
  exact ⟨A, n, c, e, hn, hW.keep k⟩
theorem cell_lt {p : Addr} {v : Value} (h : w.cell? p = some v) : p.block < w.heap.size := by
  rcases Nat.lt_or_ge p.block w.heap.size with hlt | hge
  · exact hlt
  · simp [World.cell?, Array.getElem?_eq_none hge] at h
theorem TP.of_ext (h : Ext w w') : TP B w w' where
  u b o x hx hc := ⟨x, hx, (h.cell (p := ⟨b, o, none⟩) (cell_lt hc) fun f => f).trans hc⟩
  g b o q hc := ⟨q, (h.cell (p := ⟨b, o, none⟩) (cell_lt hc) fun f => f).trans hc⟩
  s b o A n c hc := .inl ((h.cell (p := ⟨b, o, none⟩) (cell_lt hc) fun f => f).trans hc)
  p b hp := h.plain b (Nat.lt_of_lt_of_le hp.lt h.size) (.inr hp)
theorem WN.ext (h : WN w B A n) (k : Ext w w') : WN w' B A n := h.keep (.of_ext k)
theorem WP.ext (h : WP w B A n) (k : Ext w w') : WP w' B A n := h.keep (.of_ext k)
theorem WL.ext (h : WL w B cs) (k : Ext w w') : WL w' B cs := h.keep (.of_ext k)
theorem TP.cells {b0 : Nat} {t : TypeId} {cs' : List Value} (hF : Frm (· = b0) w w') (hb : Blk w b0 t cs) (hb' : Blk w' b0 t cs')
    (hu : ∀ (o x : Nat), x < 4294967296 → cs[o]? = some (.int .u32 (x : Int)) → ∃ y : Nat, y < 4294967296 ∧ cs'[o]? = some (.int .u32 (y : Int)))
    (hg : ∀ (o : Nat) q, cs[o]? = some (.bool q) → ∃ q', cs'[o]? = some (.bool q'))
    (hs : ∀ (o : Nat) A n c, cs[o]? = some (.slice A n c) → cs'[o]? = some (.slice A n c) ∨ ∃ A' n' c', cs'[o]? = some (.slice A' n' c') ∧ n' ≤ 9223372036854775807 ∧ WN w' B A' n') : TP B w w' where
  u b o x hx hc := by
    by_cases e : b = b0
    · subst e; rw [hb.cell] at hc; rw [hb'.cell]; exact hu o x hx hc
    · exact ⟨x, hx, (hF.cell (p := ⟨b, o, none⟩) (cell_lt hc) e).trans hc⟩
  g b o q hc := by
    by_cases e : b = b0
    · subst e; rw [hb.cell] at hc; rw [hb'.cell]; exact hg o q hc
    · exact ⟨q, (hF.cell (p := ⟨b, o, none⟩) (cell_lt hc) e).trans hc⟩
  s b o A n c hc := by
    by_cases e : b = b0
    · subst e; rw [hb.cell] at hc; rw [hb'.cell]; exact hs o A n c hc
    · exact .inl ((hF.cell (p := ⟨b, o, none⟩) (cell_lt hc) e).trans hc)
  p b hp := hF.plain b (Nat.lt_of_lt_of_le hp.lt hF.size) (.inr hp)
/-- A digit over a digit. -/
theorem TP.setU {b0 o0 x y : Nat} {t : TypeId} (hF : Frm (· = b0) w w') (hb : Blk w b0 t cs) (h0 : w.cell? ⟨b0, o0, none⟩ = some (.int .u32 (x : Int))) (hy : y < 4294967296) (hb' : Blk w' b0 t (cs.set o0 (.int .u32 (y : Int)))) : TP B w w' := by
  rw [hb.cell] at h0
  have hlt := (List.getElem?_eq_some_iff.1 h0).1
  refine TP.cells hF hb hb' (fun o x' hx hc => ?_) (fun o q hc => ?_) (fun o A n c hc => ?_)
  · by_cases e : o = o0
    · subst e; exact ⟨y, hy, by rw [List.getElem?_set_self hlt]⟩
    · exact ⟨x', hx, by rw [List.getElem?_set_ne (Ne.symm e)]; exact hc⟩
  · by_cases e : o = o0
    · subst e; rw [h0] at hc; cases hc
    · exact ⟨q, by rw [List.getElem?_set_ne (Ne.symm e)]; exact hc⟩
  · by_cases e : o = o0
    · subst e; rw [h0] at hc; cases hc
    · left; rw [List.getElem?_set_ne (Ne.symm e)]; exact hc
theorem pair_get {v0 v1 : Value} {o0 : Nat} (h : o0 + 2 ≤ cs.length) (o : Nat) : (cs.take o0 ++ [v0, v1] ++ cs.drop (o0 + 2))[o]? = if o = o0 then some v0 else if o = o0 + 1 then some v1 else cs[o]? := by
  rcases Nat.lt_or_ge o o0 with h1 | h1
  · rw [List.append_assoc, List.getElem?_append_left (by simp; omega), List.getElem?_take_of_lt h1, if_neg (by omega), if_neg (by omega)]
  · rcases Nat.lt_or_ge o (o0 + 2) with h2 | h2
    · rw [List.getElem?_append_left (by simp; omega), List.getElem?_append_right (by simp; omega), List.length_take, Nat.min_eq_left (by omega)]
      rcases (show o = o0 ∨ o = o0 + 1 by omega) with rfl | rfl
      · simp
      · simp
    · rw [List.getElem?_append_right (by simp; omega), if_neg (by omega), if_neg (by omega), List.getElem?_drop]
      congr 1
      simp; omega
/-- An integer over an integer. -/
theorem TP.pair {b0 o0 n' c' m c2 : Nat} {A' A2 : Option Addr} {q q2 : Bool} {t : TypeId} (hF : Frm (· = b0) w w') (hb : Blk w b0 t cs) (h0 : w.cell? ⟨b0, o0, none⟩ = some (.bool q)) (h1 : w.cell? ⟨b0, o0 + 1, none⟩ = some (.slice A' n' c'))
    (hW : WN w B A2 m) (hm : m ≤ 9223372036854775807) (hb' : Blk w' b0 t (cs.take o0 ++ [.bool q2, .slice A2 m c2] ++ cs.drop (o0 + 2))) : TP B w w' := by
  rw [hb.cell] at h0 h1
  have hlt := (List.getElem?_eq_some_iff.1 h1).1
  have hget := fun o => pair_get (v0 := .bool q2) (v1 := .slice A2 m c2) (show o0 + 2 ≤ cs.length by omega) o
  have hu : ∀ (o x : Nat), x < 4294967296 → cs[o]? = some (.int .u32 (x : Int)) → ∃ y : Nat, y < 4294967296 ∧ (cs.take o0 ++ [.bool q2, .slice A2 m c2] ++ cs.drop (o0 + 2))[o]? = some (.int .u32 (y : Int)) := by
    intro o x hx hc
    refine ⟨x, hx, ?_⟩
    rw [hget, if_neg (by rintro rfl; rw [h0] at hc; cases hc), if_neg (by rintro rfl; rw [h1] at hc; cases hc)]; exact hc
  have hg : ∀ (o : Nat) r, cs[o]? = some (.bool r) → ∃ r', (cs.take o0 ++ [.bool q2, .slice A2 m c2] ++ cs.drop (o0 + 2))[o]? = some (.bool r') := by
    intro o r hc
    by_cases e : o = o0
    · subst e; exact ⟨q2, by rw [hget, if_pos rfl]⟩
    · exact ⟨r, by rw [hget, if_neg e, if_neg (by rintro rfl; rw [h1] at hc; cases hc)]; exact hc⟩
  have hW' : WN w' B A2 m := by
    rcases hW with h | ⟨b, off, hA, hB, hP, hc⟩
    · exact .inl h
    · refine .inr ⟨b, off, hA, hB, hF.plain b (Nat.lt_of_lt_of_le hP.lt hF.size) (.inr hP), fun j hj => ?_⟩
      obtain ⟨x, hx, hc⟩ := hc j hj
      by_cases e : b = b0
      · subst e; rw [hb.cell] at hc; rw [hb'.cell]; exact hu _ x hx hc
      · exact ⟨x, hx, (hF.cell (p := ⟨b, off + j, none⟩) (cell_lt hc) e).trans hc⟩
  refine TP.cells hF hb hb' hu hg fun o A n c hc => ?_
  by_cases e : o = o0 + 1
  · subst e; exact .inr ⟨A2, m, c2, by rw [hget, if_neg (by omega), if_pos rfl], hm, hW'⟩
  · left; rw [hget, if_neg (by rintro rfl; rw [h0] at hc; cases hc), if_neg e]; exact hc
theorem NatR.wn {S : Nat → Prop} {c : Nat} {ds : List Nat} (h : NatR w S A n c ds) (hS : ∀ b, b < w.heap.size → S b → B ≤ b ∧ Pl w b) : WN w B A n := by
  rcases Nat.eq_zero_or_pos n with h0 | h0
  · exact .inl h0
  · obtain ⟨b, off, hA, hs, hlt, _⟩ := h.1.2.2.2 h0
    subst hA
    refine .inr ⟨b, off, rfl, (hS b hlt hs).1, (hS b hlt hs).2, fun j hj => ⟨ds.getD j 0, ?_, h.cell hj⟩⟩
    have hl : j < ds.length := by rw [h.len]; exact hj
    rw [List.getD, List.getElem?_eq_getElem hl]; exact h.2 _ (List.getElem_mem hl)
theorem PolyR.wp {S : Nat → Prop} {c M : Nat} {l : List RI} (h : PolyR w S A n c l M) (hS : ∀ b, b < w.heap.size → S b → B ≤ b ∧ Pl w b) : WP w B A n := by
  rcases Nat.eq_zero_or_pos n with h0 | h0
  · exact .inl h0
  · obtain ⟨b, off, hA, hs, hlt, _⟩ := h.1.2.2.2 h0
    subst hA
    refine .inr ⟨b, off, rfl, (hS b hlt hs).1, (hS b hlt hs).2, fun j hj => ?_⟩
    obtain ⟨g, A', n', c', d', _, h1, h2, h3, _⟩ := h.at_ hj
    exact ⟨g, A', n', c', h1, h2, by have := h3.cap; have := h3.max; omega, h3.wn hS⟩
theorem WL.nil : WL w B [] := fun v hv => by cases hv
theorem WL.cons {c : Nat} (h : WP w B A n) (hn : n ≤ 9223372036854775807) (hl : WL w B cs) : WL w B (.slice A n c :: cs) := fun v hv => by
  rcases List.mem_cons.1 hv with rfl | h1
  · exact ⟨A, n, c, rfl, hn, h⟩
  · exact hl v h1
theorem WL.get (h : WL w B cs) {i : Nat} (hi : i < cs.length) : ∃ A n c, cs[i]? = some (.slice A n c) ∧ n ≤ 9223372036854775807 := by
  obtain ⟨A, n, c, e, hn, _⟩ := h _ (List.getElem_mem hi)
  exact ⟨A, n, c, by rw [List.getElem?_eq_getElem hi, e], hn⟩
theorem WL.wp (h : WL w B cs) {i c : Nat} (hi : cs[i]? = some (.slice A n c)) : WP w B A n := by
  obtain ⟨A', n', c', e, _, hW⟩ := h _ (List.mem_of_getElem? hi)
  injection e with e1 e2 e3
  subst e1 e2
  exact hW
theorem WP.base (h : WP w B A n) {k : Nat} (hk : k < n) : ∃ b off, A = some ⟨b, off, none⟩ := by
  rcases h with h | ⟨b, off, hA, _⟩
  · omega
  · exact ⟨b, off, hA⟩
theorem WP.open_ {b off k : Nat} (h : WP w B (some ⟨b, off, none⟩) n) (hk : k < n) : B ≤ b ∧ Pl w b ∧ ∃ g A' n' c', w.cell? ⟨b, off + k * 2, none⟩ = some (.bool g) ∧ w.cell? ⟨b, off + k * 2 + 1, none⟩ = some (.slice A' n' c') ∧ n' ≤ 9223372036854775807 ∧ WN w B A' n' := by
  rcases h with h | ⟨b', off', hA, hB, hP, hc⟩
  · omega
  · injection hA with hA
    injection hA with e1 e2
    subst e1 e2
    exact ⟨hB, hP, hc k hk⟩
theorem WN.base (h : WN w B A n) {k : Nat} (hk : k < n) : ∃ b off, A = some ⟨b, off, none⟩ := by
  rcases h with h | ⟨b, off, hA, _⟩
  · omega
  · exact ⟨b, off, hA⟩
theorem WN.open_ {b off k : Nat} (h : WN w B (some ⟨b, off, none⟩) n) (hk : k < n) : B ≤ b ∧ Pl w b ∧ ∃ x : Nat, x < 4294967296 ∧ w.cell? ⟨b, off + k, none⟩ = some (.int .u32 (x : Int)) := by
  rcases h with h | ⟨b', off', hA, hB, hP, hc⟩
  · omega
  · injection hA with hA
    injection hA with e1 e2
    subst e1 e2
    exact ⟨hB, hP, hc k hk⟩
theorem Pl.blk {b : Nat} (h : Pl w b) : ∃ (cs : List Value) (t : TypeId), Blk w b t cs := by
  obtain ⟨cs, t, h⟩ := h
  exact ⟨cs.toList, t, h⟩
theorem Blk.inside {g i : Nat} {t : TypeId} {v : Value} (h : Blk w g t cs) (hc : w.cell? ⟨g, i, none⟩ = some v) : i < cs.length := by
  rw [h.cell] at hc; exact (List.getElem?_eq_some_iff.1 hc).1
/-- A block of slices only is not where another kind of value lies. -/
theorem WL.ne {g b o : Nat} {t : TypeId} {v : Value} (h : WL w B cs) (hb : Blk w g t cs) (hc : w.cell? ⟨b, o, none⟩ = some v) (hv : ∀ A n c, v ≠ .slice A n c) : b ≠ g := by
  rintro rfl
  rw [hb.cell] at hc
  obtain ⟨A, n, c, e, _⟩ := h v (List.mem_of_getElem? hc)
  exact hv A n c e
theorem kept_cell {b0 o0 b o : Nat} {t : TypeId} {u v v0 : Value} (hF : Frm (· = b0) w w') (hb : Blk w b0 t cs) (hb' : Blk w' b0 t (cs.set o0 u)) (hc : w.cell? ⟨b, o, none⟩ = some v) (h0 : w.cell? ⟨b0, o0, none⟩ = some v0) (hne : v ≠ v0) : w'.cell? ⟨b, o, none⟩ = some v := by
  by_cases e : b = b0
  · subst e
    have ho : o ≠ o0 := by rintro rfl; rw [h0] at hc; injection hc with hc; exact hne hc.symm
    rw [hb.cell] at hc
    rw [hb'.cell, List.getElem?_set_ne (Ne.symm ho)]; exact hc
  · exact (hF.cell (p := ⟨b, o, none⟩) (cell_lt hc) e).trans hc
end
end Go.Gx
