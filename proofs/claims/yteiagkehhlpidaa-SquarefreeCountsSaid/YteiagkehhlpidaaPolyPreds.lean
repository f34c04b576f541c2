/-
  Slices of integers: what they hold. No program in sight.
-/
import Derived.Test.YteiagkehhlpidaaIntMath
namespace Go.Gx
open Go.RowKit
variable {dfs : List Deferred}
/-- An integer as it lies in memory. -/
structure RI where
  neg : Bool
  A : Option Addr
  n : Nat
  c : Nat
  d : List Nat
def RI.cells (r : RI) : List Value := [.bool r.neg, .slice r.A r.n r.c]
def RI.z (r : RI) : Int := zval r.neg r.d
def RI.zero : RI := ⟨false, none, 0, 0, []⟩
def RI.isZ (r : RI) : Bool := decide (r.z = 0)
def cellsI (l : List RI) : List Value := l.flatMap RI.cells
abbrev zs (l : List RI) : List Int := l.map RI.z
/-- The coefficient, 0 beyond the end. -/
abbrev co (f : List Int) (i : Nat) : Int := f.getD i 0
def isZI (x : Int) : Bool := decide (x = 0)
abbrev trimZ (l : List Int) : List Int := trimB isZI l

theorem cellsI_len (l : List RI) : (cellsI l).length = l.length * 2 := by
  induction l with
  | nil => rfl
  | cons r l ih => simp only [cellsI, List.flatMap_cons, List.length_append, List.length_cons] at ih ⊢; rw [ih]; simp [RI.cells]; omega
theorem cellsI_append (a b : List RI) : cellsI (a ++ b) = cellsI a ++ cellsI b := by simp [cellsI]
theorem cellsI_cons (r : RI) (l : List RI) : cellsI (r :: l) = .bool r.neg :: .slice r.A r.n r.c :: cellsI l := by simp [cellsI, RI.cells]
theorem cellsI_take (l : List RI) : ∀ k, cellsI (l.take k) = (cellsI l).take (k * 2) := by
  induction l with
  | nil => intro k; simp [cellsI]
  | cons r l ih =>
    intro k
    cases k with
    | zero => simp [cellsI]
    | succ k => rw [List.take_succ_cons, cellsI_cons, cellsI_cons, ih, show (k + 1) * 2 = k * 2 + 1 + 1 by omega]; simp
theorem cellsI_drop (l : List RI) : ∀ k, cellsI (l.drop k) = (cellsI l).drop (k * 2) := by
  induction l with
  | nil => intro k; simp [cellsI]
  | cons r l ih =>
    intro k
    cases k with
    | zero => simp [cellsI]
    | succ k => rw [List.drop_succ_cons, cellsI_cons, ih, show (k + 1) * 2 = k * 2 + 1 + 1 by omega]; simp
theorem cellsI_get {l : List RI} : ∀ {i : Nat} {r : RI}, l[i]? = some r → (cellsI l)[i * 2]? = some (.bool r.neg) ∧ (cellsI l)[i * 2 + 1]? = some (.slice r.A r.n r.c) := by
  induction l with
  | nil => intro i r h; simp at h
  | cons x l ih =>
    intro i r h
    rw [cellsI_cons]
    cases i with
    | zero => simp at h; subst h; simp
    | succ i =>
      simp at h
      have := ih h
      rw [show (i + 1) * 2 = i * 2 + 1 + 1 by omega]
      simpa using this
theorem cellsI_set {l : List RI} {i : Nat} (r : RI) (hi : i < l.length) : (cellsI l).take (i * 2) ++ [.bool r.neg, .slice r.A r.n r.c] ++ (cellsI l).drop (i * 2 + 2) = cellsI (l.set i r) := by
  rw [show i * 2 + 2 = (i + 1) * 2 by omega, ← cellsI_take, ← cellsI_drop, List.set_eq_take_append_cons_drop, if_pos hi, cellsI_append, cellsI_cons]
  simp

def AllN (w : World) (S : Nat → Prop) (M : Nat) (l : List RI) : Prop := ∀ r ∈ l, NatR w S r.A r.n r.c r.d ∧ r.n ≤ M
section alln
variable {w w' : World} {S S' G : Nat → Prop} {M M' : Nat} {l l' : List RI}
theorem AllN.frm (h : AllN w S M l) (f : Frm G w w') (hd : ∀ b, S b → ¬ G b) : AllN w' S M l := fun r hr => ⟨(h r hr).1.frm f hd, (h r hr).2⟩
theorem AllN.frmB (h : AllN w S M l) (f : Frm G w w') (hd : ∀ b, b < w.heap.size → S b → ¬ G b) : AllN w' S M l := fun r hr => ⟨(h r hr).1.frmB f hd, (h r hr).2⟩
theorem AllN.ext (h : AllN w S M l) (f : Ext w w') : AllN w' S M l := fun r hr => ⟨(h r hr).1.ext f, (h r hr).2⟩
theorem AllN.sub (h : AllN w S M l) (hs : ∀ b, b < w.heap.size → S b → S' b) : AllN w S' M l := fun r hr => ⟨(h r hr).1.sub hs, (h r hr).2⟩
theorem AllN.le (h : AllN w S M l) (hm : M ≤ M') : AllN w S M' l := fun r hr => ⟨(h r hr).1, Nat.le_trans (h r hr).2 hm⟩
theorem AllN.nil : AllN w S M [] := fun r hr => by cases hr
theorem AllN.snoc {r : RI} (h : AllN w S M l) (hn : NatR w S r.A r.n r.c r.d) (hm : r.n ≤ M) : AllN w S M (l ++ [r]) := fun x hx => by
  rcases List.mem_append.1 hx with h1 | h1
  · exact h x h1
  · simp at h1; subst h1; exact ⟨hn, hm⟩
theorem AllN.app (h : AllN w S M l) (h' : AllN w S M l') : AllN w S M (l ++ l') := fun x hx => by
  rcases List.mem_append.1 hx with h1 | h1
  · exact h x h1
  · exact h' x h1
theorem AllN.zeros (m : Nat) : AllN w S M (List.replicate m RI.zero) := fun x hx => by
  have := List.eq_of_mem_replicate hx; subst this; exact ⟨NatR.nil, Nat.zero_le _⟩
theorem AllN.set {r : RI} {i : Nat} (h : AllN w S M l) (hn : NatR w S r.A r.n r.c r.d) (hm : r.n ≤ M) : AllN w S M (l.set i r) := fun x hx => by
  rcases List.mem_or_eq_of_mem_set hx with h1 | h1
  · exact h x h1
  · subst h1; exact ⟨hn, hm⟩
theorem AllN.take (h : AllN w S M l) (k : Nat) : AllN w S M (l.take k) := fun x hx => h x (List.mem_of_mem_take hx)
theorem AllN.drop (h : AllN w S M l) (k : Nat) : AllN w S M (l.drop k) := fun x hx => h x (List.mem_of_mem_drop hx)
end alln

/-- A slice of integers. -/
def PolyR (w : World) (S : Nat → Prop) (A : Option Addr) (n c : Nat) (l : List RI) (M : Nat) : Prop := Rd w S A n c 2 (cellsI l) ∧ AllN w S M l
section polyr
variable {w w' : World} {S S' G : Nat → Prop} {A : Option Addr} {n c M M' : Nat} {l : List RI}
theorem PolyR.frm (h : PolyR w S A n c l M) (f : Frm G w w') (hd : ∀ b, S b → ¬ G b) : PolyR w' S A n c l M := ⟨h.1.frm f hd, h.2.frm f hd⟩
theorem PolyR.frmB (h : PolyR w S A n c l M) (f : Frm G w w') (hd : ∀ b, b < w.heap.size → S b → ¬ G b) : PolyR w' S A n c l M := ⟨h.1.frmB f hd, h.2.frmB f hd⟩
theorem PolyR.ext (h : PolyR w S A n c l M) (f : Ext w w') : PolyR w' S A n c l M := ⟨h.1.ext f, h.2.ext f⟩
theorem PolyR.sub (h : PolyR w S A n c l M) (hs : ∀ b, b < w.heap.size → S b → S' b) : PolyR w S' A n c l M := ⟨h.1.sub hs, h.2.sub hs⟩
theorem PolyR.low (h : PolyR w S A n c l M) : PolyR w (· < w.heap.size) A n c l M := h.sub fun _ hb _ => hb
theorem PolyR.le (h : PolyR w S A n c l M) (hm : M ≤ M') : PolyR w S A n c l M' := ⟨h.1, h.2.le hm⟩
theorem PolyR.nil : PolyR w S none 0 0 [] M := ⟨Rd.nil, AllN.nil⟩
theorem PolyR.len (h : PolyR w S A n c l M) : l.length = n := by have := h.1.1; rw [cellsI_len] at this; omega
theorem PolyR.cap (h : PolyR w S A n c l M) : n ≤ c := h.1.2.1
theorem PolyR.max (h : PolyR w S A n c l M) : c ≤ 9223372036854775807 := h.1.2.2.1
theorem PolyR.lkm (h : PolyR w S A n c l M) : l.length = n ∧ n ≤ c ∧ c ≤ 9223372036854775807 := ⟨h.len, h.cap, h.max⟩
theorem PolyR.base (h : PolyR w S A n c l M) (hn : 0 < n) : ∃ b off, A = some ⟨b, off, none⟩ := h.1.base hn
theorem PolyR.take {m : Nat} (h : PolyR w S A n c l M) (hm : m ≤ n) : PolyR w S A m c (l.take m) M := by
  refine ⟨?_, h.2.take m⟩
  have := h.1.take hm
  rw [← cellsI_take] at this
  exact this
theorem PolyR.at_ {b off i : Nat} (h : PolyR w S (some ⟨b, off, none⟩) n c l M) (hi : i < n) :
    ∃ neg A' n' c' d', l[i]? = some ⟨neg, A', n', c', d'⟩ ∧ w.cell? ⟨b, off + i * 2, none⟩ = some (.bool neg) ∧ w.cell? ⟨b, off + i * 2 + 1, none⟩ = some (.slice A' n' c') ∧ NatR w S A' n' c' d' ∧ n' ≤ M ∧ S b ∧ b < w.heap.size ∧ zval neg d' = co (zs l) i := by
  have hl : i < l.length := by rw [h.len]; exact hi
  obtain ⟨r, hr⟩ : ∃ r, l[i]? = some r := ⟨_, List.getElem?_eq_getElem hl⟩
  obtain ⟨neg, A', n', c', d'⟩ := r
  have hc := cellsI_get hr
  have hm := h.2 _ (List.mem_of_getElem? hr)
  obtain ⟨b', off', e, hS, hb, _⟩ := h.1.2.2.2 (by omega)
  injection e with e
  injection e with e1 e2
  subst e1 e2
  refine ⟨neg, A', n', c', d', hr, h.1.cell hc.1, h.1.cell hc.2, hm.1, hm.2, hS, hb, ?_⟩
  simp [List.getD, List.getElem?_map, hr, RI.z]
theorem PolyR.of_blk {g : Nat} {t : TypeId} (h : Blk w g t (cellsI l)) (ha : AllN w S M l) (hS : S g) (hl : l.length = n) (hc : n ≤ c) (hm : c ≤ CapMax) : PolyR w S (some ⟨g, 0, none⟩) n c l M :=
  ⟨Rd.of_blk h hS (by rw [cellsI_len, hl]) hc hm, ha⟩
end polyr

theorem cell2 {w : World} {b p : Nat} {v0 v1 : Value} (h0 : w.cell? ⟨b, p, none⟩ = some v0) (h1 : w.cell? ⟨b, p + 1, none⟩ = some v1) : ∀ (j : Nat) v, [v0, v1][j]? = some v → w.cell? ((⟨b, p, none⟩ : Addr).add j) = some v := by
  intro j v hj
  rw [addr_add]
  match j, hj with
  | 0, hj => simp at hj; subst hj; exact h0
  | 1, hj => simp at hj; subst hj; exact h1
  | j + 2, hj => simp at hj
theorem cell2F {G : Nat → Prop} {w w' : World} {b p : Nat} {v0 v1 : Value} (h0 : w.cell? ⟨b, p, none⟩ = some v0) (h1 : w.cell? ⟨b, p + 1, none⟩ = some v1) (f : Frm G w w') (hb : b < w.heap.size) (hg : ¬ G b) :
    ∀ (j : Nat) v, [v0, v1][j]? = some v → w'.cell? ((⟨b, p, none⟩ : Addr).add j) = some v :=
  cell2 ((f.cell (p := ⟨b, p, none⟩) hb hg).trans h0) ((f.cell (p := ⟨b, p + 1, none⟩) hb hg).trans h1)

theorem Blk.int {w : World} {g : Nat} {t : TypeId} {l : List RI} {i : Nat} (h : Blk w g t (cellsI l)) (hi : i < l.length) : ∃ neg A' n' c' d', l[i]? = some ⟨neg, A', n', c', d'⟩ ∧ w.cell? ⟨g, i * 2, none⟩ = some (.bool neg) ∧ w.cell? ⟨g, i * 2 + 1, none⟩ = some (.slice A' n' c') ∧ zval neg d' = co (zs l) i := by
  obtain ⟨r, hr⟩ : ∃ r, l[i]? = some r := ⟨_, List.getElem?_eq_getElem hi⟩
  obtain ⟨neg, A', n', c', d'⟩ := r
  have hc := cellsI_get hr
  exact ⟨neg, A', n', c', d', hr, h.at_ hc.1, h.at_ hc.2, by simp [List.getD, List.getElem?_map, hr, RI.z]⟩

theorem made_ints (m : Nat) : (madeCells (Value.agg #[.bool false, .slice none 0 0]).cells (m * 2)).toList = cellsI (List.replicate m RI.zero) := by
  have hl : (cellsI (List.replicate m RI.zero)).length = m * 2 := by rw [cellsI_len]; simp
  apply List.ext_getElem
  · simp [madeCells, hl]
  · intro i h1 h2
    rw [hl] at h2
    have e : (List.replicate m RI.zero)[i / 2]? = some RI.zero := by
      rw [List.getElem?_replicate, if_pos (by omega)]
    have hg := cellsI_get e
    simp only [madeCells, Value.cells]
    rcases Nat.mod_two_eq_zero_or_one i with h0 | h0
    · have : i / 2 * 2 = i := by omega
      rw [this] at hg
      have h3 := hg.1
      rw [List.getElem?_eq_getElem (by omega)] at h3
      injection h3 with h3
      rw [h3]
      simp [h0, RI.zero]
    · have : i / 2 * 2 + 1 = i := by omega
      rw [this] at hg
      have h3 := hg.2
      rw [List.getElem?_eq_getElem (by omega)] at h3
      injection h3 with h3
      rw [h3]
      simp [h0, RI.zero]
section
variable {P : Program} {n : Nat} {e : Nat → Value} {w : World} {K : Act → World → Prop} {Q : Exit → Act → World → Prop} {ty : TypeId} {pos : String} {af : Array Edge} {gd : Option (Nat × Bool)}
theorem oMake2 {d : Nat} {t el : TypeId} {l c : Operand} {k1 k2 : IntKind} {bytes : Nat} (m : Nat) (ht : P.underlying t = some (.slice el))
    (hi : (P.info? el).map (fun i => (i.zero, i.size, i.bytes)) = some (some (.agg #[.bool false, .slice none 0 0]), 2, bytes)) (hl : ev n e l = .int k1 (m : Int)) (hc : ev n e c = .int k2 (m : Int))
    (hb : bytes * m ≤ 281474976710656) (hm : m ≤ 9223372036854775807)
    (k : ∀ g w', g = w.heap.size → Ext w w' → w'.heap.size = g + 1 → Blk w' g el (cellsI (List.replicate m RI.zero)) → K (mkA dfs n (upd e d (.slice (some ⟨g, 0, none⟩) m m))) w') :
    OpW P ⟨some d, .makeSlice t l c, ty, pos, af, gd⟩ (mkA dfs n e) w K Q := by
  refine oMake m ht hi hl hc hb hm fun g w' h1 h2 h3 h4 => k g w' h1 h2 h3 ?_
  rw [made_ints] at h4
  exact h4
end
/-! ### coefficients -/
theorem zs_trim (l : List RI) : zs (trimB RI.isZ l) = trimZ (zs l) := by
  have h : ∀ (m : Nat) (l : List RI), l.length = m → zs (trimB RI.isZ l) = trimZ (zs l) := by
    intro m
    induction m with
    | zero => intro l hl; simp [List.eq_nil_of_length_eq_zero hl, trimB]
    | succ m ih =>
      intro l hl
      rcases snoc_cases l with h0 | ⟨l', y, rfl⟩
      · subst h0; simp at hl
      · show _ = trimB isZI ((l' ++ [y]).map RI.z)
        rw [List.map_append, List.map_cons, List.map_nil]
        cases hy : RI.isZ y with
        | true =>
          rw [trimB_snoc_yes _ _ _ hy, trimB_snoc_yes _ _ _ (by simpa [isZI, RI.isZ] using hy)]
          exact ih l' (by simpa using hl)
        | false =>
          rw [trimB_snoc_no _ _ _ hy, trimB_snoc_no _ _ _ (by simpa [isZI, RI.isZ] using hy)]
          simp
  exact h _ l rfl
theorem zget_ge {l : List Int} {n : Nat} (h : l.length ≤ n) : ∀ j, n ≤ j → l.getD j 0 = 0 := by
  intro j hj; simp [List.getD, List.getElem?_eq_none (by omega : l.length ≤ j)]
theorem trimI_of {l : List RI} {k : Nat} (hk : k ≤ l.length) (hz : ∀ j, k ≤ j → (zs l).getD j 0 = 0) (hl : k = 0 ∨ (zs l).getD (k - 1) 0 ≠ 0) : l.take k = trimB RI.isZ l := by
  refine (trimB_of RI.isZ (l.length - k) l k (by omega) (fun j x hj hx => ?_) ?_).symm
  · have := hz j hj; simp [List.getD, List.getElem?_map, hx] at this; simp [RI.isZ, this]
  · rcases Nat.eq_zero_or_pos k with h0 | h0
    · exact .inl h0
    · right
      rcases hl with hl | hl
      · omega
      · have hlt : k - 1 < l.length := by omega
        refine ⟨l[k-1], List.getElem?_eq_getElem hlt, ?_⟩
        simp [List.getD, List.getElem?_map, hlt] at hl
        simpa [RI.isZ] using hl
theorem zeros_downZ {l : List Int} {k : Nat} (h : ∀ j, k ≤ j → l.getD j 0 = 0) (h1 : l.getD (k - 1) 0 = 0) : ∀ j, k - 1 ≤ j → l.getD j 0 = 0 := by
  intro j hj
  rcases Nat.lt_or_ge j k with hl | hl
  · have : j = k - 1 := by omega
    subst this; exact h1
  · exact h j hl
theorem sign_zero_iff {x s z : Int} (e : x = s.sign) (hs : s = z) : (x = 0 ↔ z = 0) := by
  subst hs
  rcases sign_cases s with h | h | h <;> omega
/-! ### slices of int -/
def IntsR (w : World) (S : Nat → Prop) (A : Option Addr) (n c : Nat) (xs : List Int) : Prop := Rd w S A n c 1 (xs.map (Value.int .i64)) ∧ ∀ x ∈ xs, -9223372036854775808 ≤ x ∧ x ≤ 9223372036854775807
section intsr
variable {w w' : World} {S S' G : Nat → Prop} {A : Option Addr} {n c : Nat} {xs : List Int}
theorem IntsR.frmB (h : IntsR w S A n c xs) (f : Frm G w w') (hd : ∀ b, b < w.heap.size → S b → ¬ G b) : IntsR w' S A n c xs := ⟨h.1.frmB f hd, h.2⟩
theorem IntsR.ext (h : IntsR w S A n c xs) (f : Ext w w') : IntsR w' S A n c xs := ⟨h.1.ext f, h.2⟩
theorem IntsR.sub (h : IntsR w S A n c xs) (hs : ∀ b, b < w.heap.size → S b → S' b) : IntsR w S' A n c xs := ⟨h.1.sub hs, h.2⟩
theorem IntsR.low (h : IntsR w S A n c xs) : IntsR w (· < w.heap.size) A n c xs := ⟨h.1.low, h.2⟩
theorem IntsR.nil : IntsR w S none 0 0 [] := ⟨Rd.nil, by simp⟩
theorem IntsR.len (h : IntsR w S A n c xs) : xs.length = n := by have := h.1.1; simpa using this
theorem IntsR.cap (h : IntsR w S A n c xs) : n ≤ c := h.1.2.1
theorem IntsR.max (h : IntsR w S A n c xs) : c ≤ 9223372036854775807 := h.1.2.2.1
theorem IntsR.lkm (h : IntsR w S A n c xs) : xs.length = n ∧ n ≤ c ∧ c ≤ 9223372036854775807 := ⟨h.len, h.cap, h.max⟩
theorem IntsR.base (h : IntsR w S A n c xs) (hn : 0 < n) : ∃ b off, A = some ⟨b, off, none⟩ := h.1.base hn
theorem IntsR.rng (h : IntsR w S A n c xs) (i : Nat) : -9223372036854775808 ≤ xs.getD i 0 ∧ xs.getD i 0 ≤ 9223372036854775807 := by
  rcases Nat.lt_or_ge i xs.length with hi | hi
  · simp only [List.getD, List.getElem?_eq_getElem hi, Option.getD_some]; exact h.2 _ (List.getElem_mem hi)
  · simp [List.getD, List.getElem?_eq_none hi]
theorem IntsR.cell {b off : Nat} (h : IntsR w S (some ⟨b, off, none⟩) n c xs) {i : Nat} (hi : i < n) : w.cell? ⟨b, off + i, none⟩ = some (.int .i64 (xs.getD i 0)) := by
  refine h.1.cell ?_
  have hl : i < xs.length := by rw [h.len]; exact hi
  simp [List.getElem?_map, List.getElem?_eq_getElem hl]
theorem IntsR.of_blk {g : Nat} {t : TypeId} (h : Blk w g t (xs.map (Value.int .i64))) (hS : S g) (hd : ∀ x ∈ xs, -9223372036854775808 ≤ x ∧ x ≤ 9223372036854775807) (hl : xs.length = n) (hc : n ≤ c) (hm : c ≤ CapMax) : IntsR w S (some ⟨g, 0, none⟩) n c xs :=
  ⟨Rd.of_blk h hS (by simpa using hl) hc hm, hd⟩
end intsr
theorem PolyR.reM {w : World} {S : Nat → Prop} {A : Option Addr} {n c M M' : Nat} {l : List RI} (h : PolyR w S A n c l M) (hm : ∀ r ∈ l, r.n ≤ M') : PolyR w S A n c l M' := ⟨h.1, fun r hr => ⟨(h.2 r hr).1, hm r hr⟩⟩
theorem map_getD_range (xs : List Int) : (List.range xs.length).map (fun i => xs.getD i 0) = xs := by
  apply List.ext_getElem
  · simp
  · intro i h1 h2; simp [List.getD, h2]
end Go.Gx
