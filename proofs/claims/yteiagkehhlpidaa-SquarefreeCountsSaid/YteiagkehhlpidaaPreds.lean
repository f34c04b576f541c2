/-
  What slices hold: readings of memory as lists; digits and their value. No program in sight.
-/
import Derived.Test.YteiagkehhlpidaaLaws
namespace Go.Gx
open Go.RowKit
variable {dfs : List Deferred}

/-! ### lists without their last zeros -/
def trimB {α : Type} (p : α → Bool) (l : List α) : List α := (l.reverse.dropWhile p).reverse
theorem trimB_snoc_yes {α : Type} (p : α → Bool) (l : List α) (x : α) (h : p x = true) : trimB p (l ++ [x]) = trimB p l := by
  simp [trimB, h]
theorem trimB_snoc_no {α : Type} (p : α → Bool) (l : List α) (x : α) (h : p x = false) : trimB p (l ++ [x]) = l ++ [x] := by
  simp [trimB, h]
theorem snoc_cases {α : Type} (l : List α) : l = [] ∨ ∃ k x, l = k ++ [x] := by
  rcases List.eq_nil_or_concat l with h | ⟨k, x, h⟩
  · exact .inl h
  · exact .inr ⟨k, x, by simpa using h⟩
theorem trimB_of {α : Type} (p : α → Bool) : ∀ (m : Nat) (l : List α) (k : Nat), l.length = k + m → (∀ (j : Nat) x, k ≤ j → l[j]? = some x → p x = true) → (k = 0 ∨ ∃ x, l[k-1]? = some x ∧ p x = false) → trimB p l = l.take k
  | 0, l, k, hl, _, hk => by
    rw [List.take_of_length_le (by omega)]
    rcases snoc_cases l with h | ⟨l', x, rfl⟩
    · subst h; rfl
    · rcases hk with hk | ⟨y, hy, hp⟩
      · subst hk; simp at hl
      · simp at hl
        have : (l' ++ [x])[k-1]? = some x := by
          rw [show k - 1 = l'.length by omega]; simp
        rw [this] at hy
        injection hy with hy
        subst hy
        exact trimB_snoc_no p l' x hp
  | m + 1, l, k, hl, hz, hk => by
    rcases snoc_cases l with h | ⟨l', x, rfl⟩
    · subst h; simp at hl
    · simp at hl
      have hx : p x = true := hz l'.length x (by omega) (by simp)
      rw [trimB_snoc_yes p l' x hx]
      rw [trimB_of p m l' k (by omega) (fun j y hj hy => hz j y hj (by
        rw [List.getElem?_append_left]
        · exact hy
        · rcases Nat.lt_or_ge j l'.length with h | h
          · exact h
          · rw [List.getElem?_eq_none h] at hy; cases hy)) ?_]
      · rw [List.take_append_of_le_length (by omega)]
      · rcases hk with hk | ⟨y, hy, hp⟩
        · exact .inl hk
        · refine .inr ⟨y, ?_, hp⟩
          rcases Nat.eq_zero_or_pos k with h0 | h0
          · subst h0
            have := hz 0 y (Nat.le_refl _) hy
            rw [this] at hp; cases hp
          · rw [List.getElem?_append_left (by omega)] at hy
            exact hy
theorem trimB_prefix {α : Type} (p : α → Bool) (l : List α) : ∃ k, k ≤ l.length ∧ trimB p l = l.take k := by
  have h : ∀ (m : Nat) (l : List α), l.length = m → ∃ k, k ≤ l.length ∧ trimB p l = l.take k := by
    intro m
    induction m with
    | zero => intro l hl; exact ⟨0, by omega, by simp [List.eq_nil_of_length_eq_zero hl, trimB]⟩
    | succ m ih =>
      intro l hl
      rcases snoc_cases l with h | ⟨l', x, rfl⟩
      · subst h; simp at hl
      · cases hx : p x with
        | true =>
          obtain ⟨k, hk, e⟩ := ih l' (by simpa using hl)
          exact ⟨k, by simp; omega, by rw [trimB_snoc_yes p l' x hx, e, List.take_append_of_le_length hk]⟩
        | false => exact ⟨l'.length + 1, by simp, by rw [trimB_snoc_no p l' x hx, List.take_of_length_le (by simp)]⟩
  exact h _ l rfl
theorem trimB_len {α : Type} (p : α → Bool) (l : List α) : (trimB p l).length ≤ l.length := by
  obtain ⟨k, hk, e⟩ := trimB_prefix p l
  rw [e, List.length_take]; omega
theorem trimB_take {α : Type} (p : α → Bool) (l : List α) : trimB p l = l.take (trimB p l).length := by
  obtain ⟨k, hk, e⟩ := trimB_prefix p l
  rw [e, List.length_take, Nat.min_eq_left hk]
theorem trimB_mem {α : Type} (p : α → Bool) (l : List α) {x : α} (h : x ∈ trimB p l) : x ∈ l := by
  obtain ⟨k, hk, e⟩ := trimB_prefix p l
  rw [e] at h; exact List.mem_of_mem_take h
theorem trimB_last {α : Type} (p : α → Bool) (l : List α) {k : List α} {x : α} (h : trimB p l = k ++ [x]) : p x = false := by
  have h2 : ∀ (m : Nat) (l : List α), l.length = m → ∀ k x, trimB p l = k ++ [x] → p x = false := by
    intro m
    induction m with
    | zero => intro l hl k x h; simp [List.eq_nil_of_length_eq_zero hl, trimB] at h
    | succ m ih =>
      intro l hl k x h
      rcases snoc_cases l with h0 | ⟨l', y, rfl⟩
      · subst h0; simp at hl
      · cases hy : p y with
        | true => rw [trimB_snoc_yes p l' y hy] at h; exact ih l' (by simpa using hl) k x h
        | false =>
          rw [trimB_snoc_no p l' y hy] at h
          have := List.append_inj_right' h rfl
          simp at this
          subst this
          exact hy
  exact h2 _ l rfl k x h
theorem trimB_idem {α : Type} (p : α → Bool) (l : List α) : trimB p (trimB p l) = trimB p l := by
  rcases snoc_cases (trimB p l) with h | ⟨k, x, h⟩
  · rw [h]; rfl
  · rw [h]; exact trimB_snoc_no p k x (trimB_last p l h)
/-- No last zero. -/
def Canon {α : Type} (p : α → Bool) (l : List α) : Prop := trimB p l = l
theorem canon_trim {α : Type} (p : α → Bool) (l : List α) : Canon p (trimB p l) := trimB_idem p l
theorem canon_nil {α : Type} (p : α → Bool) : Canon p ([] : List α) := rfl
theorem canon_snoc {α : Type} {p : α → Bool} {l : List α} {x : α} : Canon p (l ++ [x]) ↔ p x = false := by
  constructor
  · intro h; exact trimB_last p _ h
  · intro h; exact trimB_snoc_no p l x h

/-! ### digits -/
abbrev BS : Nat := 4294967296
def isZ (d : Nat) : Bool := d == 0
abbrev trimN (ds : List Nat) : List Nat := trimB isZ ds
def val : List Nat → Nat
  | [] => 0
  | d :: ds => d + BS * val ds
theorem val_append (a b : List Nat) : val (a ++ b) = val a + BS ^ a.length * val b := by
  induction a with
  | nil => simp [val]
  | cons d a ih => simp only [List.cons_append, val, ih, List.length_cons, Nat.pow_succ]; rw [Nat.mul_add, ← Nat.mul_assoc, Nat.mul_comm (BS ^ a.length) BS, Nat.add_assoc]
theorem val_snoc (a : List Nat) (d : Nat) : val (a ++ [d]) = val a + BS ^ a.length * d := by
  rw [val_append]; simp [val]
theorem val_snoc_zero (a : List Nat) : val (a ++ [0]) = val a := by rw [val_snoc]; simp
theorem val_trim (ds : List Nat) : val (trimN ds) = val ds := by
  have h : ∀ (m : Nat) (l : List Nat), l.length = m → val (trimN l) = val l := by
    intro m
    induction m with
    | zero => intro l hl; simp [List.eq_nil_of_length_eq_zero hl, trimB]
    | succ m ih =>
      intro l hl
      rcases snoc_cases l with h0 | ⟨l', y, rfl⟩
      · subst h0; simp at hl
      · cases hy : isZ y with
        | true =>
          have : y = 0 := by simpa [isZ] using hy
          subst this
          show val (trimB isZ _) = _
          rw [trimB_snoc_yes isZ l' 0 hy, val_snoc_zero]
          exact ih l' (by simpa using hl)
        | false =>
          show val (trimB isZ _) = _
          rw [trimB_snoc_no isZ l' y hy]
  exact h _ ds rfl
theorem val_lt : ∀ (ds : List Nat), (∀ d ∈ ds, d < BS) → val ds < BS ^ ds.length
  | [], _ => by simp [val]
  | d :: ds, h => by
    have h1 := h d (by simp)
    have h2 := val_lt ds fun x hx => h x (by simp [hx])
    simp only [val, List.length_cons, Nat.pow_succ]
    have h3 : BS * (val ds + 1) ≤ BS * BS ^ ds.length := Nat.mul_le_mul_left _ h2
    rw [Nat.mul_comm (BS ^ ds.length) BS]
    have : BS * (val ds + 1) = BS * val ds + BS := by rw [Nat.mul_add, Nat.mul_one]
    omega
theorem val_getD (ds : List Nat) (k : Nat) : val (ds.take (k + 1)) = val (ds.take k) + BS ^ k * ds.getD k 0 := by
  rcases Nat.lt_or_ge k ds.length with h | h
  · rw [List.take_succ_eq_append_getElem h, val_snoc]
    rw [List.length_take, Nat.min_eq_left (by omega)]
    simp [List.getD, h]
  · rw [List.take_of_length_le (by omega), List.take_of_length_le h]
    simp [List.getD, List.getElem?_eq_none h]

/-! ### readings -/
abbrev CapMax : Nat := 9223372036854775807
/-- The slice (A, n, c), k cells an element, holds the cells cs, in a block of S. -/
def Rd (w : World) (S : Nat → Prop) (A : Option Addr) (n c k : Nat) (cs : List Value) : Prop :=
  cs.length = n * k ∧ n ≤ c ∧ c ≤ CapMax ∧
    (0 < n → ∃ b off, A = some ⟨b, off, none⟩ ∧ S b ∧ b < w.heap.size ∧ ∀ (j : Nat) v, cs[j]? = some v → w.cell? ⟨b, off + j, none⟩ = some v)
section rd
variable {w w' : World} {S S' G : Nat → Prop} {A : Option Addr} {n c k : Nat} {cs : List Value}
theorem Rd.frm (h : Rd w S A n c k cs) (f : Frm G w w') (hd : ∀ b, S b → ¬ G b) : Rd w' S A n c k cs :=
  ⟨h.1, h.2.1, h.2.2.1, fun hn => by
    obtain ⟨b, off, e, hs, hb, hc⟩ := h.2.2.2 hn
    exact ⟨b, off, e, hs, Nat.lt_of_lt_of_le hb f.size, fun j v hj => (f.cell (p := ⟨b, off + j, none⟩) hb (hd b hs)).trans (hc j v hj)⟩⟩
theorem Rd.frmB (h : Rd w S A n c k cs) (f : Frm G w w') (hd : ∀ b, b < w.heap.size → S b → ¬ G b) : Rd w' S A n c k cs :=
  ⟨h.1, h.2.1, h.2.2.1, fun hn => by
    obtain ⟨b, off, e, hs, hb, hc⟩ := h.2.2.2 hn
    exact ⟨b, off, e, hs, Nat.lt_of_lt_of_le hb f.size, fun j v hj => (f.cell (p := ⟨b, off + j, none⟩) hb (hd b hb hs)).trans (hc j v hj)⟩⟩
theorem Rd.ext (h : Rd w S A n c k cs) (f : Ext w w') : Rd w' S A n c k cs := h.frm f fun _ _ g => g
theorem Rd.sub (h : Rd w S A n c k cs) (hs : ∀ b, b < w.heap.size → S b → S' b) : Rd w S' A n c k cs :=
  ⟨h.1, h.2.1, h.2.2.1, fun hn => by
    obtain ⟨b, off, e, hS, hb, hc⟩ := h.2.2.2 hn
    exact ⟨b, off, e, hs b hb hS, hb, hc⟩⟩
theorem Rd.low (h : Rd w S A n c k cs) : Rd w (· < w.heap.size) A n c k cs := h.sub fun _ hb _ => hb
theorem Rd.nil : Rd w S none 0 0 k [] := ⟨by simp, Nat.le_refl _, Nat.zero_le _, fun h => absurd h (by omega)⟩
theorem Rd.base (h : Rd w S A n c k cs) (hn : 0 < n) : ∃ b off, A = some ⟨b, off, none⟩ := by
  obtain ⟨b, off, e, _⟩ := h.2.2.2 hn
  exact ⟨b, off, e⟩
theorem Rd.cell {b off : Nat} (h : Rd w S (some ⟨b, off, none⟩) n c k cs) {j : Nat} {v : Value} (hj : cs[j]? = some v) : w.cell? ⟨b, off + j, none⟩ = some v := by
  have hn : 0 < n := by
    rcases Nat.eq_zero_or_pos n with h0 | h0
    · have := h.1; rw [h0, Nat.zero_mul] at this
      rw [List.eq_nil_of_length_eq_zero this] at hj; cases hj
    · exact h0
  obtain ⟨b', off', e, _, _, hc⟩ := h.2.2.2 hn
  injection e with e
  injection e with e1 e2
  subst e1 e2
  exact hc j v hj
theorem Rd.take {m : Nat} (h : Rd w S A n c k cs) (hm : m ≤ n) : Rd w S A m c k (cs.take (m * k)) := by
  refine ⟨by rw [List.length_take, h.1]; exact Nat.min_eq_left (Nat.mul_le_mul_right k hm), Nat.le_trans hm h.2.1, h.2.2.1, fun h0 => ?_⟩
  obtain ⟨b, off, e, hs, hb, hc⟩ := h.2.2.2 (by omega)
  refine ⟨b, off, e, hs, hb, fun j v hj => hc j v ?_⟩
  rw [List.getElem?_take] at hj
  split at hj
  · exact hj
  · cases hj
theorem Rd.drop {m : Nat} (h : Rd w S A n c k cs) (hm : m ≤ n) : Rd w S (if c = m then A else A.map (·.add (m * k))) (n - m) (c - m) k (cs.drop (m * k)) := by
  have h1 := h.2.1
  refine ⟨by rw [List.length_drop, h.1, Nat.sub_mul], by omega, by have := h.2.2.1; omega, fun h0 => ?_⟩
  obtain ⟨b, off, e, hs, hb, hc⟩ := h.2.2.2 (by omega)
  subst e
  rw [if_neg (by omega)]
  refine ⟨b, off + m * k, by simp [addr_add], hs, hb, fun j v hj => ?_⟩
  rw [Nat.add_assoc]
  exact hc (m * k + j) v (by rw [← hj, List.getElem?_drop])
theorem Rd.of_blk {g : Nat} {t : TypeId} (h : Blk w g t cs) (hS : S g) (hl : cs.length = n * k) (hc : n ≤ c) (hm : c ≤ CapMax) : Rd w S (some ⟨g, 0, none⟩) n c k cs :=
  ⟨hl, hc, hm, fun _ => ⟨g, 0, rfl, hS, h.lt, fun j v hj => by rw [Nat.zero_add]; exact h.at_ hj⟩⟩
end rd

def u32 (d : Nat) : Value := .int .u32 (d : Int)
/-- A natural number's digits. -/
def NatR (w : World) (S : Nat → Prop) (A : Option Addr) (n c : Nat) (ds : List Nat) : Prop := Rd w S A n c 1 (ds.map u32) ∧ ∀ d ∈ ds, d < BS
section natr
variable {w w' : World} {S S' G : Nat → Prop} {A : Option Addr} {n c : Nat} {ds : List Nat}
theorem NatR.frm (h : NatR w S A n c ds) (f : Frm G w w') (hd : ∀ b, S b → ¬ G b) : NatR w' S A n c ds := ⟨h.1.frm f hd, h.2⟩
theorem NatR.frmB (h : NatR w S A n c ds) (f : Frm G w w') (hd : ∀ b, b < w.heap.size → S b → ¬ G b) : NatR w' S A n c ds := ⟨h.1.frmB f hd, h.2⟩
theorem NatR.ext (h : NatR w S A n c ds) (f : Ext w w') : NatR w' S A n c ds := ⟨h.1.ext f, h.2⟩
theorem NatR.sub (h : NatR w S A n c ds) (hs : ∀ b, b < w.heap.size → S b → S' b) : NatR w S' A n c ds := ⟨h.1.sub hs, h.2⟩
theorem NatR.low (h : NatR w S A n c ds) : NatR w (· < w.heap.size) A n c ds := ⟨h.1.low, h.2⟩
theorem NatR.nil : NatR w S none 0 0 [] := ⟨Rd.nil, by simp⟩
theorem NatR.len (h : NatR w S A n c ds) : ds.length = n := by have := h.1.1; simpa using this
theorem NatR.cap (h : NatR w S A n c ds) : n ≤ c := h.1.2.1
theorem NatR.max (h : NatR w S A n c ds) : c ≤ 9223372036854775807 := h.1.2.2.1
theorem NatR.lkm (h : NatR w S A n c ds) : ds.length = n ∧ n ≤ c ∧ c ≤ 9223372036854775807 := ⟨h.len, h.cap, h.max⟩
theorem NatR.base (h : NatR w S A n c ds) (hn : 0 < n) : ∃ b off, A = some ⟨b, off, none⟩ := h.1.base hn
theorem NatR.lt (h : NatR w S A n c ds) (i : Nat) : ds.getD i 0 < 4294967296 := by
  rcases Nat.lt_or_ge i ds.length with hi | hi
  · simp only [List.getD, List.getElem?_eq_getElem hi, Option.getD_some]; exact h.2 _ (List.getElem_mem hi)
  · simp [List.getD, List.getElem?_eq_none hi]
theorem NatR.cell {b off : Nat} (h : NatR w S (some ⟨b, off, none⟩) n c ds) {i : Nat} (hi : i < n) : w.cell? ⟨b, off + i, none⟩ = some (.int .u32 ((ds.getD i 0 : Nat) : Int)) := by
  refine h.1.cell ?_
  have hl : i < ds.length := by rw [h.len]; exact hi
  simp [List.getElem?_map, List.getElem?_eq_getElem hl, u32]
theorem NatR.take {m : Nat} (h : NatR w S A n c ds) (hm : m ≤ n) : NatR w S A m c (ds.take m) := by
  refine ⟨?_, fun d hd => h.2 d (List.mem_of_mem_take hd)⟩
  have := h.1.take hm
  rw [Nat.mul_one, ← List.map_take] at this
  exact this
theorem NatR.drop {m : Nat} (h : NatR w S A n c ds) (hm : m ≤ n) : NatR w S (if c = m then A else A.map (·.add (m * 1))) (n - m) (c - m) (ds.drop m) := by
  refine ⟨?_, fun d hd => h.2 d (List.mem_of_mem_drop hd)⟩
  have := h.1.drop hm
  rw [Nat.mul_one, ← List.map_drop] at this
  rw [Nat.mul_one]
  exact this
theorem NatR.trim (h : NatR w S A n c ds) : NatR w S A (trimN ds).length c (trimN ds) := by
  have h1 := trimB_len isZ ds
  have h2 := h.take (m := (trimN ds).length) (by rw [← h.len]; exact h1)
  rw [← trimB_take] at h2
  exact h2
theorem NatR.of_blk {g : Nat} {t : TypeId} (h : Blk w g t (ds.map u32)) (hS : S g) (hd : ∀ d ∈ ds, d < BS) (hl : ds.length = n) (hc : n ≤ c) (hm : c ≤ CapMax) : NatR w S (some ⟨g, 0, none⟩) n c ds :=
  ⟨Rd.of_blk h hS (by simpa using hl) hc hm, hd⟩
end natr
/-- An integer's sign and digits. -/
def zval (neg : Bool) (ds : List Nat) : Int := if neg then -(val ds : Int) else (val ds : Int)
end Go.Gx
namespace Go.Gx
variable {dfs : List Deferred}
theorem getD_ge {ds : List Nat} {n : Nat} (h : ds.length ≤ n) : ∀ j, n ≤ j → ds.getD j 0 = 0 := by
  intro j hj; simp [List.getD, List.getElem?_eq_none (by omega : ds.length ≤ j)]
theorem zeros_down {ds : List Nat} {k : Nat} (h : ∀ j, k ≤ j → ds.getD j 0 = 0) (h1 : ds.getD (k - 1) 0 = 0) : ∀ j, k - 1 ≤ j → ds.getD j 0 = 0 := by
  intro j hj
  rcases Nat.lt_or_ge j k with hl | hl
  · have : j = k - 1 := by omega
    subst this; exact h1
  · exact h j hl
theorem trimN_of {ds : List Nat} {k : Nat} (hk : k ≤ ds.length) (hz : ∀ j, k ≤ j → ds.getD j 0 = 0) (hl : k = 0 ∨ ds.getD (k - 1) 0 ≠ 0) : ds.take k = trimN ds := by
  refine (trimB_of isZ (ds.length - k) ds k (by omega) (fun j x hj hx => ?_) ?_).symm
  · have := hz j hj; simp [List.getD, hx] at this; simp [isZ, this]
  · rcases Nat.eq_zero_or_pos k with h0 | h0
    · exact .inl h0
    · right
      rcases hl with hl | hl
      · omega
      · have hlt : k - 1 < ds.length := by omega
        refine ⟨ds[k-1], List.getElem?_eq_getElem hlt, ?_⟩
        simp [List.getD, hlt] at hl
        simpa [isZ] using hl
end Go.Gx
namespace Go.Gx
open Go.RowKit
variable {dfs : List Deferred}
section copy
variable {P : Program} {n : Nat} {e : Nat → Value} {w : World} {K : Act → World → Prop} {Q : Exit → Act → World → Prop} {ty : TypeId} {pos : String} {af : Array Edge} {gd : Option (Nat × Bool)}
/-- copy of a slice that is no longer than what it is copied into, one cell an element. -/
theorem oCopy {d : Option Nat} {x y : Operand} {t t' el bt : TypeId} {S : Nat → Prop} {A : Option Addr} {g off dl dc m c : Nat} {cs ds : List Value} (ht : P.underlying t = some (.slice el)) (hs : ∀ w, (sizeOf el).run P w = .ok 1 w)
    (hx : ev n e x = .slice (some ⟨g, off, none⟩) dl dc) (hy : ev n e y = .slice A m c) (hr : Rd w S A m c 1 cs) (h1 : cs.all Value.oneCell' = true) (hb : Blk w g bt ds) (hm : m ≤ dl) (hl : off + m ≤ ds.length)
    (k : ∀ w', Frm (fun b => b = g) w w' → w'.heap.size = w.heap.size → Blk w' g bt (ds.take off ++ cs ++ ds.drop (off + m)) → K ((mkA dfs n e).put d (.int .i64 (m : Int))) w') :
    OpW P ⟨d, .call { callee := .builtin .copy, args := #[x, y], argTypes := #[t, t'] }, ty, pos, af, gd⟩ (mkA dfs n e) w K Q := by
  have hcl : cs.length = m := by have := hr.1; simpa using this
  have hmin : Nat.min m dl = m := Nat.min_eq_left hm
  have hf : (Builtin.firstCells 1 m (.slice A m c)).run P w = .ok cs.toArray w := by
    cases A with
    | none =>
      have h0 : m = 0 := by
        rcases Nat.eq_zero_or_pos m with h | h
        · exact h
        · obtain ⟨b, o, e, _⟩ := hr.2.2.2 h; cases e
      subst h0
      have : cs = [] := List.eq_nil_of_length_eq_zero hcl
      subst this
      simp [Builtin.firstCells]
    | some a =>
      have := run_loadCells_list (P := P) w a cs (fun j v hj => by
        have hpos : 0 < m := by
          rcases Nat.eq_zero_or_pos m with h | h
          · subst h; rw [List.eq_nil_of_length_eq_zero hcl] at hj; cases hj
          · exact h
        obtain ⟨b, o, e, _, _, hc⟩ := hr.2.2.2 hpos
        injection e with e
        subst e
        rw [addr_add]
        exact hc j v hj)
      rw [hcl] at this
      simp [Builtin.firstCells, this]
  have hst := run_storeCells_at P g off bt cs 0 ds.toArray w hb (by simp [hcl]; exact hl) (List.all_eq_true.1 h1)
  simp only [Nat.add_zero] at hst
  have hrun : (Builtin.copy_ #[t, t'] ty #[.slice (some ⟨g, off, none⟩) dl dc, .slice A m c]).run P w = .ok (goInt m) (w.setRow g (ds.take off ++ cs ++ ds.drop (off + m)).toArray) := by
    rw [hcl] at hst
    simp [Builtin.copy_, run_underlying ht, Builtin.lenOf, hmin, hs, hf, hst]
  unfold OpW Oper.wp
  rw [eval_mkA]
  simp only [execOp, resolve, invoke, builtin, Sem.run_bind, Sem.run_pure, Result.andThen_ok, List.map_toArray, List.map_cons, List.map_nil, hx, hy, hrun, Oper.upon]
  refine k _ ⟨rfl, rfl, rfl, by simp [World.setRow], fun j _ hj => ?_⟩ (by simp [World.setRow]) ?_
  · simp only [World.setRow, Array.getElem?_modify]
    rw [if_neg (fun h => hj h.symm)]
  · exact setRow_heap w g ds.toArray (ds.take off ++ cs ++ ds.drop (off + m)).toArray bt (0, 0) hb
end copy
theorem u32s_one (ds : List Nat) : (ds.map u32).all Value.oneCell' = true := by
  induction ds with
  | nil => rfl
  | cons d ds ih => simp only [List.map_cons, List.all_cons, ih]; rfl
theorem Blk.dig {w : World} {g : Nat} {t : TypeId} {ds : List Nat} (h : Blk w g t (ds.map u32)) {i : Nat} (hi : i < ds.length) : w.cell? ⟨g, i, none⟩ = some (.int .u32 ((ds.getD i 0 : Nat) : Int)) := by
  refine h.at_ ?_
  simp [List.getElem?_map, List.getElem?_eq_getElem hi, u32]
theorem fill_set (P : List Nat) (m s : Nat) (hm : 0 < m) : (P ++ List.replicate m 0).set P.length s = (P ++ [s]) ++ List.replicate (m - 1) 0 := by
  obtain ⟨j, rfl⟩ : ∃ j, m = j + 1 := ⟨m - 1, by omega⟩
  rw [List.replicate_succ]
  simp
end Go.Gx
namespace Go.Gx
variable {dfs : List Deferred}
theorem getD_lt {ds : List Nat} {i : Nat} (h : ∀ d ∈ ds, d < BS) : ds.getD i 0 < 4294967296 := by
  rcases Nat.lt_or_ge i ds.length with hi | hi
  · simp only [List.getD, List.getElem?_eq_getElem hi, Option.getD_some]; exact h _ (List.getElem_mem hi)
  · simp [List.getD, List.getElem?_eq_none hi]
theorem canon_zero {ds : List Nat} (h : val ds = 0) : trimN ds = [] := by
  rcases snoc_cases (trimN ds) with h0 | ⟨k, x, h0⟩
  · exact h0
  · have h1 := trimB_last isZ ds h0
    have h2 : val (trimN ds) = 0 := by rw [val_trim]; exact h
    rw [h0, val_snoc] at h2
    have h3 : x ≠ 0 := by intro e; subst e; simp [isZ] at h1
    have h4 : 0 < BS ^ k.length * x := Nat.mul_pos (Nat.pow_pos (by decide)) (by omega)
    omega
theorem isz_true {ds d' : List Nat} (e : d' = trimN ds) (hn : d'.length = 0) : true = decide (val ds = 0) := by
  have h1 : trimN ds = [] := by rw [← e]; exact List.eq_nil_of_length_eq_zero hn
  have : val ds = 0 := by rw [← val_trim, h1]; rfl
  simp [this]
theorem isz_false {ds d' : List Nat} (e : d' = trimN ds) (hn : d'.length ≠ 0) : false = decide (val ds = 0) := by
  have : val ds ≠ 0 := by
    intro h0
    rw [canon_zero h0] at e
    subst e; simp at hn
  simp [this]
theorem lt_zeros (m : Nat) : ∀ d ∈ List.replicate m 0, d < BS := by
  intro d hd
  have := List.eq_of_mem_replicate hd
  subst this; decide
end Go.Gx
