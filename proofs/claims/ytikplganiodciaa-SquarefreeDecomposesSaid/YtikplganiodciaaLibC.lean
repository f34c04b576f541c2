/-
  The laws of the walks and the plain laws of numbers and polynomials, part 3: PZPreds, IntPreds, Known, Known2, TripPreds, SqPreds.
-/
import Derived.Test.YtikplganiodciaaLibB

/-
  Lists of integers of the reference; such lists that grow. No program in sight.
-/
namespace Go.Gx
open Go.RowKit
variable {dfs : List Deferred}
structure RZ where
  s : Int
  A : Option Addr
  n : Nat
  c : Nat
  z : Int
def cellsZ (l : List RZ) : List Value := l.flatMap fun r => [.int .i64 r.s, .slice r.A r.n r.c]
theorem cellsZ_len (l : List RZ) : (cellsZ l).length = l.length * 2 := by
  induction l with
  | nil => rfl
  | cons r l ih => simp only [cellsZ, List.flatMap_cons, List.length_append, List.length_cons] at ih ⊢; rw [ih]; simp; omega
theorem cellsZ_append (a b : List RZ) : cellsZ (a ++ b) = cellsZ a ++ cellsZ b := by simp [cellsZ]
theorem cellsZ_cons (r : RZ) (l : List RZ) : cellsZ (r :: l) = .int .i64 r.s :: .slice r.A r.n r.c :: cellsZ l := by simp [cellsZ]
theorem cellsZ_take (l : List RZ) : ∀ k, cellsZ (l.take k) = (cellsZ l).take (k * 2) := by
  induction l with
  | nil => intro k; simp [cellsZ]
  | cons r l ih =>
    intro k
    cases k with
    | zero => simp [cellsZ]
    | succ k => rw [List.take_succ_cons, cellsZ_cons, cellsZ_cons, ih, show (k + 1) * 2 = k * 2 + 1 + 1 by omega]; simp
theorem cellsZ_get {l : List RZ} : ∀ {i : Nat} {r : RZ}, l[i]? = some r → (cellsZ l)[i * 2]? = some (.int .i64 r.s) ∧ (cellsZ l)[i * 2 + 1]? = some (.slice r.A r.n r.c) := by
  induction l with
  | nil => intro i r h; simp at h
  | cons x l ih =>
    intro i r h
    rw [cellsZ_cons]
    cases i with
    | zero => simp at h; subst h; simp
    | succ i =>
      simp at h
      have := ih h
      rw [show (i + 1) * 2 = i * 2 + 1 + 1 by omega]
      simpa using this
def AllZ (w : World) (S : Nat → Prop) (M : Nat) (l : List RZ) : Prop := ∀ r ∈ l, ZR w S r.s r.A r.n r.c r.z ∧ r.n ≤ M
def PZR (w : World) (S : Nat → Prop) (A : Option Addr) (n c : Nat) (f : List Int) (M : Nat) : Prop := ∃ l : List RZ, Rd w S A n c 2 (cellsZ l) ∧ AllZ w S M l ∧ l.map RZ.z = f
section
variable {w w' : World} {S S' G : Nat → Prop} {A : Option Addr} {n c M M' : Nat} {f : List Int}
theorem PZR.frmB (h : PZR w S A n c f M) (k : Frm G w w') (hd : ∀ b, b < w.heap.size → S b → ¬ G b) : PZR w' S A n c f M := by
  obtain ⟨l, h1, h2, h3⟩ := h
  exact ⟨l, h1.frmB k hd, fun r hr => ⟨(h2 r hr).1.frmB k hd, (h2 r hr).2⟩, h3⟩
theorem PZR.ext (h : PZR w S A n c f M) (k : Ext w w') : PZR w' S A n c f M := h.frmB k fun _ _ _ g => g
theorem PZR.sub (h : PZR w S A n c f M) (hs : ∀ b, b < w.heap.size → S b → S' b) : PZR w S' A n c f M := by
  obtain ⟨l, h1, h2, h3⟩ := h
  exact ⟨l, h1.sub hs, fun r hr => ⟨(h2 r hr).1.sub hs, (h2 r hr).2⟩, h3⟩
theorem PZR.low (h : PZR w S A n c f M) : PZR w (· < w.heap.size) A n c f M := h.sub fun _ hb _ => hb
theorem PZR.le (h : PZR w S A n c f M) (hm : M ≤ M') : PZR w S A n c f M' := by
  obtain ⟨l, h1, h2, h3⟩ := h
  exact ⟨l, h1, fun r hr => ⟨(h2 r hr).1, Nat.le_trans (h2 r hr).2 hm⟩, h3⟩
theorem PZR.nil : PZR w S none 0 0 [] M := ⟨[], Rd.nil, fun r hr => (by cases hr), rfl⟩
theorem PZR.len (h : PZR w S A n c f M) : f.length = n := by
  obtain ⟨l, h1, h2, h3⟩ := h
  have := h1.1; rw [cellsZ_len] at this; rw [← h3]; simp; omega
theorem PZR.cap (h : PZR w S A n c f M) : n ≤ c := by obtain ⟨l, h1, _⟩ := h; exact h1.2.1
theorem PZR.max (h : PZR w S A n c f M) : c ≤ 9223372036854775807 := by obtain ⟨l, h1, _⟩ := h; exact h1.2.2.1
theorem PZR.lkm (h : PZR w S A n c f M) : f.length = n ∧ n ≤ c ∧ c ≤ 9223372036854775807 := ⟨h.len, h.cap, h.max⟩
theorem PZR.base (h : PZR w S A n c f M) (hn : 0 < n) : ∃ b off, A = some ⟨b, off, none⟩ := by obtain ⟨l, h1, _⟩ := h; exact h1.base hn
theorem PZR.take {m : Nat} (h : PZR w S A n c f M) (hm : m ≤ n) : PZR w S A m c (f.take m) M := by
  obtain ⟨l, h1, h2, h3⟩ := h
  refine ⟨l.take m, ?_, fun r hr => h2 r (List.mem_of_mem_take hr), by rw [← h3, List.map_take]⟩
  have := h1.take hm
  rw [← cellsZ_take] at this
  exact this
theorem PZR.at_ {b off i : Nat} (h : PZR w S (some ⟨b, off, none⟩) n c f M) (hi : i < n) :
    ∃ s A' n' c' z', w.cell? ⟨b, off + i * 2, none⟩ = some (.int .i64 s) ∧ w.cell? ⟨b, off + i * 2 + 1, none⟩ = some (.slice A' n' c') ∧ ZR w S s A' n' c' z' ∧ n' ≤ M ∧ S b ∧ b < w.heap.size ∧ z' = co f i := by
  have hlen := h.len
  obtain ⟨l, h1, h2, h3⟩ := h
  have hl : i < l.length := by rw [← h3] at hlen; simp at hlen; omega
  obtain ⟨r, hr⟩ : ∃ r, l[i]? = some r := ⟨_, List.getElem?_eq_getElem hl⟩
  have hc := cellsZ_get hr
  have hm := h2 _ (List.mem_of_getElem? hr)
  obtain ⟨b', off', e, hS, hb, _⟩ := h1.2.2.2 (by omega)
  injection e with e
  injection e with e1 e2
  subst e1 e2
  exact ⟨r.s, r.A, r.n, r.c, r.z, h1.cell hc.1, h1.cell hc.2, hm.1, hm.2, hS, hb, by rw [← h3]; simp [List.getD, List.getElem?_map, hr]⟩
/-- A literal of one element. -/
theorem PZR.one {g : Nat} {t : TypeId} {s : Int} {A' : Option Addr} {n' c' : Nat} {z : Int} (h : Blk w g t [.int .i64 s, .slice A' n' c']) (hz : ZR w S s A' n' c' z) (hM : n' ≤ M) : PZR w (fun _ => True) (some ⟨g, 0, none⟩) 1 1 [z] M :=
  ⟨[⟨s, A', n', c', z⟩], Rd.of_blk h trivial rfl (Nat.le_refl _) (by decide), fun r hr => by simp at hr; subst hr; exact ⟨hz.sub fun _ _ _ => trivial, hM⟩, rfl⟩
theorem PZR.two {g : Nat} {t : TypeId} {s s2 : Int} {A' A2 : Option Addr} {n' c' n2 c2 : Nat} {z z2 : Int} {S2 : Nat → Prop} (h : Blk w g t [.int .i64 s, .slice A' n' c', .int .i64 s2, .slice A2 n2 c2]) (hz : ZR w S s A' n' c' z) (hz2 : ZR w S2 s2 A2 n2 c2 z2) (hM : n' ≤ M) (hM2 : n2 ≤ M) :
    PZR w (fun _ => True) (some ⟨g, 0, none⟩) 2 2 [z, z2] M :=
  ⟨[⟨s, A', n', c', z⟩, ⟨s2, A2, n2, c2, z2⟩], Rd.of_blk h trivial rfl (Nat.le_refl _) (by decide), fun r hr => by
    simp at hr
    rcases hr with h1 | h1
    · subst h1; exact ⟨hz.sub fun _ _ _ => trivial, hM⟩
    · subst h1; exact ⟨hz2.sub fun _ _ _ => trivial, hM2⟩, rfl⟩
end
/-! ### lists that grow -/
def OwnZ (T : Nat → Prop) (w : World) (B : Nat) (el : TypeId) (A : Option Addr) (n c : Nat) (f : List Int) (M : Nat) : Prop := ∃ l : List RZ, Own w B el 2 A n c (cellsZ l) ∧ AllZ w (fun b => notIn A b ∧ T b) M l ∧ l.map RZ.z = f
section
variable {T : Nat → Prop} {w w' : World} {B : Nat} {el : TypeId} {S G : Nat → Prop} {A : Option Addr} {n c M : Nat} {f : List Int}
theorem OwnZ.nil : OwnZ T w B el none 0 0 [] M := ⟨[], Own.nil, fun r hr => (by cases hr), rfl⟩
theorem OwnZ.ext (h : OwnZ T w B el A n c f M) (k : Ext w w') : OwnZ T w' B el A n c f M := by
  obtain ⟨l, h1, h2, h3⟩ := h
  exact ⟨l, h1.ext k, fun r hr => ⟨(h2 r hr).1.ext k, (h2 r hr).2⟩, h3⟩
theorem OwnZ.lt (h : OwnZ T w B el A n c f M) : ∀ a, A = some a → B ≤ a.block ∧ a.block < w.heap.size := by obtain ⟨l, h1, _⟩ := h; exact h1.lt
theorem OwnZ.cap (h : OwnZ T w B el A n c f M) : n ≤ c := by obtain ⟨l, h1, _⟩ := h; exact h1.cap
theorem OwnZ.max (h : OwnZ T w B el A n c f M) : c ≤ 9223372036854775807 := by obtain ⟨l, h1, _⟩ := h; exact h1.max
theorem OwnZ.len (h : OwnZ T w B el A n c f M) : f.length = n := by
  obtain ⟨l, h1, h2, h3⟩ := h
  have := h1.1; rw [cellsZ_len] at this; rw [← h3]; simp; omega
theorem OwnZ.lkm (h : OwnZ T w B el A n c f M) : f.length = n ∧ n ≤ c ∧ c ≤ 9223372036854775807 := ⟨h.len, h.cap, h.max⟩
theorem OwnZ.pzrF (h : OwnZ (fun b => B ≤ b) w B el A n c f M) : PZR w (fun b => B ≤ b) A n c f M := by
  obtain ⟨l, h1, h2, h3⟩ := h
  exact ⟨l, h1.rd, fun r hr => ⟨(h2 r hr).1.sub fun _ _ h => h.2, (h2 r hr).2⟩, h3⟩
theorem OwnZ.pzr (h : OwnZ T w B el A n c f M) : PZR w (fun _ => True) A n c f M := by
  obtain ⟨l, h1, h2, h3⟩ := h
  exact ⟨l, h1.rd.sub fun _ _ _ => trivial, fun r hr => ⟨(h2 r hr).1.sub fun _ _ _ => trivial, (h2 r hr).2⟩, h3⟩
end
section
variable {P : Program} {n : Nat} {e : Nat → Value} {w : World} {K : Act → World → Prop} {Q : Exit → Act → World → Prop} {ty : TypeId} {pos : String} {af : Array Edge} {gd : Option (Nat × Bool)}
theorem oAppZ {T : Nat → Prop} {d : Nat} {s x : Operand} {t el bt : TypeId} {zv : Value} {bytes B m c g M : Nat} {A : Option Addr} {f : List Int} {S : Nat → Prop} {sz : Int} {A' : Option Addr} {n' c' : Nat} {z : Int} (ht : P.underlying t = some (.slice el))
    (hi : (P.info? el).map (fun i => (i.zero, i.size, i.bytes)) = some (some zv, 2, bytes)) (hzv : zv.cells.size = 2) (hs : ev n e s = .slice A m c) (hx : ev n e x = .slice (some ⟨g, 0, none⟩) 1 1) (hO : OwnZ T w B el A m c f M) (hb : Blk w g bt [.int .i64 sz, .slice A' n' c'])
    (hz : ZR w S sz A' n' c' z) (hM : n' ≤ M) (hS : ∀ b, b < w.heap.size → S b → notIn A b) (hT : ∀ b, b < w.heap.size → S b → T b) (hm : (m + 1) * bytes ≤ 140737488355328) (hm2 : m + 1 ≤ 9223372036854775807) (hB : B ≤ w.heap.size)
    (kk : ∀ A2 c2 w', OwnZ T w' B el A2 (m + 1) c2 (f ++ [z]) M → Frm (fun b => B ≤ b) w w' → K (mkA dfs n (upd e d (.slice A2 (m + 1) c2))) w') :
    OpW P ⟨some d, .call { callee := .builtin .append, args := #[s, x], argTypes := #[t, t] }, ty, pos, af, gd⟩ (mkA dfs n e) w K Q := by
  obtain ⟨l, h1, h2, h3⟩ := hO
  refine oApp ht hi hzv (by decide) hs hx h1 hb rfl rfl hm hm2 hB fun A2 c2 w' hO' hF hF2 hnew => kk A2 c2 w' ?_ hF
  have hk := hF2 (notIn A) fun _ h => h
  have key : ∀ (S : Nat → Prop) (s : Int) (A3 : Option Addr) (n3 c3 : Nat) (z3 : Int), (∀ b, b < w.heap.size → S b → notIn A b) → (∀ b, b < w.heap.size → S b → T b) → ZR w S s A3 n3 c3 z3 → ZR w' (fun b => notIn A2 b ∧ T b) s A3 n3 c3 z3 := by
    intro S s A3 n3 c3 z3 hS hT h
    have h4 := (h.sub (S' := fun b => (notIn A b ∧ b < w.heap.size) ∧ T b) fun b hb hs => ⟨⟨hS b hb hs, hb⟩, hT b hb hs⟩).frmB hk fun b _ hs hn => hn hs.1.1
    refine h4.sub fun b _ hb => ⟨fun a ha => ?_, hb.2⟩
    rcases hnew a ha with h5 | h5
    · exact hb.1.1 a h5
    · have := hb.1.2; omega
  refine ⟨l ++ [⟨sz, A', n', c', z⟩], ?_, fun r hr => ?_, by simp [h3]⟩
  · rw [cellsZ_append]; exact hO'
  · rcases List.mem_append.1 hr with h5 | h5
    · exact ⟨key _ _ _ _ _ _ (fun _ _ h => h.1) (fun _ _ h => h.2) (h2 r h5).1, (h2 r h5).2⟩
    · simp at h5; subst h5; exact ⟨key _ _ _ _ _ _ hS hT hz, hM⟩
end
end Go.Gx
namespace Go.Gx
open Go.RowKit
variable {dfs : List Deferred}
theorem run_append_nothing {P : Program} {w : World} {B : Nat} {t ty el : TypeId} {i : TypeInfo} {size : Nat} (ht : P.underlying t = some (.slice el)) (hi : P.info? el = some i) {v : Value} {n : Nat} {xs : List Value} (hown : w.ownsRow B el size v n xs) (c2 : Nat) :
    (Builtin.append_ #[t, t] ty #[v, .slice none 0 c2]).run P w = .ok v w := by
  rcases hown.2 with ⟨rfl, rfl⟩ | ⟨g, cap, cur, rfl, _, _, hnc, _⟩
  · simp [Builtin.append_, run_underlying ht, sizeOf, typeInfo, hi, Builtin.lenOf, Builtin.firstCells]
  · simp [Builtin.append_, run_underlying ht, sizeOf, typeInfo, hi, Builtin.lenOf, Builtin.firstCells, hnc, storeCells]
section
variable {P : Program} {n : Nat} {e : Nat → Value} {w : World} {K : Act → World → Prop} {Q : Exit → Act → World → Prop} {ty : TypeId} {pos : String} {af : Array Edge} {gd : Option (Nat × Bool)}
theorem cellsZ_one (l : List RZ) : ∀ u ∈ cellsZ l, u.oneCell' = true := by
  induction l with
  | nil => intro u hu; simp [cellsZ] at hu
  | cons r l ih =>
    intro u hu
    rw [cellsZ_cons] at hu
    simp only [List.mem_cons] at hu
    rcases hu with h | h | h
    · subst h; rfl
    · subst h; rfl
    · exact ih u h
theorem oAppZS {T : Nat → Prop} {d : Nat} {s x : Operand} {t el : TypeId} {zv : Value} {bytes B m c M l c2 : Nat} {A A2 : Option Addr} {f f2 : List Int} {S : Nat → Prop} (ht : P.underlying t = some (.slice el))
    (hi : (P.info? el).map (fun i => (i.zero, i.size, i.bytes)) = some (some zv, 2, bytes)) (hzv : zv.cells.size = 2) (hs : ev n e s = .slice A m c) (hx : ev n e x = .slice A2 l c2) (hO : OwnZ T w B el A m c f M) (h2 : PZR w S A2 l c2 f2 M)
    (hS : ∀ b, b < w.heap.size → S b → notIn A b) (hm : (m + l) * bytes ≤ 140737488355328) (hm2 : m + l ≤ 9223372036854775807) (hB : B ≤ w.heap.size)
    (kk : ∀ A3 n3 c3 w', n3 = m + l → PZR w' (fun _ => True) A3 n3 c3 (f ++ f2) M → Frm (fun b => B ≤ b) w w' → K (mkA dfs n (upd e d (.slice A3 n3 c3))) w') :
    OpW P ⟨some d, .call { callee := .builtin .append, args := #[s, x], argTypes := #[t, t] }, ty, pos, af, gd⟩ (mkA dfs n e) w K Q := by
  have hO0 := hO
  obtain ⟨i, hi', hz', hsz, hby⟩ := info_parts hi
  obtain ⟨l1, h1, ha1, hf1⟩ := hO
  obtain ⟨l2, hr2, ha2, hf2⟩ := h2
  cases A2 with
  | none =>
    have hl0 : l = 0 := by
      rcases Nat.eq_zero_or_pos l with h | h
      · exact h
      · obtain ⟨b, o, e, _⟩ := hr2.2.2.2 h; cases e
    subst hl0
    have : l2 = [] := by have := hr2.1; rw [cellsZ_len] at this; exact List.eq_nil_of_length_eq_zero (by omega)
    subst this
    subst hf2
    have hr := run_append_nothing (P := P) (w := w) (ty := ty) ht hi' h1 c2
    unfold OpW Oper.wp
    rw [eval_mkA]
    simp only [execOp, resolve, invoke, builtin, Sem.run_bind, Sem.run_pure, Result.andThen_ok, List.map_toArray, List.map_cons, List.map_nil, hs, hx, hr, Oper.upon, put_mkA]
    exact kk A m c w rfl (by simpa using hO0.pzr) (Frm.refl _ _)
  | some a =>
    have hnews : ∀ (j : Nat) u, (cellsZ l2)[j]? = some u → w.cell? (a.add j) = some u := by
      intro j u hj
      have hl0 : 0 < l := by
        rcases Nat.eq_zero_or_pos l with h | h
        · have := hr2.1; rw [h, Nat.zero_mul] at this; rw [List.eq_nil_of_length_eq_zero this] at hj; cases hj
        · exact h
      obtain ⟨b, o, ea, _, _, hc⟩ := hr2.2.2.2 hl0
      injection ea with ea
      subst ea
      rw [addr_add]
      exact hc j u hj
    refine oAppend (cellsZ l2) ht hi hzv (by decide) hs hx h1 hr2.1 hnews (cellsZ_one l2) hm2 hm hB fun v' w' ho hF => ?_
    have hF1 : Frm (fun b => B ≤ b) w w' := hF.mono fun b _ hb => (World.ownsRow.lt h1 b hb).1
    have hF2 : Frm (fun b => ¬ notIn A b) w w' := hF.mono fun b _ hb hn => by
      cases A with
      | none => simp [Value.ownBlock] at hb
      | some a' => simp [Value.ownBlock] at hb; exact hn a' rfl hb
    obtain ⟨A3, n3, c3, rfl, rfl⟩ : ∃ A3 n3 c3, v' = .slice A3 n3 c3 ∧ n3 = m + l := by
      rcases ho.2 with ⟨hv, h0⟩ | ⟨g', cap, cur, hv, _⟩
      · exact ⟨none, 0, 0, hv, h0.symm⟩
      · exact ⟨_, _, _, hv, rfl⟩
    refine kk A3 _ c3 w' rfl ⟨l1 ++ l2, ?_, fun r hr => ?_, by rw [List.map_append, hf1, hf2]⟩ hF1
    · rw [cellsZ_append]
      exact (Own.rd (B := B) (e := el) ho).sub fun _ _ _ => trivial
    · rcases List.mem_append.1 hr with h5 | h5
      · exact ⟨((ha1 r h5).1.frmB hF2 fun b _ hs hn => hn hs.1).sub fun _ _ _ => trivial, (ha1 r h5).2⟩
      · exact ⟨((ha2 r h5).1.frmB hF2 fun b hb hs hn => hn (hS b hb hs)).sub fun _ _ _ => trivial, (ha2 r h5).2⟩
end
end Go.Gx

/-
  Slices of int, lists of these, factors of the reference. No program in sight.
-/
namespace Go.Gx
open Go.RowKit
section
variable {w w' : World} {S S' G : Nat → Prop} {A : Option Addr} {n c : Nat} {xs : List Int}
theorem IntsR.take {m : Nat} (h : IntsR w S A n c xs) (hm : m ≤ n) : IntsR w S A m c (xs.take m) := by
  refine ⟨?_, fun x hx => h.2 x (List.mem_of_mem_take hx)⟩
  have := h.1.take hm
  rw [Nat.mul_one] at this
  rw [List.map_take]
  exact this
theorem Blk.inti {g : Nat} {t : TypeId} (h : Blk w g t (xs.map (Value.int .i64))) {i : Nat} (hi : i < xs.length) : w.cell? ⟨g, i, none⟩ = some (.int .i64 (xs.getD i 0)) := by
  refine h.at_ ?_
  simp [List.getElem?_map, List.getElem?_eq_getElem hi]
end
/-- A list of ints in memory, and a power. -/
structure IE where
  A : Option Addr
  n : Nat
  c : Nat
  x : List Int
  k : Int
def IE.m (f : IE) : List Int × Int := (f.x, f.k)
def IE.cells (f : IE) : List Value := [.slice f.A f.n f.c, .int .i64 f.k]
def cellsIE (l : List IE) : List Value := l.flatMap IE.cells
def cellsIL (l : List IE) : List Value := l.map fun f => .slice f.A f.n f.c
theorem cellsIE_len (l : List IE) : (cellsIE l).length = l.length * 2 := by
  induction l with
  | nil => rfl
  | cons r l ih => simp only [cellsIE, List.flatMap_cons, List.length_append, List.length_cons] at ih ⊢; rw [ih]; simp [IE.cells]; omega
theorem cellsIE_append (a b : List IE) : cellsIE (a ++ b) = cellsIE a ++ cellsIE b := by simp [cellsIE]
theorem cellsIE_cons (r : IE) (l : List IE) : cellsIE (r :: l) = .slice r.A r.n r.c :: .int .i64 r.k :: cellsIE l := by simp [cellsIE, IE.cells]
theorem cellsIE_one (l : List IE) : ∀ u ∈ cellsIE l, u.oneCell' = true := by
  induction l with
  | nil => intro u h; simp [cellsIE] at h
  | cons r l ih =>
    intro u hu
    rw [cellsIE_cons] at hu
    simp only [List.mem_cons] at hu
    rcases hu with h | h | h
    · subst h; rfl
    · subst h; rfl
    · exact ih u h
theorem cellsIE_get {l : List IE} : ∀ {i : Nat} {r : IE}, l[i]? = some r → (cellsIE l)[i * 2]? = some (.slice r.A r.n r.c) ∧ (cellsIE l)[i * 2 + 1]? = some (.int .i64 r.k) := by
  induction l with
  | nil => intro i r h; simp at h
  | cons x l ih =>
    intro i r h
    rw [cellsIE_cons]
    cases i with
    | zero => simp at h; subst h; simp
    | succ i =>
      simp at h
      have := ih h
      rw [show (i + 1) * 2 = i * 2 + 1 + 1 by omega]
      simpa using this
theorem cellsIE_set {l : List IE} : ∀ {i : Nat} {r : IE} (k : Int), l[i]? = some r → (cellsIE l).set (i * 2 + 1) (.int .i64 k) = cellsIE (l.set i { r with k := k }) := by
  induction l with
  | nil => intro i r k h; simp at h
  | cons x l ih =>
    intro i r k h
    cases i with
    | zero => simp at h; subst h; simp [cellsIE_cons]
    | succ i =>
      simp at h
      rw [List.set_cons_succ, cellsIE_cons, cellsIE_cons, show (i + 1) * 2 + 1 = i * 2 + 1 + 1 + 1 by omega, List.set_cons_succ, List.set_cons_succ, ih k h]
def AllI (w : World) (S : Nat → Prop) (l : List IE) : Prop := ∀ f ∈ l, IntsR w S f.A f.n f.c f.x
def IFacsR (w : World) (S : Nat → Prop) (A : Option Addr) (n c : Nat) (l : List IE) : Prop := Rd w S A n c 2 (cellsIE l) ∧ AllI w S l
def IListR (w : World) (S : Nat → Prop) (A : Option Addr) (n c : Nat) (l : List IE) : Prop := Rd w S A n c 1 (cellsIL l) ∧ AllI w S l
section
variable {w w' : World} {S S' G : Nat → Prop} {A : Option Addr} {n c : Nat} {l : List IE}
theorem IFacsR.frmB (h : IFacsR w S A n c l) (f : Frm G w w') (hd : ∀ b, b < w.heap.size → S b → ¬ G b) : IFacsR w' S A n c l := ⟨h.1.frmB f hd, fun x hx => (h.2 x hx).frmB f hd⟩
theorem IFacsR.ext (h : IFacsR w S A n c l) (f : Ext w w') : IFacsR w' S A n c l := ⟨h.1.ext f, fun x hx => (h.2 x hx).ext f⟩
theorem IFacsR.sub (h : IFacsR w S A n c l) (hs : ∀ b, b < w.heap.size → S b → S' b) : IFacsR w S' A n c l := ⟨h.1.sub hs, fun x hx => (h.2 x hx).sub hs⟩
theorem IFacsR.low (h : IFacsR w S A n c l) : IFacsR w (· < w.heap.size) A n c l := h.sub fun _ hb _ => hb
theorem IFacsR.nil : IFacsR w S none 0 0 [] := ⟨Rd.nil, fun f hf => by cases hf⟩
theorem IFacsR.len (h : IFacsR w S A n c l) : l.length = n := by have := h.1.1; rw [cellsIE_len] at this; omega
theorem IFacsR.lkm (h : IFacsR w S A n c l) : l.length = n ∧ n ≤ c ∧ c ≤ 9223372036854775807 := ⟨h.len, h.1.2.1, h.1.2.2.1⟩
theorem IFacsR.base (h : IFacsR w S A n c l) (hn : 0 < n) : ∃ b off, A = some ⟨b, off, none⟩ := h.1.base hn
theorem IFacsR.at_ {b off i : Nat} (h : IFacsR w S (some ⟨b, off, none⟩) n c l) (hi : i < n) :
    ∃ f, l[i]? = some f ∧ w.cell? ⟨b, off + i * 2, none⟩ = some (.slice f.A f.n f.c) ∧ w.cell? ⟨b, off + i * 2 + 1, none⟩ = some (.int .i64 f.k) ∧ IntsR w S f.A f.n f.c f.x ∧ S b ∧ b < w.heap.size := by
  have hl : i < l.length := by rw [h.len]; exact hi
  obtain ⟨b', off', e, hS, hb, _⟩ := h.1.2.2.2 (by omega)
  injection e with e
  injection e with e1 e2
  subst e1 e2
  obtain ⟨r, hr⟩ : ∃ r, l[i]? = some r := ⟨_, List.getElem?_eq_getElem hl⟩
  have hc := cellsIE_get hr
  exact ⟨r, hr, h.1.cell hc.1, h.1.cell hc.2, h.2 _ (List.mem_of_getElem? hr), hS, hb⟩
theorem IListR.frmB (h : IListR w S A n c l) (f : Frm G w w') (hd : ∀ b, b < w.heap.size → S b → ¬ G b) : IListR w' S A n c l := ⟨h.1.frmB f hd, fun x hx => (h.2 x hx).frmB f hd⟩
theorem IListR.ext (h : IListR w S A n c l) (f : Ext w w') : IListR w' S A n c l := ⟨h.1.ext f, fun x hx => (h.2 x hx).ext f⟩
theorem IListR.sub (h : IListR w S A n c l) (hs : ∀ b, b < w.heap.size → S b → S' b) : IListR w S' A n c l := ⟨h.1.sub hs, fun x hx => (h.2 x hx).sub hs⟩
theorem IListR.low (h : IListR w S A n c l) : IListR w (· < w.heap.size) A n c l := h.sub fun _ hb _ => hb
theorem IListR.nil : IListR w S none 0 0 [] := ⟨Rd.nil, fun f hf => by cases hf⟩
theorem IListR.len (h : IListR w S A n c l) : l.length = n := by have := h.1.1; simp [cellsIL] at this; omega
theorem IListR.lkm (h : IListR w S A n c l) : l.length = n ∧ n ≤ c ∧ c ≤ 9223372036854775807 := ⟨h.len, h.1.2.1, h.1.2.2.1⟩
theorem IListR.base (h : IListR w S A n c l) (hn : 0 < n) : ∃ b off, A = some ⟨b, off, none⟩ := h.1.base hn
theorem IListR.at_ {b off i : Nat} (h : IListR w S (some ⟨b, off, none⟩) n c l) (hi : i < n) :
    ∃ f, l[i]? = some f ∧ w.cell? ⟨b, off + i, none⟩ = some (.slice f.A f.n f.c) ∧ IntsR w S f.A f.n f.c f.x ∧ S b ∧ b < w.heap.size := by
  have hl : i < l.length := by rw [h.len]; exact hi
  obtain ⟨b', off', e, hS, hb, _⟩ := h.1.2.2.2 (by omega)
  injection e with e
  injection e with e1 e2
  subst e1 e2
  obtain ⟨r, hr⟩ : ∃ r, l[i]? = some r := ⟨_, List.getElem?_eq_getElem hl⟩
  have hc : (cellsIL l)[i]? = some (.slice r.A r.n r.c) := by simp [cellsIL, hr]
  exact ⟨r, hr, h.1.cell hc, h.2 _ (List.mem_of_getElem? hr), hS, hb⟩
theorem IListR.one {g : Nat} {t : TypeId} {S1 : Nat → Prop} {A1 : Option Addr} {n1 c1 : Nat} {x1 : List Int} (hb : Blk w g t [.slice A1 n1 c1]) (h1 : IntsR w S1 A1 n1 c1 x1) : IListR w (fun _ => True) (some ⟨g, 0, none⟩) 1 1 [⟨A1, n1, c1, x1, 0⟩] := by
  refine ⟨Rd.of_blk (cs := cellsIL [⟨A1, n1, c1, x1, 0⟩]) hb trivial rfl (by omega) (by decide), fun x hx => ?_⟩
  simp at hx
  subst hx
  exact h1.sub fun _ _ _ => trivial
theorem IListR.two {g : Nat} {t : TypeId} {S1 S2 : Nat → Prop} {A1 A2 : Option Addr} {n1 c1 n2 c2 : Nat} {x1 x2 : List Int} (hb : Blk w g t [.slice A1 n1 c1, .slice A2 n2 c2]) (h1 : IntsR w S1 A1 n1 c1 x1) (h2 : IntsR w S2 A2 n2 c2 x2) : IListR w (fun _ => True) (some ⟨g, 0, none⟩) 2 2 [⟨A1, n1, c1, x1, 0⟩, ⟨A2, n2, c2, x2, 0⟩] := by
  refine ⟨Rd.of_blk (cs := cellsIL [⟨A1, n1, c1, x1, 0⟩, ⟨A2, n2, c2, x2, 0⟩]) hb trivial rfl (by omega) (by decide), fun x hx => ?_⟩
  simp at hx
  rcases hx with rfl | rfl
  · exact h1.sub fun _ _ _ => trivial
  · exact h2.sub fun _ _ _ => trivial
end
/-- A list of factors that grows. -/
def OwnI (w : World) (B : Nat) (el : TypeId) (A : Option Addr) (n c : Nat) (l : List IE) : Prop := Own w B el 2 A n c (cellsIE l) ∧ AllI w (fun b => notIn A b) l
section
variable {w w' : World} {B : Nat} {el : TypeId} {A : Option Addr} {n c : Nat} {l : List IE}
theorem OwnI.nil : OwnI w B el none 0 0 [] := ⟨Own.nil, fun f hf => by cases hf⟩
theorem OwnI.ext (h : OwnI w B el A n c l) (k : Ext w w') : OwnI w' B el A n c l := ⟨h.1.ext k, fun f hf => (h.2 f hf).ext k⟩
theorem OwnI.len (h : OwnI w B el A n c l) : l.length = n := by have := h.1.1; rw [cellsIE_len] at this; omega
theorem OwnI.lkm (h : OwnI w B el A n c l) : l.length = n ∧ n ≤ c ∧ c ≤ 9223372036854775807 := ⟨h.len, h.1.cap, h.1.max⟩
theorem OwnI.facs (h : OwnI w B el A n c l) : IFacsR w (fun _ => True) A n c l := ⟨h.1.rd.sub fun _ _ _ => trivial, fun f hf => (h.2 f hf).sub fun _ _ _ => trivial⟩
/-- Its block, opened. -/
theorem OwnI.open_ (h : OwnI w B el A n c l) (hn : 0 < n) : ∃ g sp, A = some ⟨g, 0, none⟩ ∧ B ≤ g ∧ Blk w g el (cellsIE l ++ sp) ∧ (cellsIE l ++ sp).length = c * 2 ∧ AllI w (fun b => b ≠ g) l := by
  obtain ⟨⟨hl, h1⟩, h2⟩ := h
  rcases h1 with ⟨_, h0⟩ | ⟨g, cap, cur, hv, hb, hg, hnc, hcm, hsz, htake⟩
  · omega
  · injection hv with e1 e2 e3
    subst e1 e3
    refine ⟨g, cur.toList.drop (n * 2), rfl, hb, ?_, ?_, fun f hf => (h2 f hf).sub fun b _ hb e => hb _ rfl e.symm⟩
    · unfold Blk; rw [← htake, List.take_append_drop]; exact hg
    · rw [← htake, List.take_append_drop]; simpa using hsz
theorem OwnI.close {g : Nat} {sp : List Value} (hb : B ≤ g) (h : Blk w g el (cellsIE l ++ sp)) (hl : (cellsIE l ++ sp).length = c * 2) (hn : l.length = n) (hnc : n ≤ c) (hm : c ≤ CapMax) (ha : AllI w (fun b => b ≠ g) l) : OwnI w B el (some ⟨g, 0, none⟩) n c l := by
  refine ⟨⟨by rw [cellsIE_len, hn], .inr ⟨g, c, (cellsIE l ++ sp).toArray, rfl, hb, h, hnc, hm, by simpa using hl, ?_⟩⟩, fun f hf => (ha f hf).sub fun b _ hb a ha' e => by cases ha'; exact hb e.symm⟩
  have : (cellsIE l).length = n * 2 := by rw [cellsIE_len, hn]
  rw [List.toList_toArray, ← this, List.take_left]
end
section
variable {dfs : List Deferred} {P : Program} {n : Nat} {e : Nat → Value} {w : World} {K : Act → World → Prop} {Q : Exit → Act → World → Prop} {ty : TypeId} {pos : String} {af : Array Edge} {gd : Option (Nat × Bool)}
/-- One factor more. -/
theorem oAppI {d : Nat} {s x : Operand} {t el bt : TypeId} {zv : Value} {bytes B m c g : Nat} {A : Option Addr} {l : List IE} {S : Nat → Prop} {A' : Option Addr} {n' c' : Nat} {x' : List Int} {k : Int} (ht : P.underlying t = some (.slice el))
    (hi : (P.info? el).map (fun i => (i.zero, i.size, i.bytes)) = some (some zv, 2, bytes)) (hzv : zv.cells.size = 2) (hs : ev n e s = .slice A m c) (hx : ev n e x = .slice (some ⟨g, 0, none⟩) 1 1) (hO : OwnI w B el A m c l) (hb : Blk w g bt [.slice A' n' c', .int .i64 k])
    (hp : IntsR w S A' n' c' x') (hS : ∀ b, b < w.heap.size → S b → notIn A b) (hm : (m + 1) * bytes ≤ 140737488355328) (hm2 : m + 1 ≤ 9223372036854775807) (hB : B ≤ w.heap.size)
    (kk : ∀ A2 c2 w', OwnI w' B el A2 (m + 1) c2 (l ++ [⟨A', n', c', x', k⟩]) → Frm (fun b => B ≤ b) w w' → (∀ G : Nat → Prop, (∀ b, G b → notIn A b) → Frm (fun b => ¬ G b) w w') → (∀ a, A2 = some a → A = some a ∨ w.heap.size ≤ a.block) → K (mkA dfs n (upd e d (.slice A2 (m + 1) c2))) w') :
    OpW P ⟨some d, .call { callee := .builtin .append, args := #[s, x], argTypes := #[t, t] }, ty, pos, af, gd⟩ (mkA dfs n e) w K Q := by
  refine oApp ht hi hzv (by decide) hs hx hO.1 hb rfl rfl hm hm2 hB fun A2 c2 w' hO' hF hF2 hnew => ?_
  have hk := hF2 (notIn A) fun _ h => h
  have key : ∀ {S : Nat → Prop} {A3 : Option Addr} {n3 c3 : Nat} {x3 : List Int}, (∀ b, b < w.heap.size → S b → notIn A b) → IntsR w S A3 n3 c3 x3 → IntsR w' (fun b => notIn A2 b) A3 n3 c3 x3 := by
    intro S A3 n3 c3 x3 hS h
    have h4 := (h.sub (S' := fun b => notIn A b ∧ b < w.heap.size) fun b hb hs => ⟨hS b hb hs, hb⟩).frmB hk fun b _ hs hn => hn hs.1
    refine h4.sub fun b _ hb a ha => ?_
    rcases hnew a ha with h5 | h5
    · exact hb.1 a h5
    · have := hb.2; omega
  refine kk A2 c2 w' ⟨by rw [cellsIE_append]; exact hO', fun f hf => ?_⟩ hF hF2 hnew
  rcases List.mem_append.1 hf with h5 | h5
  · exact key (fun _ _ h => h) (hO.2 f h5)
  · simp at h5; subst h5; exact key hS hp
/-- A copy of a list of factors. -/
theorem oCopyI {d : Nat} {s x : Operand} {t el : TypeId} {zv : Value} {bytes m c2 g : Nat} {A2 : Option Addr} {l : List IE} {S : Nat → Prop} (ht : P.underlying t = some (.slice el))
    (hi : (P.info? el).map (fun i => (i.zero, i.size, i.bytes)) = some (some zv, 2, bytes)) (hzv : zv.cells.size = 2) (hs : ev n e s = .slice (some ⟨g, 0, none⟩) 0 0) (hx : ev n e x = .slice A2 m c2) (hb : Blk w g el []) (h2 : IFacsR w S A2 m c2 l) (hS : ∀ b, b < w.heap.size → S b → b ≠ g)
    (hm : m * bytes ≤ 140737488355328) (hm2 : m ≤ 9223372036854775807)
    (kk : ∀ A3 c3 w', OwnI w' g el A3 m c3 l → Frm (fun b => b = g) w w' → (∀ a, A3 = some a → a.block = g ∨ w.heap.size ≤ a.block) → K (mkA dfs n (upd e d (.slice A3 m c3))) w') :
    OpW P ⟨some d, .call { callee := .builtin .append, args := #[s, x], argTypes := #[t, t] }, ty, pos, af, gd⟩ (mkA dfs n e) w K Q := by
  have hO : Own w g el 2 (some ⟨g, 0, none⟩) 0 0 [] := ⟨rfl, .inr ⟨g, 0, #[], rfl, Nat.le_refl _, hb, Nat.le_refl _, Nat.zero_le _, rfl, rfl⟩⟩
  obtain ⟨i, hi', hz', hsz, hby⟩ := info_parts hi
  have hlt := hb.lt
  cases A2 with
  | none =>
    have hl0 : m = 0 := by
      rcases Nat.eq_zero_or_pos m with h | h
      · exact h
      · obtain ⟨b, o, e, _⟩ := h2.1.2.2.2 h; cases e
    subst hl0
    have : l = [] := List.eq_nil_of_length_eq_zero h2.len
    subst this
    have hr := run_append_nothing (P := P) (w := w) (ty := ty) ht hi' hO c2
    unfold OpW Oper.wp
    rw [eval_mkA]
    simp only [execOp, resolve, invoke, builtin, Sem.run_bind, Sem.run_pure, Result.andThen_ok, List.map_toArray, List.map_cons, List.map_nil, hs, hx, hr, Oper.upon, put_mkA]
    exact kk _ 0 w ⟨hO, fun f hf => by cases hf⟩ (Frm.refl _ _) fun a ha => by cases ha; exact .inl rfl
  | some a =>
    have hnews : ∀ (j : Nat) u, (cellsIE l)[j]? = some u → w.cell? (a.add j) = some u := by
      intro j u hj
      have hl0 : 0 < m := by
        rcases Nat.eq_zero_or_pos m with h | h
        · have := h2.len; rw [h] at this; rw [List.eq_nil_of_length_eq_zero this] at hj; cases hj
        · exact h
      obtain ⟨b, o, ea, _, _, hc⟩ := h2.1.2.2.2 hl0
      injection ea with ea
      subst ea
      rw [addr_add]
      exact hc j u hj
    have hF' := h2
    obtain ⟨v', w', hrun, k2, k3, _⟩ := run_append_own (P := P) w g t ty el i zv 2 bytes ht hi' hz' hsz hby hzv (by decide) _ 0 [] hO a m c2 (cellsIE l) (by rw [cellsIE_len, h2.len]) hnews (cellsIE_one l) (by simp [maxLen]; omega) (by simpa using hm) (by omega)
    have hF : Frm (fun b => b = g) w w' := ⟨k3.os, k3.tape, k3.output, k3.size, fun j hj hg => k3.block j hj fun h => hg (by injection h)⟩
    obtain ⟨A3, c3, rfl⟩ : ∃ A3 c3, v' = .slice A3 m c3 := by
      rcases k2.2 with ⟨hv, h0⟩ | ⟨g', cap, cur, hv, _⟩
      · exact ⟨none, 0, by rw [hv]; simp at h0; rw [h0]⟩
      · rw [Nat.zero_add] at hv; exact ⟨_, _, hv⟩
    rw [Nat.zero_add, List.nil_append] at k2
    have hnew : ∀ a, A3 = some a → a.block = g ∨ w.heap.size ≤ a.block := by
      intro a3 ha3
      subst ha3
      by_cases hroom : m ≤ 0
      · obtain rfl : m = 0 := by omega
        have := List.eq_nil_of_length_eq_zero h2.len
        subst this
        have hr := run_append_nothing (P := P) (w := w) (ty := ty) ht hi' hO c2
        have hlen0 : (cellsIE []).length = 0 := rfl
        have h5 := run_append_room (P := P) w t ty el i ht hi' g 0 0 #[] hb a 0 c2 [] (by simp) (fun j u hj => by cases hj) (fun u hu => by cases hu) (Nat.le_refl _) (by simp)
        rw [h5] at hrun
        injection hrun with e4
        injection e4 with e5
        injection e5 with e6
        left; rw [← e6]
      · have h5 := run_append_grow (P := P) w t ty el i zv ht hi' hz' ⟨g, 0, none⟩ 0 0 [] (by simp) (fun j u hj => by cases hj) a m c2 (cellsIE l) (by rw [cellsIE_len, h2.len, hsz]) hnews (by omega) (by simp [maxLen]; omega) (growslice_fits (by omega) (by rw [hby]; simpa using hm))
        rw [h5] at hrun
        injection hrun with e4
        injection e4 with e5
        injection e5 with e6
        right; rw [← e6]; exact Nat.le_refl _
    unfold OpW Oper.wp
    rw [eval_mkA]
    simp only [execOp, resolve, invoke, builtin, Sem.run_bind, Sem.run_pure, Result.andThen_ok, List.map_toArray, List.map_cons, List.map_nil, hs, hx, hrun, Oper.upon, put_mkA]
    refine kk A3 c3 w' ⟨k2, fun f hf => ?_⟩ hF hnew
    refine (((h2.2 f hf).sub (S' := fun b => b ≠ g ∧ b < w.heap.size) fun b hb hs => ⟨hS b hb hs, hb⟩).frmB hF fun b _ hs he => hs.1 he).sub fun b _ hs a ha => ?_
    rcases hnew a ha with h6 | h6
    · rw [h6]; exact fun e => hs.1 e.symm
    · have := hs.2; omega
end
end Go.Gx

/-
  Products of known small polynomials: what the reference of chapter 11 computes. Plain numbers; no program in sight.
-/
namespace Go.Gx
/-! ### products -/
/-- The product so far: i rows and k cells of the next. -/
def mulI (f g : List Int) (i k j : Nat) : Int := co (pmul (f.take i) g) j + (if i ≤ j ∧ j - i < k then co f i * co g (j - i) else 0)
theorem mulI_start (f g : List Int) (j : Nat) : mulI f g 0 0 j = 0 := by
  unfold mulI
  rw [if_neg (by omega), co_pmul, List.take_zero, show conv [] g j = 0 from rsum_zero fun i _ => by simp]
  rfl
theorem mulI_row {f g : List Int} {i : Nat} (j : Nat) : mulI f g i g.length j = mulI f g (i + 1) 0 j := by
  unfold mulI
  rw [if_neg (c := i + 1 ≤ j ∧ j - (i + 1) < 0) (by omega), co_pmul, co_pmul, Int.add_zero]
  have h1 : conv (f.take (i + 1)) g j = rsum (fun a => co (f.take i) a * co g (j - a) + (if a = i then co f i * co g (j - i) else 0)) (j + 1) := by
    refine rsum_congr fun a ha => ?_
    show co (f.take (i + 1)) a * co g (j - a) = co (f.take i) a * co g (j - a) + _
    rw [co_takeZ, co_takeZ]
    by_cases h : a = i
    · subst h; rw [if_pos (by omega), if_neg (by omega), if_pos rfl]; omega
    · rw [if_neg h]
      by_cases h2 : a < i
      · rw [if_pos (by omega), if_pos h2]; omega
      · rw [if_neg (by omega), if_neg h2]; omega
  rw [h1, rsum_add]
  congr 1
  by_cases hij : i ≤ j
  · rw [rsum_single (j := i) (by omega) fun a _ hne => if_neg hne, if_pos rfl]
    split
    · rfl
    · rename_i h
      rw [co_ge (f := g) (i := j - i) (by omega), Int.mul_zero]
  · rw [if_neg (by omega), rsum_zero fun a ha => if_neg (by omega)]
theorem mulI_cell {f g o : List Int} {i k : Nat} {v : Int} (h : ∀ j, co o j = mulI f g i k j) (hk : i + k < o.length) (hv : v = co o (i + k) + co f i * co g k) : ∀ j, co (o.set (i + k) v) j = mulI f g i (k + 1) j := fun j => by
  rw [co_setZ hk, hv, h, h]
  unfold mulI
  by_cases hj : j = i + k
  · subst hj
    rw [if_pos rfl, if_neg (by omega), if_pos (by omega), show i + k - i = k by omega]; omega
  · rw [if_neg hj]
    by_cases h1 : i ≤ j ∧ j - i < k
    · rw [if_pos h1, if_pos (by omega)]
    · rw [if_neg h1, if_neg (by omega)]
theorem mulI_next {f g o : List Int} {i : Nat} (h : ∀ j, co o j = mulI f g i g.length j) : ∀ j, co o j = mulI f g (i + 1) 0 j := fun j => by rw [h, mulI_row]
theorem mulI_zero {f g : List Int} (m j : Nat) : co (List.replicate m 0) j = mulI f g 0 0 j := by
  rw [mulI_start]
  simp only [co, List.getD]
  rw [List.getElem?_replicate]
  split <;> rfl
theorem mulI_end {f g o : List Int} {i : Nat} (h : ∀ j, co o j = mulI f g i 0 j) (hi : f.length ≤ i) : trimZ o = trimZ (pmul f g) := by
  apply P_inj
  refine P_congr fun j => ?_
  rw [h]
  unfold mulI
  rw [if_neg (by omega), List.take_of_length_le hi]; omega
theorem nrm_app (a b : List Int) : nrm (a ++ b) = nrm a + nrm b := by
  induction a with
  | nil => simp [nrm]
  | cons x a ih => rw [List.cons_append, nrm_cons, nrm_cons, ih]; omega
theorem nrm_take (f : List Int) (i : Nat) : nrm (f.take i) + (co f i).natAbs ≤ nrm f := by
  rcases Nat.lt_or_ge i f.length with h | h
  · have e : f = f.take i ++ (co f i :: f.drop (i + 1)) := by
      have h1 : f.drop i = co f i :: f.drop (i + 1) := by rw [List.drop_eq_getElem_cons h]; simp [co, List.getD, h]
      rw [← h1, List.take_append_drop]
    have h2 := congrArg nrm e
    rw [nrm_app, nrm_cons] at h2
    omega
  · rw [co_ge h, List.take_of_length_le h]; simp
theorem mulI_bd {f g : List Int} {N : Nat} (h : nrm f * nrm g ≤ N) (i k j : Nat) : (mulI f g i k j).natAbs ≤ N := by
  have h1 : (co (pmul (f.take i) g) j).natAbs ≤ nrm (f.take i) * nrm g := Nat.le_trans (nrm_co _ _) (nrm_pmul _ _)
  have h2 : ((if i ≤ j ∧ j - i < k then co f i * co g (j - i) else 0 : Int)).natAbs ≤ (co f i).natAbs * nrm g := by
    split
    · rw [Int.natAbs_mul]; exact Nat.mul_le_mul_left _ (nrm_co _ _)
    · simp
  have h3 : (nrm (f.take i) + (co f i).natAbs) * nrm g ≤ nrm f * nrm g := Nat.mul_le_mul_right _ (nrm_take f i)
  rw [Nat.add_mul] at h3
  unfold mulI
  have := Int.natAbs_add_le (co (pmul (f.take i) g) j) (if i ≤ j ∧ j - i < k then co f i * co g (j - i) else 0)
  omega
theorem mul_bd {f g : List Int} {N : Nat} (h : nrm f * nrm g ≤ N) (i k : Nat) : (co f i * co g k).natAbs ≤ N := by
  rw [Int.natAbs_mul]
  exact Nat.le_trans (Nat.mul_le_mul (nrm_co f i) (nrm_co g k)) h
theorem mulI_rng {f g o : List Int} {i k : Nat} (h : ∀ j, co o j = mulI f g i k j) (hN : nrm f * nrm g ≤ 4611686018427387904) : ∀ x ∈ o, -9223372036854775808 ≤ x ∧ x ≤ 9223372036854775807 := fun x hx => by
  obtain ⟨j, hj, rfl⟩ := List.getElem_of_mem hx
  have h1 := h j
  simp only [co, List.getD, List.getElem?_eq_getElem hj, Option.getD_some] at h1
  have := mulI_bd hN i k j
  rw [h1]
  omega
/-! ### contents -/
theorem contP_snoc (a : Int) : ∀ l : List Int, contP (l ++ [a]) = Nat.gcd (contP l) a.natAbs
  | [] => by simp [contP]
  | b :: l => by
    rw [List.cons_append, contP_cons, contP_cons, contP_snoc a l, Nat.gcd_assoc, Nat.gcd_comm a.natAbs, ← Nat.gcd_assoc]
theorem contP_next {F : List Int} {i : Nat} (hi : i < F.length) : contP (F.take (i + 1)) = Nat.gcd (contP (F.take i)) (co F i).natAbs := by
  rw [List.take_add_one, List.getElem?_eq_getElem hi]
  show contP (F.take i ++ [F[i]]) = _
  rw [contP_snoc]
  simp [co, List.getD, hi]
theorem contP_le_nrm (F : List Int) : ∀ i, contP F ≤ (co F i).natAbs ∨ co F i = 0 := fun i => by
  by_cases h : co F i = 0
  · exact .inr h
  · exact .inl (Nat.le_of_dvd (by omega) (Int.ofNat_dvd_left.1 (dvd_cont F i)))
theorem contP_le {F : List Int} {N : Nat} (h : ∀ x ∈ F, x.natAbs ≤ N) : contP F ≤ N := by
  induction F with
  | nil => simp [contP]
  | cons a F ih =>
    rw [contP_cons]
    by_cases h0 : a = 0
    · subst h0; simp; exact ih fun x hx => h x (by simp [hx])
    · exact Nat.le_trans (Nat.gcd_le_right _ (by omega)) (h a (by simp))
/-- The last coefficient decides the sign. -/
theorem ld_last {F : List Int} (h : trimZ F ≠ []) : ldP F = co (trimZ F) ((trimZ F).length - 1) := by
  have : (trimZ F).length ≠ 0 := fun e => h (List.eq_nil_of_length_eq_zero e)
  unfold ldP
  rw [show (((trimZ F).length : Int) - 1) = (((trimZ F).length - 1 : Nat) : Int) by omega, coI_nat]
theorem map_next {F : List Int} {c v : Int} {i n : Nat} (hi : i < F.length) (hn : n = F.length) (hv : v = (co F i).tdiv c) : ((F.take i).map (fun x : Int => x.tdiv c) ++ List.replicate (n - i) 0).set i v = (F.take (i + 1)).map (fun x : Int => x.tdiv c) ++ List.replicate (n - (i + 1)) 0 := by
  subst hn hv
  have hl : ((F.take i).map (fun x : Int => x.tdiv c)).length = i := by simp; omega
  rw [show F.length - i = (F.length - (i + 1)) + 1 by omega, List.replicate_succ, List.set_append_right _ _ (by omega), hl, Nat.sub_self, List.set_cons_zero]
  have e : F.take (i + 1) = F.take i ++ [F[i]] := by rw [List.take_add_one, List.getElem?_eq_getElem hi]; rfl
  rw [e, List.map_append, List.append_assoc]
  congr 1
  simp [co, List.getD, hi]
/-! ### square roots -/
theorem root_small {n s : Int} (hs : 0 ≤ s) (h : s * s < n) (hn : n ≤ 1000) : s ≤ 31 := by
  apply Classical.byContradiction
  intro hx
  have : 32 * 32 ≤ s * s := Int.mul_le_mul (by omega) (by omega) (by omega) hs
  omega
theorem root_done {n s : Int} (hs : 0 ≤ s) (hlow : s = 0 ∨ (s - 1) * (s - 1) < n) (h : ¬ s * s < n) : (0 ≤ n ∧ s * s = n) ↔ ∃ t : Int, t * t = n := by
  constructor
  · rintro ⟨_, h⟩; exact ⟨s, h⟩
  · rintro ⟨t, rfl⟩
    have h0 : 0 ≤ t * t := by
      rcases Int.le_total 0 t with h | h
      · exact Int.mul_nonneg h h
      · exact Int.mul_nonneg_of_nonpos_of_nonpos h h
    refine ⟨h0, ?_⟩
    have ha : t * t = (t.natAbs : Int) * t.natAbs := by rw [← Int.natAbs_mul_self' t]
    generalize hm : (t.natAbs : Int) = m at ha
    have hm0 : 0 ≤ m := by omega
    rw [ha] at h hlow ⊢
    have h1 : m ≤ s := by
      apply Classical.byContradiction
      intro hx
      have h2 : s * s ≤ s * m := Int.mul_le_mul_of_nonneg_left (by omega) hs
      have h3 : (s + 1) * m ≤ m * m := Int.mul_le_mul_of_nonneg_right (by omega) hm0
      rw [Int.add_mul] at h3
      omega
    rcases hlow with h2 | h2
    · have : m = 0 := by omega
      subst h2 this; rfl
    · have h3 : s ≤ m := by
        apply Classical.byContradiction
        intro hx
        have a1 : m * m ≤ (s - 1) * m := Int.mul_le_mul_of_nonneg_right (by omega) hm0
        have a2 : (s - 1) * m ≤ (s - 1) * (s - 1) := Int.mul_le_mul_of_nonneg_left (by omega) (by omega)
        omega
      rw [show m = s by omega]
theorem rat_sq {y : Rat} {D : Int} (h : y * y = (D : Rat)) : ∃ t : Int, t * t = D := by
  have h1 := den_mul y
  have h2 : ((y.num * y.num : Int) : Rat) = ((D * ((y.den : Int) * (y.den : Int)) : Int) : Rat) := by
    rw [Rat.intCast_mul, Rat.intCast_mul, Rat.intCast_mul, ← h1, ← h]; grind
  have h3 := Rat.intCast_inj.1 h2
  have h4 : y.den ∣ y.num.natAbs * y.num.natAbs := by
    rw [← Int.natAbs_mul, h3, Int.natAbs_mul, Int.natAbs_mul]
    exact ⟨D.natAbs * y.den, by rw [Int.natAbs_natCast, ← Nat.mul_assoc, Nat.mul_comm]⟩
  have h5 := y.reduced
  have h6 : y.den ∣ y.num.natAbs := Nat.Coprime.dvd_of_dvd_mul_left h5.symm h4
  have h7 : y.den = 1 := Nat.Coprime.eq_one_of_dvd h5.symm h6
  rw [h7] at h3
  exact ⟨y.num, by omega⟩
/-! ### irreducible ones -/
theorem irr_lin {f : QP} (h : dg f = 2) : Irr f := ⟨by omega, fun a b e => by
  have ha : a ≠ 0 := fun e' => by rw [e, e', zero_qmul, dg_zero.2 rfl] at h; omega
  have hb : b ≠ 0 := fun e' => by rw [e, e', qmul_zero, dg_zero.2 rfl] at h; omega
  have := dg_mul ha hb
  rw [← e] at this
  have := dg_pos.1 ha
  have := dg_pos.1 hb
  omega⟩
theorem lin_root {a : QP} (h : dg a = 2) : ∃ r, a.v r = 0 := by
  obtain ⟨c, l, hc, e, hd⟩ := dg_rep a
  rw [h] at hd
  obtain ⟨b0, b1, hb⟩ : ∃ b0 b1, trimZ l = [b0, b1] := by
    match trimZ l, hd with
    | [b0, b1], _ => exact ⟨b0, b1, rfl⟩
  have h1 : b1 ≠ 0 := by
    have := canon_last (f := trimZ l) (canon_trim isZI l) (by omega)
    rw [hb] at this
    exact this
  have h2 := cast_ne h1
  have hc' := cast_ne hc
  refine ⟨-(b0 : Rat) / (b1 : Rat), ?_⟩
  have h3 := qat e (-(b0 : Rat) / (b1 : Rat))
  rw [v_mul, v_K, v_P, ← evQ_trim, hb] at h3
  simp only [evQ] at h3
  have h4 : (b0 : Rat) + -(b0 : Rat) / (b1 : Rat) * ((b1 : Rat) + -(b0 : Rat) / (b1 : Rat) * 0) = 0 := by grind
  rw [h4] at h3
  exact (Rat.mul_eq_zero.1 h3).resolve_left hc'
theorem irr_quad {c0 c1 c2 : Int} (h2 : c2 ≠ 0) (hs : ¬ ∃ t : Int, t * t = c1 * c1 - 4 * c2 * c0) : Irr (P [c0, c1, c2]) := by
  have hd : dg (P [c0, c1, c2]) = 3 := by
    rw [dg_P]
    have : trimZ [c0, c1, c2] = [c0, c1, c2] := trimB_snoc_no isZI [c0, c1] c2 (by simp [isZI, h2])
    rw [this]; rfl
  refine ⟨by omega, fun a b e => ?_⟩
  have hne : P [c0, c1, c2] ≠ 0 := dg_pos.2 (by omega)
  have ha : a ≠ 0 := fun e' => hne (by rw [e, e', zero_qmul])
  have hb : b ≠ 0 := fun e' => hne (by rw [e, e', qmul_zero])
  have h3 := dg_mul ha hb
  rw [← e, hd] at h3
  have h4 := dg_pos.1 ha
  have h5 := dg_pos.1 hb
  apply Classical.byContradiction
  intro hn
  obtain ⟨r, hr⟩ := lin_root (a := a) (by omega)
  have h6 := qat e r
  rw [v_mul, hr, v_P] at h6
  simp only [evQ] at h6
  refine hs (rat_sq (y := 2 * (c2 : Rat) * r + (c1 : Rat)) ?_)
  rw [Rat.intCast_sub, Rat.intCast_mul, Rat.intCast_mul, Rat.intCast_mul]
  have e4 : ((4 : Int) : Rat) = 4 := rfl
  rw [e4]
  grind
/-- Irreducible, normal, small. -/
structure IrrN (p : List Int) : Prop where
  n : Nrm p
  i : Irr (P p)
  d : 2 ≤ p.length
  l : p.length ≤ 3
  b : nrm p ≤ 48
def prodL : List (List Int) → QP
  | [] => 1
  | p :: ps => P p * prodL ps
/-- What Split returns. -/
def SplitR (F : List Int) (u : Int) (ps : List (List Int)) : Prop := (∀ p ∈ ps, IrrN p) ∧ P F = K u * prodL ps ∧ u.natAbs ≤ 9 ∧ ps.length ≤ 2
theorem prim_nrm_le {F : List Int} {N : Nat} (h : nrm F ≤ N) : nrm (primP F) ≤ N := Nat.le_trans (nrm_prim_le F) h
theorem primC_bd {F : List Int} {N : Nat} (h : ∀ x ∈ F, x.natAbs ≤ N) : (primC F).natAbs ≤ N := by rw [primC_abs]; exact contP_le h
theorem split_const {F : List Int} (h : ∀ x ∈ F, x.natAbs ≤ 9) (hl : (primP F).length < 2) : SplitR F (primC F) [] := by
  refine ⟨by simp, ?_, primC_bd h, by simp⟩
  show P F = K (primC F) * 1
  rw [qmul_one]
  by_cases h0 : P F = 0
  · have hz := (ld_zero_iff F).2 h0
    have : contP F = 0 := by rw [← contP_trim, ld_zero hz]; rfl
    have h2 := primC_abs F
    rw [h0, show primC F = 0 by omega]; rfl
  · have hn := nrm_prim h0
    have hd : dg (P (primP F)) = 1 := by
      have := dg_pos.1 hn.ne
      rw [dg_P, hn.t] at this ⊢
      omega
    have h1 : primP F = [1] := by
      rw [dg_P, hn.t] at hd
      match hp : primP F, hd with
      | [a], _ =>
        have hc := hn.c
        have hs := hn.s
        rw [hp] at hc hs
        have e1 : contP [a] = a.natAbs := by simp [contP]
        have e2 := ld_congr (F := [a]) (G := [a]) rfl
        have : ldP [a] = a := by
          by_cases ha : a = 0
          · subst ha; rfl
          · have ht : trimZ [a] = [a] := trimB_snoc_no isZI [] a (by simp [isZI, ha])
            rw [ld_last (by rw [ht]; simp), ht]; rfl
        rw [this] at hs
        rw [e1] at hc
        rw [show a = 1 by omega]
    have h2 := P_prim F
    rw [h1] at h2
    rw [h2]
    exact QP.eq fun x => by simp only [v_mul, v_K, v_P, evQ, one_cast]; grind
theorem split_one {F : List Int} (h : ∀ x ∈ F, x.natAbs ≤ 9) (hF : F.length ≤ 3) (h2 : 2 ≤ (primP F).length) (hi : Irr (P (primP F))) : SplitR F (primC F) [primP F] := by
  have hne : P F ≠ 0 := fun e => by
    have := P_len e
    rw [prim_len] at h2; omega
  refine ⟨fun p hp => ?_, ?_, primC_bd h, by simp⟩
  · simp at hp
    subst hp
    refine ⟨nrm_prim hne, hi, h2, by rw [prim_len]; exact Nat.le_trans (trimZ_len F) hF, prim_nrm_le ?_⟩
    have : ∀ (l : List Int), (∀ x ∈ l, x.natAbs ≤ 9) → nrm l ≤ 9 * l.length := fun l => by
      induction l with
      | nil => intro _; simp [nrm]
      | cons a l ih => intro hl; rw [nrm_cons, List.length_cons]; have := hl a (by simp); have := ih fun x hx => hl x (by simp [hx]); omega
    have := this F h
    omega
  · show P F = K (primC F) * (P (primP F) * 1)
    rw [qmul_one]; exact P_prim F
theorem split_lin {F : List Int} (h : ∀ x ∈ F, x.natAbs ≤ 9) (hF : F.length ≤ 3) (h2 : (primP F).length = 2) : SplitR F (primC F) [primP F] :=
  split_one h hF (by omega) (irr_lin (by rw [dg_P, prim_trim, h2]))
theorem three {g : List Int} (h : g.length = 3) : g = [co g 0, co g 1, co g 2] := by
  match g, h with
  | [a, b, c], _ => rfl
theorem prim_top {F : List Int} (h3 : (primP F).length = 3) : co (primP F) 2 ≠ 0 := by
  have := canon_last (f := primP F) (prim_trim F) (by omega)
  rw [h3] at this
  exact this
theorem split_irr {F : List Int} (h : ∀ x ∈ F, x.natAbs ≤ 9) (hF : F.length ≤ 3) (h3 : (primP F).length = 3) (hs : ¬ ∃ t : Int, t * t = co (primP F) 1 * co (primP F) 1 - 4 * co (primP F) 2 * co (primP F) 0) : SplitR F (primC F) [primP F] :=
  split_one h hF (by omega) (by
    have := irr_quad (prim_top h3) hs
    rw [← three h3] at this
    exact this)
theorem co_prim_le {F : List Int} (h : ∀ x ∈ F, x.natAbs ≤ 9) (i : Nat) : (co (primP F) i).natAbs ≤ 9 := by
  have h1 : (co F i).natAbs ≤ 9 := by
    simp only [co, List.getD]
    cases he : F[i]? with
    | none => simp
    | some x => exact h x (List.mem_of_getElem? he)
  unfold primP
  rw [co_tdiv, co_trim, Int.natAbs_tdiv]
  exact Nat.le_trans (Nat.div_le_self _ _) h1
theorem two_len {a b : Int} (hb : b ≠ 0) : (trimZ [a, b]).length = 2 := by
  have : trimZ [a, b] = [a, b] := trimB_snoc_no isZI [a] b (by simp [isZI, hb])
  rw [this]; rfl
theorem irrN_lin {a b : Int} (hb : b ≠ 0) (h : a.natAbs + b.natAbs ≤ 48) : IrrN (primP [a, b]) := by
  have hl := two_len (a := a) hb
  have hne : P [a, b] ≠ 0 := dg_pos.2 (by rw [dg_P, hl]; omega)
  exact ⟨nrm_prim hne, irr_lin (by rw [dg_P, prim_trim, prim_len, hl]), by rw [prim_len, hl]; omega, by rw [prim_len, hl]; omega, prim_nrm_le (by show _ + (_ + 0) ≤ 48; omega)⟩
theorem split_two {F : List Int} {s : Int} (h : ∀ x ∈ F, x.natAbs ≤ 9) (h3 : (primP F).length = 3) (hs : s * s = co (primP F) 1 * co (primP F) 1 - 4 * co (primP F) 2 * co (primP F) 0) (hb : 0 ≤ s ∧ s ≤ 21) :
    SplitR F (primC F) [primP [co (primP F) 1 - s, 2 * co (primP F) 2], primP [co (primP F) 1 + s, 2 * co (primP F) 2]] := by
  have hne : P F ≠ 0 := fun e => by
    have := P_len e
    rw [prim_len] at h3; omega
  have b1 := co_prim_le h 1
  have b2 := co_prim_le h 2
  have ht := prim_top h3
  have hg := nrm_prim hne
  have e3 := three h3
  have hPF := P_prim F
  generalize primP F = g at *
  generalize co g 1 = c1 at *
  generalize co g 2 = c2 at *
  generalize co g 0 = c0 at *
  have iA : IrrN (primP [c1 - s, 2 * c2]) := irrN_lin (by omega) (by omega)
  have iB : IrrN (primP [c1 + s, 2 * c2]) := irrN_lin (by omega) (by omega)
  refine ⟨fun p hp => by simp at hp; rcases hp with rfl | rfl <;> assumption, ?_, primC_bd h, by simp⟩
  show P F = K (primC F) * (P (primP [c1 - s, 2 * c2]) * (P (primP [c1 + s, 2 * c2]) * 1))
  rw [qmul_one]
  have pA := P_prim [c1 - s, 2 * c2]
  have pB := P_prim [c1 + s, 2 * c2]
  have kA := cast_ne (primC_ne (F := [c1 - s, 2 * c2]) ((ld_ne_iff _).2 (dg_pos.2 (by rw [dg_P, two_len (by omega)]; omega))))
  have kB := cast_ne (primC_ne (F := [c1 + s, 2 * c2]) ((ld_ne_iff _).2 (dg_pos.2 (by rw [dg_P, two_len (by omega)]; omega))))
  generalize primP [c1 - s, 2 * c2] = A at *
  generalize primP [c1 + s, 2 * c2] = B at *
  generalize primC [c1 - s, 2 * c2] = a at *
  generalize primC [c1 + s, 2 * c2] = b at *
  have key : K ((4 * c2 : Int) : Rat) * P g = K ((a : Rat) * (b : Rat)) * P (trimZ (pmul A B)) := by
    rw [P_trim, P_mul, e3]
    refine QP.eq fun x => ?_
    have hA := qat pA x
    have hB := qat pB x
    simp only [v_mul, v_K, v_P, evQ] at hA hB ⊢
    have hs' : (s : Rat) * (s : Rat) = (c1 : Rat) * (c1 : Rat) - 4 * (c2 : Rat) * (c0 : Rat) := by
      have := congrArg (fun z : Int => (z : Rat)) hs
      simp only [Rat.intCast_mul, Rat.intCast_sub] at this
      have e4 : ((4 : Int) : Rat) = 4 := rfl
      rw [e4] at this
      exact this
    simp only [Rat.intCast_sub, Rat.intCast_add, Rat.intCast_mul] at hA hB ⊢
    have e4 : ((4 : Int) : Rat) = 4 := rfl
    have e2 : ((2 : Int) : Rat) = 2 := rfl
    rw [e2] at hA hB
    rw [e4]
    grind
  have k4 : ((4 * c2 : Int) : Rat) ≠ 0 := cast_ne (by omega)
  have kab : (a : Rat) * (b : Rat) ≠ 0 := fun e => (Rat.mul_eq_zero.1 e).elim kA kB
  have hm := iA.n.mul iB.n
  have : g = trimZ (pmul A B) := by
    refine hg.eq hm ?_ ?_
    · refine (dvd_K kab).1 ⟨K ((4 * c2 : Int) : Rat), key.symm⟩
    · refine (dvd_K k4).1 ⟨K ((a : Rat) * (b : Rat)), key⟩
  rw [← P_mul, ← P_trim (pmul A B), ← this]
  exact hPF
end Go.Gx

/-
  Factors of the reference, their products and decomposition. Plain numbers; no program in sight.
-/
namespace Go.Gx
/-- One factor more. -/
def withM : List (List Int × Int) → List Int → List (List Int × Int)
  | [], p => [(p, 1)]
  | (q, k) :: l, p => if trimZ q = trimZ p then (q, k + 1) :: l else (q, k) :: withM l p
theorem withM_none : ∀ (l : List (List Int × Int)) (p : List Int), (∀ e ∈ l, trimZ e.1 ≠ trimZ p) → withM l p = l ++ [(p, 1)]
  | [], p, _ => rfl
  | (q, k) :: l, p, h => by
    rw [withM, if_neg (h (q, k) (by simp)), withM_none l p fun e he => h e (by simp [he])]; rfl
theorem withM_at : ∀ (l : List (List Int × Int)) (p : List Int) (i : Nat) (q : List Int) (k : Int), l[i]? = some (q, k) → (∀ j e, j < i → l[j]? = some e → trimZ e.1 ≠ trimZ p) → trimZ q = trimZ p → withM l p = l.set i (q, k + 1)
  | [], p, i, q, k, h, _, _ => by simp at h
  | (q0, k0) :: l, p, 0, q, k, h, _, hq => by
    simp at h
    obtain ⟨rfl, rfl⟩ := h
    rw [withM, if_pos hq]; rfl
  | (q0, k0) :: l, p, i + 1, q, k, h, hn, hq => by
    rw [withM, if_neg (hn 0 _ (by omega) rfl), withM_at l p i q k (by simpa using h) (fun j e hj he => hn (j + 1) e (by omega) (by simpa using he)) hq]; rfl
noncomputable def prodM : List (List Int × Int) → QP
  | [] => 1
  | (p, k) :: l => P p ^ k.toNat * prodM l
/-- Distinct irreducible ones, with positive powers. -/
structure FacOkM (N : Nat) (l : List (List Int × Int)) : Prop where
  i : ∀ e ∈ l, IrrN e.1
  k : ∀ e ∈ l, 1 ≤ e.2 ∧ e.2 ≤ N
  d : l.Pairwise fun a b => a.1 ≠ b.1
  n : l.length ≤ N
theorem FacOkM.nil : FacOkM 0 [] := ⟨by simp, by simp, List.Pairwise.nil, by simp⟩
theorem mem_withM : ∀ (l : List (List Int × Int)) (p : List Int) (e : List Int × Int), e ∈ withM l p → (e ∈ l) ∨ (∃ k, (e.1, k) ∈ l ∧ e.2 = k + 1) ∨ (e = (p, 1))
  | [], p, e, h => by simp [withM] at h; exact .inr (.inr h)
  | (q, k) :: l, p, e, h => by
    rw [withM] at h
    split at h
    · rcases List.mem_cons.1 h with h1 | h1
      · subst h1; exact .inr (.inl ⟨k, by simp, rfl⟩)
      · exact .inl (by simp [h1])
    · rcases List.mem_cons.1 h with h1 | h1
      · subst h1; exact .inl (by simp)
      · rcases mem_withM l p e h1 with h2 | ⟨k', h2, h3⟩ | h2
        · exact .inl (by simp [h2])
        · exact .inr (.inl ⟨k', by simp [h2], h3⟩)
        · exact .inr (.inr h2)
theorem withM_len : ∀ (l : List (List Int × Int)) (p : List Int), (withM l p).length ≤ l.length + 1
  | [], p => by simp [withM]
  | (q, k) :: l, p => by
    rw [withM]
    split
    · simp
    · have := withM_len l p; simp; omega
theorem withM_d : ∀ (l : List (List Int × Int)) (p : List Int), (∀ e ∈ l, IrrN e.1) → IrrN p → (l.Pairwise fun a b => a.1 ≠ b.1) → (withM l p).Pairwise fun a b => a.1 ≠ b.1
  | [], p, _, _, _ => by simp [withM]
  | (q, k) :: l, p, hi, hp, hd => by
    have ⟨h1, h2⟩ := List.pairwise_cons.1 hd
    rw [withM]
    split
    · exact List.pairwise_cons.2 ⟨fun e he => h1 e he, h2⟩
    · rename_i hne
      refine List.pairwise_cons.2 ⟨fun e he => ?_, withM_d l p (fun x hx => hi x (by simp [hx])) hp h2⟩
      rcases mem_withM l p e he with h3 | ⟨k', h3, _⟩ | h3
      · exact h1 e h3
      · exact h1 (e.1, k') h3
      · subst h3
        intro e
        have e' : q = p := e
        exact hne (by rw [e'])
theorem FacOkM.with {N : Nat} {l : List (List Int × Int)} {p : List Int} (h : FacOkM N l) (hp : IrrN p) : FacOkM (N + 1) (withM l p) := by
  refine ⟨fun e he => ?_, fun e he => ?_, withM_d l p h.i hp h.d, Nat.le_trans (withM_len l p) (by have := h.n; omega)⟩
  · rcases mem_withM l p e he with h3 | ⟨k', h3, _⟩ | h3
    · exact h.i e h3
    · exact h.i (e.1, k') h3
    · subst h3; exact hp
  · rcases mem_withM l p e he with h3 | ⟨k', h3, h4⟩ | h3
    · have := h.k e h3; omega
    · have := h.k _ h3
      dsimp only at this
      omega
    · subst h3; exact ⟨by show (1 : Int) ≤ 1; omega, by show (1 : Int) ≤ _; omega⟩
theorem prodM_with : ∀ (l : List (List Int × Int)) (p : List Int), (∀ e ∈ l, 1 ≤ e.2) → prodM (withM l p) = prodM l * P p
  | [], p, _ => by
    show P p ^ (1 : Int).toNat * 1 = 1 * P p
    rw [qmul_one, one_qmul]; exact qp_pow_one _
  | (q, k) :: l, p, h => by
    have hk : 1 ≤ k := h (q, k) (by simp)
    rw [withM]
    split
    · rename_i he
      show P q ^ (k + 1).toNat * prodM l = P q ^ k.toNat * prodM l * P p
      rw [show (k + 1).toNat = k.toNat + 1 by omega, qp_pow_succ, ← P_trim p, ← he, P_trim]
      exact QP.eq fun x => by simp only [v_mul]; grind
    · show P q ^ k.toNat * prodM (withM l p) = P q ^ k.toNat * prodM l * P p
      rw [prodM_with l p fun e he => h e (by simp [he]), qmul_assoc]
/-! ### multiplicities -/
theorem irr_assoc {π ρ : QP} (hπ : Irr π) (hρ : Irr ρ) (h : π ∣ ρ) : ρ ∣ π := by
  obtain ⟨q, e⟩ := h
  rcases hρ.2 q π e with h1 | h1
  · obtain ⟨r, hr, rfl⟩ := dg_one_ne h1
    rw [e]
    exact (K_dvd hr).2 (qdvd_refl _)
  · have := hπ.1; omega
theorem irr_va_one {π p : QP} (hπ : Irr π) (hp : Irr p) (h : π ∣ p) : va π p = 1 := by
  have h1 := (va_pos hπ hp.ne).1 h
  have h2 := va_dg hπ hp.ne
  have h3 := irr_assoc hπ hp h
  have h4 := dvd_le h3 hπ.ne
  have h5 := dvd_le h hp.ne
  apply Classical.byContradiction
  intro hx
  have h6 := (va_dvd hπ hp.ne 2).2 (by omega)
  have h7 := dvd_le h6 hp.ne
  have h8 : dg (π ^ 2) + 1 = dg (π ^ 1) + dg π := dg_pow_succ hπ.ne 1
  rw [qp_pow_one] at h8
  have := hπ.1
  omega
theorem irr_same {π : QP} {p q : List Int} (hπ : Irr π) (hp : IrrN p) (hq : IrrN q) (h1 : π ∣ P p) (h2 : π ∣ P q) : p = q :=
  hp.n.eq hq.n (qdvd_trans (irr_assoc hπ hp.i h1) h2) (qdvd_trans (irr_assoc hπ hq.i h2) h1)
theorem prodM_ne : ∀ l : List (List Int × Int), (∀ e ∈ l, IrrN e.1) → prodM l ≠ 0
  | [], _ => one_ne
  | (p, k) :: l, h => qp_mul_ne (qp_pow_ne (h (p, k) (by simp)).n.ne _) (prodM_ne l fun e he => h e (by simp [he]))
theorem va_prodM_none {π : QP} (hπ : Irr π) : ∀ l : List (List Int × Int), (∀ e ∈ l, IrrN e.1) → (∀ e ∈ l, ¬ π ∣ P e.1) → va π (prodM l) = 0
  | [], _, _ => va_K hπ (by decide)
  | (p, k) :: l, h, hn => by
    have hp := (h (p, k) (by simp)).n.ne
    have h2 : ¬ 1 ≤ va π (P p) := fun h' => hn (p, k) (by simp) ((va_pos hπ hp).2 h')
    show va π (P p ^ k.toNat * prodM l) = 0
    rw [va_mul hπ (qp_pow_ne hp _) (prodM_ne l fun e he => h e (by simp [he])), va_pow hπ hp, show va π (P p) = 0 by omega, va_prodM_none hπ l (fun e he => h e (by simp [he])) fun e he => hn e (by simp [he])]
    simp
theorem va_prodM {π : QP} (hπ : Irr π) : ∀ l : List (List Int × Int), (∀ e ∈ l, IrrN e.1) → (l.Pairwise fun a b => a.1 ≠ b.1) → ∀ p k, (p, k) ∈ l → π ∣ P p → va π (prodM l) = k.toNat
  | [], _, _, p, k, h, _ => by cases h
  | (q, j) :: l, hi, hd, p, k, h, hp => by
    have hq := (hi (q, j) (by simp))
    have ⟨h1, h2⟩ := List.pairwise_cons.1 hd
    have hi' : ∀ e ∈ l, IrrN e.1 := fun e he => hi e (by simp [he])
    show va π (P q ^ j.toNat * prodM l) = _
    rw [va_mul hπ (qp_pow_ne hq.n.ne _) (prodM_ne l hi'), va_pow hπ hq.n.ne]
    rcases List.mem_cons.1 h with h3 | h3
    · injection h3 with e1 e2
      subst e1 e2
      rw [irr_va_one hπ hq.i hp, va_prodM_none hπ l hi' fun e he hd => h1 e he (irr_same hπ hq (hi' e he) hp hd)]
      omega
    · have h4 : ¬ π ∣ P q := fun hd => h1 _ h3 (irr_same hπ hq (hi' _ h3) hd hp)
      have h5 : ¬ 1 ≤ va π (P q) := fun h' => h4 ((va_pos hπ hq.n.ne).2 h')
      rw [show va π (P q) = 0 by omega, va_prodM hπ l hi' h2 p k h3 hp]
      omega
theorem prodM_nrm : ∀ l : List (List Int × Int), (∀ e ∈ l, IrrN e.1) → ∃ b, Nrm b ∧ P b = prodM l
  | [], _ => ⟨[1], Nrm.one, QP.eq fun x => by simp only [prodM, v_P, v_1, evQ]; rw [one_cast]; grind⟩
  | (p, k) :: l, h => by
    obtain ⟨b, hb, e⟩ := prodM_nrm l fun e he => h e (by simp [he])
    obtain ⟨a, ha, e'⟩ := (h (p, k) (by simp)).n.pow k.toNat
    exact ⟨trimZ (pmul a b), ha.mul hb, by rw [P_trim, P_mul, e, e']; rfl⟩
/-! ### what Factors returns -/
def quadL (t : Int × Int × Int) : List Int := [t.1, t.2.1, t.2.2]
noncomputable def prodT (l : List (Int × Int × Int)) : QP := l.foldl (fun q t => q * P (quadL t)) 1
theorem prodT_next {l : List (Int × Int × Int)} {i : Nat} {t : Int × Int × Int} (h : l[i]? = some t) : prodT (l.take (i + 1)) = prodT (l.take i) * P (quadL t) := by
  unfold prodT
  rw [List.take_add_one, h]
  simp [List.foldl_append]
/-- The factors so far. -/
def FacSt (Q : QP) (u : Int) (N : Nat) (l : List (List Int × Int)) : Prop := Q = K u * prodM l ∧ FacOkM N l
theorem facSt_start : FacSt (prodT []) 1 0 [] := ⟨QP.eq fun x => by simp only [prodT, List.foldl, prodM, v_mul, v_K, v_1]; grind, FacOkM.nil⟩
/-- Within one polynomial: k of its parts are in. -/
def FacIn (Q : QP) (u : Int) (N : Nat) (l : List (List Int × Int)) (ps : List (List Int)) (k : Nat) : Prop := Q = K u * prodM l * prodL (ps.drop k) ∧ FacOkM (N + k) l ∧ (∀ p ∈ ps, IrrN p)
theorem FacSt.enter {Q : QP} {u v : Int} {N : Nat} {l : List (List Int × Int)} {F : List Int} {ps : List (List Int)} (h : FacSt Q u N l) (hs : SplitR F v ps) : FacIn (Q * P F) (u * v) N l ps 0 := by
  refine ⟨?_, h.2, hs.1⟩
  rw [h.1, hs.2.1, List.drop_zero, Rat.intCast_mul]
  exact QP.eq fun x => by simp only [v_mul, v_K]; grind
theorem FacIn.step {Q : QP} {u : Int} {N k : Nat} {l : List (List Int × Int)} {ps : List (List Int)} {p : List Int} (h : FacIn Q u N l ps k) (hp : ps[k]? = some p) : FacIn Q u N (withM l p) ps (k + 1) := by
  have hd : ps.drop k = p :: ps.drop (k + 1) := by
    rw [List.getElem?_eq_some_iff] at hp
    obtain ⟨hk, rfl⟩ := hp
    exact List.drop_eq_getElem_cons hk
  refine ⟨?_, h.2.1.with (h.2.2 p (List.mem_of_getElem? hp)), h.2.2⟩
  rw [h.1, hd, prodM_with _ _ fun e he => (h.2.1.k e he).1]
  show K u * prodM l * (P p * prodL (ps.drop (k + 1))) = _
  exact QP.eq fun x => by simp only [v_mul]; grind
theorem FacIn.leave {Q : QP} {u : Int} {N k M : Nat} {l : List (List Int × Int)} {ps : List (List Int)} (h : FacIn Q u N l ps k) (hk : ps.length ≤ k) (hM : N + k ≤ M) : FacSt Q u M l := by
  refine ⟨?_, h.2.1.i, fun e he => by have := h.2.1.k e he; omega, h.2.1.d, Nat.le_trans h.2.1.n hM⟩
  rw [h.1, List.drop_of_length_le hk]
  show K u * prodM l * 1 = _
  rw [qmul_one]
/-- What Factors returns for a product Q. -/
def FacR (Q : QP) (u : Int) (l : List (List Int × Int)) : Prop := (u = 0 ∧ Q = 0 ∧ l = []) ∨ (u ≠ 0 ∧ Q = K u * prodM l ∧ FacOkM 10 l)
theorem FacSt.zero {Q : QP} {u : Int} {N : Nat} {l : List (List Int × Int)} (h : FacSt Q u N l) (h0 : u = 0) : FacR Q 0 [] := .inl ⟨rfl, by rw [h.1, h0, zero_cast]; exact QP.eq fun x => by simp only [v_mul, v_K, v_0]; grind, rfl⟩
theorem FacSt.full {Q : QP} {u : Int} {N : Nat} {l : List (List Int × Int)} (h : FacSt Q u N l) (h0 : u ≠ 0) (hN : N ≤ 10) : FacR Q u l :=
  .inr ⟨h0, h.1, h.2.i, fun e he => by have := h.2.k e he; omega, h.2.d, Nat.le_trans h.2.n hN⟩
/-- The unit and the primitive part. -/
theorem facR_prim {F : List Int} {u : Int} {l : List (List Int × Int)} (h : P F = K u * prodM l) (hu : u ≠ 0) (hl : FacOkM 10 l) : P F ≠ 0 ∧ primC F = u ∧ P (primP F) = prodM l := by
  obtain ⟨b, hb, e⟩ := prodM_nrm l hl.i
  have hne : P F ≠ 0 := by rw [h]; exact qp_mul_ne (K_ne (cast_ne hu)) (prodM_ne l hl.i)
  have e1 : P F = P (scaleP b u) := by rw [h, P_scale, e]
  have h1 := cont_congr e1
  rw [contP_scale, hb.c, Nat.mul_one] at h1
  have h2 := ld_congr e1
  rw [ld_scale] at h2
  have h3 := hb.s
  have hc : primC F = u := by
    unfold primC
    rw [h1]
    by_cases hs : ldP F < 0
    · rw [if_pos hs]
      have : u < 0 := by
        apply Classical.byContradiction
        intro hx
        have := Int.mul_nonneg (show 0 ≤ u by omega) (show 0 ≤ ldP b by omega)
        omega
      omega
    · rw [if_neg hs]
      have : 0 < u := by
        apply Classical.byContradiction
        intro hx
        have h5 : u * ldP b < 0 := Int.mul_neg_of_neg_of_pos (by omega) h3
        omega
      omega
  refine ⟨hne, hc, ?_⟩
  have h4 := P_prim F
  rw [hc, h] at h4
  refine QP.eq fun x => ?_
  have h5 := qat h4 x
  simp only [v_mul, v_K] at h5
  have := cast_ne hu
  grind
/-! ### square-free parts -/
/-- The product of the first i. -/
def partM : List (List Int × Int) → List Int
  | [] => [1]
  | l => l.foldl (fun p e => trimZ (pmul p e.1)) [1]
def accM (l : List (List Int × Int)) : List Int := l.foldl (fun p e => trimZ (pmul p e.1)) [1]
theorem accM_next {l : List (List Int × Int)} {i : Nat} {e : List Int × Int} (h : l[i]? = some e) : accM (l.take (i + 1)) = trimZ (pmul (accM (l.take i)) e.1) := by
  unfold accM
  rw [List.take_add_one, h]
  simp [List.foldl_append]
theorem acc_spec : ∀ (l : List (List Int × Int)) (a : List Int), Nrm a → (∀ e ∈ l, IrrN e.1) → Nrm (l.foldl (fun p e => trimZ (pmul p e.1)) a) ∧ P (l.foldl (fun p e => trimZ (pmul p e.1)) a) = P a * prodM (l.map fun e => (e.1, 1))
  | [], a, ha, _ => ⟨ha, (qmul_one _).symm⟩
  | e :: l, a, ha, h => by
    have ⟨h1, h2⟩ := acc_spec l (trimZ (pmul a e.1)) (ha.mul (h e (by simp)).n) fun x hx => h x (by simp [hx])
    refine ⟨h1, ?_⟩
    show P (l.foldl _ (trimZ (pmul a e.1))) = P a * (P e.1 ^ (1 : Int).toNat * prodM _)
    rw [h2, P_trim, P_mul, show (1 : Int).toNat = 1 from rfl, qp_pow_one, qmul_assoc]
theorem accM_spec {l : List (List Int × Int)} (h : ∀ e ∈ l, IrrN e.1) : Nrm (accM l) ∧ P (accM l) = prodM (l.map fun e => (e.1, 1)) := by
  have ⟨h1, h2⟩ := acc_spec l [1] Nrm.one h
  refine ⟨h1, h2.trans ?_⟩
  have : P [1] = 1 := QP.eq fun x => by simp only [v_P, v_1, evQ]; rw [one_cast]; grind
  rw [this, one_qmul]
theorem va_accM {π : QP} (hπ : Irr π) {l : List (List Int × Int)} (h : ∀ e ∈ l, IrrN e.1) (hd : l.Pairwise fun a b => a.1 ≠ b.1) : ((∃ e ∈ l, π ∣ P e.1) → va π (P (accM l)) = 1) ∧ ((∀ e ∈ l, ¬ π ∣ P e.1) → va π (P (accM l)) = 0) := by
  have hm : ∀ e ∈ l.map (fun e => (e.1, (1 : Int))), IrrN e.1 := fun e he => by
    obtain ⟨x, hx, rfl⟩ := List.mem_map.1 he
    exact h x hx
  rw [(accM_spec h).2]
  refine ⟨fun ⟨e, he, hp⟩ => ?_, fun hn => va_prodM_none hπ _ hm fun e he => ?_⟩
  · exact va_prodM hπ _ hm (by rw [List.pairwise_map]; exact hd) e.1 1 (List.mem_map.2 ⟨e, he, rfl⟩) hp
  · obtain ⟨x, hx, rfl⟩ := List.mem_map.1 he
    exact hn x hx
theorem facR_va {π F : QP} {u : Int} {l : List (List Int × Int)} (hπ : Irr π) (h : F = K u * prodM l) (hu : u ≠ 0) (hl : FacOkM 10 l) : (∀ p k, (p, k) ∈ l → π ∣ P p → va π F = k.toNat) ∧ ((∀ e ∈ l, ¬ π ∣ P e.1) → va π F = 0) := by
  have e : va π F = va π (prodM l) := by rw [h]; exact va_Kmul hπ (cast_ne hu) (prodM_ne l hl.i)
  rw [e]
  exact ⟨fun p k hm hd => va_prodM hπ l hl.i hl.d p k hm hd, fun hn => va_prodM_none hπ l hl.i hn⟩
/-- The square-free part is the product of the factors. -/
theorem part_known {F R : List Int} {u : Int} {l : List (List Int × Int)} (h : P F = K u * prodM l) (hu : u ≠ 0) (hl : FacOkM 10 l) (hR : PartOf F R) : R = accM l := by
  refine hR.n.eq_va (accM_spec hl.i).1 fun π hπ => ?_
  have ⟨h1, h2⟩ := facR_va hπ h hu hl
  have ⟨h3, h4⟩ := va_accM hπ hl.i hl.d
  rw [hR.v π hπ]
  by_cases hx : ∃ e ∈ l, π ∣ P e.1
  · obtain ⟨e, he, hd⟩ := hx
    rw [h3 ⟨e, he, hd⟩, h1 e.1 e.2 he hd]
    have := hl.k e he
    omega
  · have hn : ∀ e ∈ l, ¬ π ∣ P e.1 := fun e he hd => hx ⟨e, he, hd⟩
    rw [h4 hn, h2 hn]; rfl
/-- Square-free if and only if every power is 1. -/
theorem once_known {F : List Int} {u : Int} {l : List (List Int × Int)} (h : P F = K u * prodM l) (hu : u ≠ 0) (hl : FacOkM 10 l) : CopQ (P F) (P (derivP F)) ↔ ∀ e ∈ l, e.2 = 1 := by
  have hF := (facR_prim h hu hl).1
  rw [← der_P]
  refine (sqf_iff hF).trans ⟨fun hv e he => ?_, fun h1 π hπ => ?_⟩
  · obtain ⟨π, hπ, hd⟩ := irr_factor (hl.i e he).i.1
    have := hv π hπ
    rw [(facR_va hπ h hu hl).1 e.1 e.2 he hd] at this
    have := hl.k e he
    omega
  · have ⟨a1, a2⟩ := facR_va hπ h hu hl
    by_cases hx : ∃ e ∈ l, π ∣ P e.1
    · obtain ⟨e, he, hd⟩ := hx
      rw [a1 e.1 e.2 he hd, h1 e he]; decide
    · rw [a2 fun e he hd => hx ⟨e, he, hd⟩]; omega
theorem zero_known {F : List Int} (h : P F = 0) : ¬ CopQ (P F) (P (derivP F)) := by
  rw [← der_P, h]; exact not_sqf_zero
/-! ### decompositions -/
/-- Those of one power. -/
def ofK (l : List (List Int × Int)) (k : Int) : List (List Int × Int) := l.filter fun e => e.2 = k
theorem ofK_take {l : List (List Int × Int)} {i : Nat} {e : List Int × Int} {k : Int} (h : l[i]? = some e) : ofK (l.take (i + 1)) k = ofK (l.take i) k ++ (if e.2 = k then [e] else []) := by
  unfold ofK
  rw [List.take_add_one, h, List.filter_append]
  congr 1
  show List.filter _ [e] = _
  by_cases hk : e.2 = k <;> simp [hk]
theorem accK_yes {l : List (List Int × Int)} {i : Nat} {e : List Int × Int} {k : Int} (h : l[i]? = some e) (hk : e.2 = k) : accM (ofK (l.take (i + 1)) k) = trimZ (pmul (accM (ofK (l.take i) k)) e.1) := by
  rw [ofK_take h, if_pos hk]; simp [accM, List.foldl_append]
theorem accK_no {l : List (List Int × Int)} {i : Nat} {e : List Int × Int} {k : Int} (h : l[i]? = some e) (hk : e.2 ≠ k) : accM (ofK (l.take (i + 1)) k) = accM (ofK (l.take i) k) := by
  rw [ofK_take h, if_neg hk, List.append_nil]
/-- The decomposition up to k. -/
def decM (l : List (List Int × Int)) : Nat → List (List Int × Int)
  | 0 => []
  | k + 1 => decM l k ++ (if 1 < (accM (ofK l ((k + 1 : Nat) : Int))).length then [(accM (ofK l ((k + 1 : Nat) : Int)), ((k + 1 : Nat) : Int))] else [])
theorem mem_decM {l : List (List Int × Int)} {e : List Int × Int} : ∀ {n : Nat}, e ∈ decM l n ↔ 1 ≤ e.2 ∧ e.2 ≤ n ∧ e.1 = accM (ofK l e.2) ∧ 1 < e.1.length
  | 0 => by simp [decM]; omega
  | n + 1 => by
    rw [decM, List.mem_append, mem_decM (n := n)]
    constructor
    · rintro (h | h)
      · exact ⟨h.1, by have := h.2.1; omega, h.2.2⟩
      · split at h
        · rename_i hl
          simp at h
          subst h
          exact ⟨by dsimp only; omega, by dsimp only; omega, rfl, hl⟩
        · cases h
    · rintro ⟨h1, h2, h3, h4⟩
      by_cases hk : e.2 = ((n + 1 : Nat) : Int)
      · right
        rw [← hk, ← h3, if_pos h4]
        simp
      · exact .inl ⟨h1, by omega, h3, h4⟩
theorem decM_asc {l : List (List Int × Int)} : ∀ n : Nat, (decM l n).Pairwise fun a b => a.2 < b.2
  | 0 => List.Pairwise.nil
  | n + 1 => by
    rw [decM]
    refine List.pairwise_append.2 ⟨decM_asc n, ?_, fun a ha b hb => ?_⟩
    · split <;> simp
    · have h1 := (mem_decM.1 ha).2.1
      split at hb
      · simp at hb; subst hb; dsimp only; omega
      · cases hb
theorem asc_eq : ∀ {a b : List (List Int × Int)}, (a.Pairwise fun x y => x.2 < y.2) → (b.Pairwise fun x y => x.2 < y.2) → (∀ e, e ∈ a ↔ e ∈ b) → a = b
  | [], [], _, _, _ => rfl
  | [], y :: b, _, _, h => absurd ((h y).2 (by simp)) (by simp)
  | x :: a, [], _, _, h => absurd ((h x).1 (by simp)) (by simp)
  | x :: a, y :: b, ha, hb, h => by
    have ⟨a1, a2⟩ := List.pairwise_cons.1 ha
    have ⟨b1, b2⟩ := List.pairwise_cons.1 hb
    have hxy : x = y := by
      rcases List.mem_cons.1 ((h x).1 (by simp)) with h1 | h1
      · exact h1
      · rcases List.mem_cons.1 ((h y).2 (by simp)) with h2 | h2
        · exact h2.symm
        · have := b1 x h1; have := a1 y h2; omega
    subst hxy
    rw [asc_eq a2 b2 fun e => ⟨fun he => ?_, fun he => ?_⟩]
    · rcases List.mem_cons.1 ((h e).1 (by simp [he])) with h1 | h1
      · subst h1; have := a1 e he; omega
      · exact h1
    · rcases List.mem_cons.1 ((h e).2 (by simp [he])) with h1 | h1
      · subst h1; have := b1 e he; omega
      · exact h1
theorem ofK_ok {l : List (List Int × Int)} {k : Int} (hl : FacOkM 10 l) : (∀ e ∈ ofK l k, IrrN e.1) ∧ (ofK l k).Pairwise (fun a b => a.1 ≠ b.1) :=
  ⟨fun e he => hl.i e (List.mem_filter.1 he).1, hl.d.filter _⟩
theorem va_ofK {π F : QP} {u k : Int} {l : List (List Int × Int)} (hπ : Irr π) (h : F = K u * prodM l) (hu : u ≠ 0) (hl : FacOkM 10 l) (hk : 1 ≤ k) : va π (P (accM (ofK l k))) = if (va π F : Int) = k then 1 else 0 := by
  have ⟨h1, h2⟩ := facR_va hπ h hu hl
  have ⟨h3, h4⟩ := va_accM hπ (ofK_ok (k := k) hl).1 (ofK_ok hl).2
  by_cases hx : ∃ e ∈ l, π ∣ P e.1
  · obtain ⟨e, he, hd⟩ := hx
    have hk1 := hl.k e he
    have hv := h1 e.1 e.2 he hd
    by_cases hek : e.2 = k
    · rw [h3 ⟨e, List.mem_filter.2 ⟨he, by simp [hek]⟩, hd⟩, if_pos (by omega)]
    · rw [if_neg (by omega)]
      refine h4 fun e' he' hd' => ?_
      have ⟨m1, m2⟩ := List.mem_filter.1 he'
      have hv' := h1 e'.1 e'.2 m1 hd'
      have := hl.k e' m1
      simp at m2
      omega
  · have hn : ∀ e ∈ l, ¬ π ∣ P e.1 := fun e he hd => hx ⟨e, he, hd⟩
    rw [h2 hn, if_neg (by omega)]
    exact h4 fun e he => hn e (List.mem_filter.1 he).1
/-- The program's decomposition and the reference's are the same. -/
theorem dec_known {F : List Int} {u v : Int} {l : List (List Int × Int)} {fs : List FE} {n : Nat} (h : P F = K u * prodM l) (hu : u ≠ 0) (hl : FacOkM 10 l) (hn : ∀ e ∈ l, e.2 ≤ n) (hd : Dec F v fs) : v = u ∧ fs.map (fun f => (zs f.l, f.k)) = decM l n := by
  have ⟨hF, hc, hp⟩ := facR_prim h hu hl
  rcases hd with ⟨h0, _⟩ | ⟨_, hv, ⟨k, hdec⟩, hprod⟩
  · exact absurd h0 hF
  refine ⟨hv.trans hc, asc_eq ?_ (decM_asc n) fun e => ?_⟩
  · rw [List.pairwise_map]; exact hdec.asc
  · have hva : ∀ π, Irr π → va π (P (primP F)) = va π (P F) := fun π hπ => va_prim hπ hF
    constructor
    · intro he
      obtain ⟨f, hf, rfl⟩ := List.mem_map.1 he
      have hE := hdec.e f hf
      have hk := hE.k1
      have heq : zs f.l = accM (ofK l f.k) := hE.n.eq_va (accM_spec (ofK_ok hl).1).1 fun π hπ => by
        rw [hE.v π hπ, va_ofK hπ h hu hl hk.1, hva π hπ]
      have hlen : 2 ≤ (zs f.l).length := by rw [zlen, hE.hn]; exact hE.d
      refine mem_decM.2 ⟨hk.1, ?_, heq, by show 1 < (zs f.l).length; omega⟩
      show f.k ≤ n
      obtain ⟨π, hπ, hdv⟩ := irr_factor (f := P (zs f.l)) (by rw [dg_P, hE.n.t]; exact hlen)
      have h1 := (va_pos hπ hE.n.ne).1 hdv
      rw [hE.v π hπ] at h1
      by_cases hx : (va π (P (primP F)) : Int) = f.k
      · rw [hva π hπ] at hx
        have ⟨a1, a2⟩ := facR_va hπ h hu hl
        by_cases hy : ∃ e ∈ l, π ∣ P e.1
        · obtain ⟨e, he, hd⟩ := hy
          have := a1 e.1 e.2 he hd
          have := hn e he
          have := hl.k e he
          omega
        · rw [a2 fun e he hd => hy ⟨e, he, hd⟩] at hx; omega
      · rw [if_neg hx] at h1; omega
    · intro he
      obtain ⟨h1, h2, h3, h4⟩ := mem_decM.1 he
      have hN := (accM_spec (ofK_ok (k := e.2) hl).1).1
      rw [← h3] at hN
      obtain ⟨π, hπ, hdv⟩ := irr_factor (f := P e.1) (by rw [dg_P, hN.t]; omega)
      have h5 := (va_pos hπ hN.ne).1 hdv
      have hvk : ∀ π, Irr π → va π (P e.1) = if (va π (P F) : Int) = e.2 then 1 else 0 := fun π hπ => by rw [h3]; exact va_ofK hπ h hu hl h1
      rw [hvk π hπ] at h5
      have h6 : (va π (P F) : Int) = e.2 := by apply Classical.byContradiction; intro hx; rw [if_neg hx] at h5; omega
      obtain ⟨f, hf, hfk⟩ : ∃ f ∈ fs, f.k = (va π (P (primP F)) : Int) := by
        obtain ⟨b, hb, eb⟩ := prod_nrm fs fun x hx => (hdec.e x hx).n
        apply Classical.byContradiction
        intro hx
        have ⟨_, h8⟩ := va_prod hπ fs hdec.e hdec.asc
        have h9 := h8 fun f hf hfk => hx ⟨f, hf, hfk⟩
        rw [hprod, hva π hπ] at h9
        omega
      have hE := hdec.e f hf
      refine List.mem_map.2 ⟨f, hf, ?_⟩
      have e2 : f.k = e.2 := by rw [hfk, hva π hπ]; exact h6
      have e1 : zs f.l = e.1 := hE.n.eq_va hN fun ρ hρ => by rw [hE.v ρ hρ, hvk ρ hρ, hva ρ hρ, e2]
      rw [e1, e2]
end Go.Gx
/-! ### what the walks want -/
namespace Go.Gx
theorem mulI_sum_bd {f g o : List Int} {i k N : Nat} (h : ∀ j, co o j = mulI f g i k j) (hN : nrm f * nrm g ≤ N) : (co o (i + k) + co f i * co g k).natAbs ≤ N := by
  have h1 := mulI_bd hN i (k + 1) (i + k)
  have h2 : co o (i + k) + co f i * co g k = mulI f g i (k + 1) (i + k) := by
    rw [h]
    unfold mulI
    rw [if_neg (by omega), if_pos (by omega), show i + k - i = k by omega]; omega
  rw [h2]; exact h1
theorem getD_bd {F : List Int} {N : Nat} (h : ∀ x ∈ F, x.natAbs ≤ N) (i : Nat) : (F.getD i 0).natAbs ≤ N := by
  simp only [List.getD]
  cases he : F[i]? with
  | none => simp
  | some x => exact h x (List.mem_of_getElem? he)
theorem tdiv_bd (a b : Int) : (a.tdiv b).natAbs ≤ a.natAbs := by rw [Int.natAbs_tdiv]; exact Nat.div_le_self _ _
theorem trim_bd {F G : List Int} {N : Nat} (e : G = trimZ F) (h : ∀ x ∈ F, x.natAbs ≤ N) : ∀ x ∈ G, x.natAbs ≤ N := fun x hx => by rw [e] at hx; exact h x (trimB_mem isZI F hx)
theorem nrm_trim_le {F G : List Int} (e : G = trimZ F) : nrm G = nrm F := by rw [e, nrm_trim]
theorem mul_nil {f g : List Int} (h : trimZ f = [] ∨ trimZ g = []) : [] = trimZ (pmul f g) := by
  have : P (pmul f g) = P [] := by
    rw [P_mul, P_nil]
    rcases h with h | h
    · rw [← P_trim f, h, P_nil, zero_qmul]
    · rw [← P_trim g, h, P_nil, qmul_zero]
  have := P_inj this
  rw [this]; rfl
theorem getD_extI {a b : List Int} (hl : a.length = b.length) (h : ∀ j, j < a.length → a.getD j 0 = b.getD j 0) : a = b := by
  apply List.ext_getElem hl
  intro i h1 h2
  have := h i h1
  simpa [List.getD, h1, h2] using this
theorem zgetD_downI {l : List Int} {k : Nat} (h : ∀ j, k ≤ j → l.getD j 0 = 0) (h1 : l.getD (k - 1) 0 = 0) : ∀ j, k - 1 ≤ j → l.getD j 0 = 0 := fun j hj => by
  rcases Nat.lt_or_ge j k with hl | hl
  · rw [show j = k - 1 by omega]; exact h1
  · exact h j hl
theorem gcd_step11 {x y G : Nat} (h : Nat.gcd x y = G) : Nat.gcd y (x % y) = G := by rw [← h, Nat.gcd_comm y, ← Nat.gcd_rec, Nat.gcd_comm]
theorem gcd_done {x y G : Nat} (h : Nat.gcd x y = G) (hy : y = 0) : (x : Int) = (G : Int) := by rw [← h, hy, Nat.gcd_zero_right]
theorem cont_step11 {F : List Int} {i u : Nat} {r : Int} (hi : i < F.length) (hu : u = contP (F.take i)) (hr : r = (Nat.gcd ((u : Nat) : Int).natAbs (F.getD i 0).natAbs : Int)) : r = ((contP (F.take (i + 1)) : Nat) : Int) := by
  rw [hr, contP_next hi, hu, Int.natAbs_natCast]
theorem prim_sign {xf F : List Int} {u i : Nat} (hF : F = trimZ xf) (hu : u = contP (F.take i)) (hi : F.length ≤ i) (h0 : F.length ≠ 0) : primC xf = if F.getD (F.length - 1) 0 < 0 then -(u : Int) else (u : Int) := by
  unfold primC
  have hne : trimZ xf ≠ [] := fun e => h0 (by rw [hF, e]; rfl)
  rw [ld_last hne, ← hF, hu, List.take_of_length_le hi, hF, contP_trim]
theorem prim_u0 {xf F : List Int} (hF : F = trimZ xf) (h0 : F.length ≠ 0) : primC xf ≠ 0 := primC_ne (fun e => h0 (by rw [hF, ld_zero e]; rfl))
theorem prim_nil {xf F : List Int} (hF : F = trimZ xf) (h0 : F.length = 0) : 0 = primC xf ∧ [] = primP xf := by
  have h1 : trimZ xf = [] := by rw [← hF]; exact List.eq_nil_of_length_eq_zero h0
  have hl : ldP xf = 0 := by unfold ldP; rw [h1]; rfl
  refine ⟨?_, by unfold primP; rw [h1]; rfl⟩
  have : contP xf = 0 := by rw [← contP_trim, h1]; rfl
  have := primC_abs xf
  omega
theorem prim_out {xf F : List Int} {U : Int} {i n : Nat} (hF : F = trimZ xf) (hU : U = primC xf) (hi : F.length ≤ i) (hn : n = F.length) : (F.take i).map (fun x : Int => x.tdiv U) ++ List.replicate (n - i) 0 = primP xf := by
  rw [show n - i = 0 by omega, List.replicate_zero, List.append_nil, List.take_of_length_le hi, hU, hF]; rfl
theorem prim_rng {xf : List Int} {N : Nat} (h : ∀ x ∈ xf, x.natAbs ≤ N) (hN : N ≤ 1000000) : ∀ x ∈ primP xf, -9223372036854775808 ≤ x ∧ x ≤ 9223372036854775807 := fun x hx => by
  unfold primP at hx
  obtain ⟨y, hy, rfl⟩ := List.mem_map.1 hx
  have h1 := h y (trimB_mem isZI xf hy)
  have h2 := tdiv_bd y (primC xf)
  omega
theorem sq_bd {s : Int} (h : 0 ≤ s ∧ s ≤ 32) : 0 ≤ s * s ∧ s * s ≤ 1024 := by
  obtain ⟨n, rfl⟩ := Int.eq_ofNat_of_zero_le h.1
  have h1 : n ≤ 32 := by omega
  have h2 : n * n ≤ 32 * 32 := Nat.mul_le_mul h1 h1
  rw [← Int.natCast_mul]
  omega
theorem mul9 {a b : Int} (ha : a.natAbs ≤ 9) (hb : b.natAbs ≤ 9) : (a * b).natAbs ≤ 81 := by rw [Int.natAbs_mul]; exact Nat.mul_le_mul ha hb
theorem mul36 {a b : Int} (ha : a.natAbs ≤ 9) (hb : b.natAbs ≤ 9) : (4 * a * b).natAbs ≤ 324 := by
  rw [Int.mul_assoc, Int.natAbs_mul]; exact Nat.mul_le_mul_left 4 (mul9 ha hb)
theorem root_split {g : List Int} {s : Int} (h : s * s = g.getD 1 0 * g.getD 1 0 - 4 * g.getD 2 0 * g.getD 0 0) (hs : 0 ≤ s ∧ s ≤ 32) (hb : ∀ x ∈ g, x.natAbs ≤ 9) : s ≤ 21 := by
  have h1 := mul9 (getD_bd hb 1) (getD_bd hb 1)
  have h2 := mul36 (getD_bd hb 2) (getD_bd hb 0)
  apply Classical.byContradiction
  intro hx
  have : 22 * 22 ≤ s * s := Int.mul_le_mul (by omega) (by omega) (by omega) hs.1
  omega
theorem prim_bd9 {xf g : List Int} (e : g = primP xf) (h : ∀ x ∈ xf, x.natAbs ≤ 9) : ∀ x ∈ g, x.natAbs ≤ 9 := fun x hx => by
  rw [e] at hx
  unfold primP at hx
  obtain ⟨y, hy, rfl⟩ := List.mem_map.1 hx
  exact Nat.le_trans (tdiv_bd _ _) (h y (trimB_mem isZI xf hy))
end Go.Gx
namespace Go.Gx
theorem rngD {xs : List Int} (h : ∀ x ∈ xs, -9223372036854775808 ≤ x ∧ x ≤ 9223372036854775807) (i : Nat) : -9223372036854775808 ≤ xs.getD i 0 ∧ xs.getD i 0 ≤ 9223372036854775807 := by
  rcases Nat.lt_or_ge i xs.length with hi | hi
  · simp only [List.getD, List.getElem?_eq_getElem hi, Option.getD_some]; exact h _ (List.getElem_mem hi)
  · simp [List.getD, List.getElem?_eq_none hi]
end Go.Gx

/-
  Lists of arrays of three int8; what the walks of the reference want. No program in sight.
-/
namespace Go.Gx
open Go.RowKit
abbrev T3 := Int × Int × Int
def cellsT (l : List T3) : List Value := l.flatMap fun t => [.int .i8 t.1, .int .i8 t.2.1, .int .i8 t.2.2]
def compT (t : T3) (k : Nat) : Int := if k = 0 then t.1 else if k = 1 then t.2.1 else t.2.2
theorem cellsT_len (l : List T3) : (cellsT l).length = l.length * 3 := by
  induction l with
  | nil => rfl
  | cons r l ih => simp only [cellsT, List.flatMap_cons, List.length_append, List.length_cons] at ih ⊢; rw [ih]; simp; omega
theorem cellsT_cons (t : T3) (l : List T3) : cellsT (t :: l) = .int .i8 t.1 :: .int .i8 t.2.1 :: .int .i8 t.2.2 :: cellsT l := by simp [cellsT]
theorem cellsT_get {l : List T3} : ∀ {i : Nat} {t : T3} (k : Nat), l[i]? = some t → k < 3 → (cellsT l)[i * 3 + k]? = some (.int .i8 (compT t k)) := by
  induction l with
  | nil => intro i r k h; simp at h
  | cons x l ih =>
    intro i r k h hk
    rw [cellsT_cons]
    cases i with
    | zero =>
      simp at h; subst h
      match k, hk with
      | 0, _ => rfl
      | 1, _ => rfl
      | 2, _ => rfl
    | succ i =>
      simp at h
      have := ih k h hk
      rw [show (i + 1) * 3 + k = i * 3 + k + 1 + 1 + 1 by omega]
      simpa using this
def TripR (w : World) (S : Nat → Prop) (A : Option Addr) (n c : Nat) (l : List T3) : Prop := Rd w S A n c 3 (cellsT l) ∧ ∀ t ∈ l, ∀ k, -128 ≤ compT t k ∧ compT t k ≤ 127
section
variable {w w' : World} {S S' G : Nat → Prop} {A : Option Addr} {n c : Nat} {l : List T3}
theorem TripR.frmB (h : TripR w S A n c l) (f : Frm G w w') (hd : ∀ b, b < w.heap.size → S b → ¬ G b) : TripR w' S A n c l := ⟨h.1.frmB f hd, h.2⟩
theorem TripR.ext (h : TripR w S A n c l) (f : Ext w w') : TripR w' S A n c l := ⟨h.1.ext f, h.2⟩
theorem TripR.sub (h : TripR w S A n c l) (hs : ∀ b, b < w.heap.size → S b → S' b) : TripR w S' A n c l := ⟨h.1.sub hs, h.2⟩
theorem TripR.low (h : TripR w S A n c l) : TripR w (· < w.heap.size) A n c l := h.sub fun _ hb _ => hb
theorem TripR.len (h : TripR w S A n c l) : l.length = n := by have := h.1.1; rw [cellsT_len] at this; omega
theorem TripR.lkm (h : TripR w S A n c l) : l.length = n ∧ n ≤ c ∧ c ≤ 9223372036854775807 := ⟨h.len, h.1.2.1, h.1.2.2.1⟩
theorem TripR.base (h : TripR w S A n c l) (hn : 0 < n) : ∃ b off, A = some ⟨b, off, none⟩ := h.1.base hn
theorem TripR.at_ {b off i : Nat} (h : TripR w S (some ⟨b, off, none⟩) n c l) (hi : i < n) :
    ∃ t0 t1 t2, l[i]? = some (t0, t1, t2) ∧ (∀ (j : Nat) v, [Value.int .i8 t0, .int .i8 t1, .int .i8 t2][j]? = some v → w.cell? ((⟨b, off + i * 3, none⟩ : Addr).add j) = some v) ∧ (-128 ≤ t0 ∧ t0 ≤ 127) ∧ (-128 ≤ t1 ∧ t1 ≤ 127) ∧ (-128 ≤ t2 ∧ t2 ≤ 127) := by
  have hl : i < l.length := by rw [h.len]; exact hi
  obtain ⟨⟨t0, t1, t2⟩, hr⟩ : ∃ r, l[i]? = some r := ⟨_, List.getElem?_eq_getElem hl⟩
  have hm := h.2 _ (List.mem_of_getElem? hr)
  refine ⟨t0, t1, t2, hr, fun j v hj => ?_, hm 0, hm 1, hm 2⟩
  have hj3 : j < 3 := by
    rcases Nat.lt_or_ge j 3 with h1 | h1
    · exact h1
    · rw [List.getElem?_eq_none (by simpa using h1)] at hj; cases hj
  rw [addr_add, Nat.add_assoc]
  refine h.1.cell ?_
  rw [cellsT_get j hr hj3]
  match j, hj3, hj with
  | 0, _, hj => simpa [compT] using hj
  | 1, _, hj => simpa [compT] using hj
  | 2, _, hj => simpa [compT] using hj
theorem TripR.cellk {b off i k : Nat} (h : TripR w S (some ⟨b, off, none⟩) n c l) (hi : i < n) (hk : k < 3) : w.cell? ⟨b, off + i * 3 + k, none⟩ = some (.int .i8 (compT (l.getD i (0, 0, 0)) k)) := by
  have hl : i < l.length := by rw [h.len]; exact hi
  rw [Nat.add_assoc]
  refine h.1.cell ?_
  rw [cellsT_get k (List.getElem?_eq_getElem hl) hk]
  simp [List.getD, hl]
end
/-- Coefficients from -9 to 9. -/
def Few9 (l : List T3) : Prop := ∀ t ∈ l, ∀ k, k < 3 → (compT t k).natAbs ≤ 9
theorem few_row {t : T3} {k : Nat} {v : Int} (h : ∀ m, m < k → (compT t m).natAbs ≤ 9) (hv : v = compT t k) (h1 : ¬ v < -9) (h2 : ¬ v > 9) : ∀ m, m < k + 1 → (compT t m).natAbs ≤ 9 := fun m hm => by
  rcases Nat.lt_or_ge m k with h3 | h3
  · exact h m h3
  · rw [show m = k by omega]; omega
theorem few_next {l : List T3} {i : Nat} (h : Few9 (l.take i)) (hi : i < l.length) (ht : ∀ m, m < 3 → (compT (l.getD i (0, 0, 0)) m).natAbs ≤ 9) : Few9 (l.take (i + 1)) := fun t hm => by
  rw [List.take_add_one, List.getElem?_eq_getElem hi] at hm
  rcases List.mem_append.1 hm with h1 | h1
  · exact h t h1
  · simp at h1
    subst h1
    have : l.getD i (0, 0, 0) = l[i] := by simp [List.getD, hi]
    rw [this] at ht
    exact ht
theorem few9_all {l : List T3} {i : Nat} (h : Few9 (l.take i)) (hi : l.length ≤ i) : Few9 l := by rw [List.take_of_length_le hi] at h; exact h
theorem few_at {l : List T3} {i : Nat} {t0 t1 t2 : Int} (h : Few9 l) (he : l[i]? = some (t0, t1, t2)) : t0.natAbs ≤ 9 ∧ t1.natAbs ≤ 9 ∧ t2.natAbs ≤ 9 := by
  have := h _ (List.mem_of_getElem? he)
  exact ⟨this 0 (by omega), this 1 (by omega), this 2 (by omega)⟩
theorem quad_bd {t0 t1 t2 : Int} {xs : List Int} (e : xs = [t0, t1, t2]) (h : t0.natAbs ≤ 9 ∧ t1.natAbs ≤ 9 ∧ t2.natAbs ≤ 9) : (∀ x ∈ xs, x.natAbs ≤ 9) ∧ nrm xs ≤ 27 := by
  subst e
  refine ⟨fun x hx => ?_, by show _ + (_ + (_ + 0)) ≤ 27; omega⟩
  simp only [List.mem_cons, List.not_mem_nil, or_false] at hx
  rcases hx with rfl | rfl | rfl <;> omega
/-! ### the product -/
theorem prod_start : P [1] = prodT [] := QP.eq fun x => by simp only [prodT, List.foldl, v_P, v_1, evQ]; rw [one_cast]; grind
theorem prod_step {l : List T3} {i : Nat} {t0 t1 t2 : Int} {xp xq xr : List Int} (h : P xp = prodT (l.take i)) (he : l[i]? = some (t0, t1, t2)) (hq : xq = [t0, t1, t2]) (hr : xr = trimZ (pmul xp xq)) : P xr = prodT (l.take (i + 1)) := by
  rw [prodT_next he, ← h, hr, P_trim, P_mul, hq]; rfl
theorem mulT_len {f g r : List Int} {n m : Nat} (h : r = trimZ (pmul f g)) (hf : f.length = n) (hg : g.length = m) (hm : 1 ≤ m) : r.length ≤ n + m - 1 := by
  subst h
  refine Nat.le_trans (trimZ_len _) ?_
  unfold pmul
  split
  · simp
  · simp; omega
theorem prod_nrm27 {xp xq : List Int} {i : Nat} (hp : nrm xp ≤ 27 ^ i) (hq : nrm xq ≤ 27) (hi : i < 5) : nrm xp * nrm xq ≤ 4611686018427387904 ∧ nrm (trimZ (pmul xp xq)) ≤ 27 ^ (i + 1) := by
  have h1 : nrm xp * nrm xq ≤ 27 ^ (i + 1) := by rw [Nat.pow_succ]; exact Nat.mul_le_mul hp hq
  have h2 : 27 ^ (i + 1) ≤ 27 ^ 5 := Nat.pow_le_pow_right (by omega) (by omega)
  exact ⟨Nat.le_trans h1 (Nat.le_trans h2 (by decide)), by rw [nrm_trim]; exact Nat.le_trans (nrm_pmul _ _) h1⟩
theorem nrm27_end {N i : Nat} (h : N ≤ 27 ^ i) (hi : i ≤ 5) : N ≤ 14348907 := Nat.le_trans h (show 27 ^ i ≤ 27 ^ 5 from Nat.pow_le_pow_right (by omega) hi)
theorem u_next {u v : Int} {i : Nat} (hu : u.natAbs ≤ 9 ^ i) (hv : v.natAbs ≤ 9) (hi : i < 5) : (u * v).natAbs ≤ 9 ^ (i + 1) ∧ (u * v).natAbs ≤ 59049 := by
  have h1 : (u * v).natAbs ≤ 9 ^ (i + 1) := by rw [Int.natAbs_mul, Nat.pow_succ]; exact Nat.mul_le_mul hu hv
  exact ⟨h1, Nat.le_trans h1 (show 9 ^ (i + 1) ≤ 9 ^ 5 from Nat.pow_le_pow_right (by omega) (by omega))⟩
/-! ### lists of factors -/
theorem ie_get {l : List IE} {i : Nat} {f : IE} (h : l[i]? = some f) : (l.map IE.m)[i]? = some (f.x, f.k) := by simp [h, IE.m]
theorem ix_get {l : List IE} {i : Nat} {f : IE} (h : l[i]? = some f) : (l.map IE.x)[i]? = some f.x := by simp [h]
theorem appI_set {l : List IE} {sp : List Value} {i : Nat} {r : IE} (k : Int) (h : l[i]? = some r) : (cellsIE l ++ sp).set (0 + i * 2 + 1) (.int .i64 k) = cellsIE (l.set i { r with k := k }) ++ sp := by
  have hi : i < l.length := (List.getElem?_eq_some_iff.1 h).1
  rw [Nat.zero_add, List.set_append_left _ _ (by rw [cellsIE_len]; omega), cellsIE_set k h]
theorem allI_set {w w' : World} {g i : Nat} {k : Int} {l : List IE} {r : IE} (h : AllI w (fun b => b ≠ g) l) (f : Frm (fun b => b = g) w w') (hr : l[i]? = some r) : AllI w' (fun b => b ≠ g) (l.set i { r with k := k }) := fun x hx => by
  rcases List.mem_or_eq_of_mem_set hx with h1 | h1
  · exact (h x h1).frmB f fun _ _ hb he => hb he
  · subst h1
    exact (h r (List.mem_of_getElem? hr)).frmB f fun _ _ hb he => hb he
/-- The block after a store of a power. -/
theorem ownI_power {w w' : World} {B g el c n i : Nat} {l : List IE} {sp : List Value} {k : Int} {r : IE} (hg : B ≤ g) (hB : Blk w' g el ((cellsIE l ++ sp).set (0 + i * 2 + 1) (.int .i64 k))) (hl : (cellsIE l ++ sp).length = c * 2) (hn : l.length = n) (hc : n ≤ c) (hm : c ≤ CapMax) (ha : AllI w (fun b => b ≠ g) l) (f : Frm (fun b => b = g) w w') (hr : l[i]? = some r) :
    OwnI w' B el (some ⟨g, 0, none⟩) n c (l.set i { r with k := k }) := by
  rw [appI_set k hr] at hB
  refine OwnI.close hg hB ?_ (by simpa using hn) hc hm (allI_set ha f hr)
  rw [← hl, List.length_append, List.length_append, cellsIE_len, cellsIE_len, List.length_set]
theorem with_found {l : List IE} {p : List Int} {i : Nat} {f : IE} (h : l[i]? = some f) (hn : ∀ j e, j < i → l[j]? = some e → trimZ e.x ≠ trimZ p) (he : trimZ f.x = trimZ p) : (l.set i { f with k := f.k + 1 }).map IE.m = withM (l.map IE.m) p := by
  rw [withM_at (l.map IE.m) p i f.x f.k (ie_get h) (fun j e hj hx => ?_) he, List.map_set]
  · rfl
  · rw [List.getElem?_map] at hx
    cases hl : l[j]? with
    | none => rw [hl] at hx; cases hx
    | some y => rw [hl] at hx; injection hx with hx; subst hx; exact hn j y hj hl
theorem with_new {l : List IE} {p : List Int} {A : Option Addr} {n c i : Nat} (hn : ∀ j e, j < i → l[j]? = some e → trimZ e.x ≠ trimZ p) (hi : l.length ≤ i) : (l ++ [(⟨A, n, c, p, 1⟩ : IE)]).map IE.m = withM (l.map IE.m) p := by
  rw [withM_none]
  · simp [IE.m]
  · intro e he
    obtain ⟨f, hf, rfl⟩ := List.mem_map.1 he
    obtain ⟨j, hj, rfl⟩ := List.getElem_of_mem hf
    exact hn j _ (by omega) (List.getElem?_eq_getElem hj)
theorem with_next {l : List IE} {p : List Int} {i : Nat} {f : IE} (hn : ∀ j e, j < i → l[j]? = some e → trimZ e.x ≠ trimZ p) (h : l[i]? = some f) (he : ¬ trimZ f.x = trimZ p) : ∀ j e, j < i + 1 → l[j]? = some e → trimZ e.x ≠ trimZ p := fun j e hj hx => by
  rcases Nat.lt_or_ge j i with h1 | h1
  · exact hn j e h1 hx
  · obtain rfl : j = i := by omega
    rw [h] at hx; injection hx with hx; subst hx; exact he
theorem facIn_k {Q : QP} {u : Int} {N k : Nat} {l : List IE} {ps : List (List Int)} (h : FacIn Q u N (l.map IE.m) ps k) (hN : N + k ≤ 1000) : (∀ e ∈ l, 0 ≤ e.k ∧ e.k ≤ 1000) ∧ l.length ≤ N + k := by
  refine ⟨fun e he => ?_, by have := h.2.1.n; simpa using this⟩
  have h1 := h.2.1.k (e.x, e.k) (List.mem_map.2 ⟨e, he, rfl⟩)
  dsimp only at h1
  omega
theorem fac_next {l : List T3} {i : Nat} {t0 t1 t2 u v : Int} {N : Nat} {L : List (List Int × Int)} {xq : List Int} {ps : List (List Int)} (h : FacSt (prodT (l.take i)) u N L) (he : l[i]? = some (t0, t1, t2)) (hq : xq = [t0, t1, t2]) (hs : SplitR xq v ps) : FacIn (prodT (l.take (i + 1))) (u * v) N L ps 0 := by
  rw [prodT_next he]
  subst hq
  exact h.enter hs
/-! ### decompositions -/
theorem facOk_at {l : List IE} {i : Nat} {f : IE} (h : FacOkM 10 (l.map IE.m)) (he : l[i]? = some f) : IrrN f.x ∧ 1 ≤ f.k ∧ f.k ≤ 10 := by
  have hm : (f.x, f.k) ∈ l.map IE.m := List.mem_map.2 ⟨f, List.mem_of_getElem? he, rfl⟩
  exact ⟨h.i _ hm, h.k _ hm⟩
theorem max_eq (a b : Int) : (if b > a then b else a) = max a b := by rw [Int.max_def]; split <;> split <;> omega
theorem most_next {l : List IE} {i : Nat} {f : IE} {m : Int} (h : ∀ e ∈ (l.take i).map IE.m, e.2 ≤ m) (he : l[i]? = some f) : ∀ e ∈ (l.take (i + 1)).map IE.m, e.2 ≤ max m f.k := fun e hm => by
  rw [List.take_add_one, he] at hm
  simp only [List.map_append, List.mem_append] at hm
  rcases hm with h1 | h1
  · have := h e h1; omega
  · simp at h1; subst h1; show f.k ≤ _; omega
theorem acc48 {xp xq : List Int} {i : Nat} (hp : nrm xp ≤ 48 ^ i) (hq : nrm xq ≤ 48) (hi : i < 10) : nrm xp * nrm xq ≤ 4611686018427387904 ∧ nrm (trimZ (pmul xp xq)) ≤ 48 ^ (i + 1) := by
  have h1 : nrm xp * nrm xq ≤ 48 ^ (i + 1) := by rw [Nat.pow_succ]; exact Nat.mul_le_mul hp hq
  have h2 : 48 ^ (i + 1) ≤ 48 ^ 10 := Nat.pow_le_pow_right (by omega) (by omega)
  exact ⟨Nat.le_trans h1 (Nat.le_trans h2 (by decide)), by rw [nrm_trim]; exact Nat.le_trans (nrm_pmul _ _) h1⟩
theorem pow48 {N i : Nat} (h : N ≤ 48 ^ i) : N ≤ 48 ^ (i + 1) := Nat.le_trans h (Nat.pow_le_pow_right (by omega) (by omega))
theorem map_take_m (l : List IE) (i : Nat) : (l.take i).map IE.m = (l.map IE.m).take i := by rw [List.map_take]
theorem dec_yes {L : List (List Int × Int)} {fs : List IE} {k : Nat} {xp : List Int} {A : Option Addr} {n c : Nat} {v : Int} (h : fs.map IE.m = decM L k) (hp : xp = accM (ofK L ((k + 1 : Nat) : Int))) (hl : 1 < xp.length) (hv : v = ((k + 1 : Nat) : Int)) : (fs ++ [(⟨A, n, c, xp, v⟩ : IE)]).map IE.m = decM L (k + 1) := by
  rw [decM, ← hp, if_pos hl, List.map_append, h, hv]; rfl
theorem dec_no {L : List (List Int × Int)} {fs : List IE} {k : Nat} {xp : List Int} (h : fs.map IE.m = decM L k) (hp : xp = accM (ofK L ((k + 1 : Nat) : Int))) (hl : ¬ 1 < xp.length) : fs.map IE.m = decM L (k + 1) := by
  rw [decM, ← hp, if_neg hl, List.append_nil, h]
theorem decM_len (L : List (List Int × Int)) : ∀ n, (decM L n).length ≤ n
  | 0 => Nat.le_refl _
  | n + 1 => by
    rw [decM, List.length_append]
    have := decM_len L n
    split <;> simp <;> omega
/-! ### the laws -/
theorem once_next {L : List (List Int × Int)} {i : Nat} {e : List Int × Int} {on b : Bool} (h : on = true ↔ ∀ e ∈ L.take i, e.2 = 1) (he : L[i]? = some e) (hb : b = true ↔ on = true ∧ e.2 = 1) : b = true ↔ ∀ e ∈ L.take (i + 1), e.2 = 1 := by
  rw [hb, h, List.take_add_one, he]
  constructor
  · rintro ⟨h1, h2⟩ x hx
    rcases List.mem_append.1 hx with h3 | h3
    · exact h1 x h3
    · simp at h3; subst h3; exact h2
  · intro h1
    exact ⟨fun x hx => h1 x (List.mem_append_left _ hx), h1 e (List.mem_append_right _ (by simp))⟩
theorem known_get {fs : List FE} {fw : List IE} {i : Nat} {f : FE} {e : IE} (h : fs.map (fun f => (zs f.l, f.k)) = fw.map IE.m) (hf : fs[i]? = some f) (he : fw[i]? = some e) : zs f.l = e.x ∧ f.k = e.k := by
  have h1 := congrArg (fun l => l[i]?) h
  simp only [List.getElem?_map, hf, he, Option.map_some, Option.some.injEq, IE.m, Prod.mk.injEq] at h1
  exact h1
theorem known_len {fs : List FE} {fw : List IE} (h : fs.map (fun f => (zs f.l, f.k)) = fw.map IE.m) : fs.length = fw.length := by
  have := congrArg List.length h
  simpa using this
end Go.Gx
namespace Go.Gx
theorem FacR.ok {Q : QP} {u : Int} {l : List (List Int × Int)} (h : FacR Q u l) : FacOkM 10 l := by
  rcases h with ⟨_, _, h⟩ | ⟨_, _, h⟩
  · subst h; exact ⟨by simp, by simp, List.Pairwise.nil, by simp⟩
  · exact h
theorem decM_nil : ∀ n : Nat, decM [] n = []
  | 0 => rfl
  | n + 1 => by
    rw [decM, decM_nil n]
    rfl
theorem dec_known2 {F : List Int} {u v : Int} {l : List (List Int × Int)} {fs : List FE} {n : Nat} (h : FacR (P F) u l) (hd : Dec F v fs) (hn : ∀ e ∈ l, e.2 ≤ n) : v = u ∧ fs.map (fun f => (zs f.l, f.k)) = decM l n := by
  rcases h with ⟨h1, h2, h3⟩ | ⟨h1, h2, h3⟩
  · rcases hd with ⟨_, h4, h5⟩ | ⟨h4, _⟩
    · subst h3 h5; exact ⟨by rw [h4, h1], by rw [decM_nil]; rfl⟩
    · exact absurd h2 h4
  · exact dec_known h2 h1 h3 hn hd
theorem cmpZ_self (x : Int) : cmpZ x x = 0 := by simp [cmpZ]
end Go.Gx
namespace Go.Gx
theorem nine_end {N i : Nat} (h : N ≤ 9 ^ i) (hi : i ≤ 5) : N ≤ 59049 := Nat.le_trans h (show 9 ^ i ≤ 9 ^ 5 from Nat.pow_le_pow_right (by omega) hi)
end Go.Gx

/-
  Lists of small integers that came in, lists that grow, two polynomials in a list. No program in sight.
-/
namespace Go.Gx
open Go.RowKit
def I16R (w : World) (S : Nat → Prop) (A : Option Addr) (n c : Nat) (xs : List Int) : Prop := Rd w S A n c 1 (xs.map (Value.int .i16)) ∧ ∀ x ∈ xs, -32768 ≤ x ∧ x ≤ 32767
section
variable {w w' : World} {S S' G : Nat → Prop} {A : Option Addr} {n c : Nat} {xs : List Int}
theorem I16R.frmB (h : I16R w S A n c xs) (f : Frm G w w') (hd : ∀ b, b < w.heap.size → S b → ¬ G b) : I16R w' S A n c xs := ⟨h.1.frmB f hd, h.2⟩
theorem I16R.ext (h : I16R w S A n c xs) (f : Ext w w') : I16R w' S A n c xs := ⟨h.1.ext f, h.2⟩
theorem I16R.low (h : I16R w S A n c xs) : I16R w (· < w.heap.size) A n c xs := ⟨h.1.low, h.2⟩
theorem I16R.len (h : I16R w S A n c xs) : xs.length = n := by have := h.1.1; simpa using this
theorem I16R.lkm (h : I16R w S A n c xs) : xs.length = n ∧ n ≤ c ∧ c ≤ 9223372036854775807 := ⟨h.len, h.1.2.1, h.1.2.2.1⟩
theorem I16R.base (h : I16R w S A n c xs) (hn : 0 < n) : ∃ b off, A = some ⟨b, off, none⟩ := h.1.base hn
theorem I16R.rng (h : I16R w S A n c xs) (i : Nat) : -32768 ≤ xs.getD i 0 ∧ xs.getD i 0 ≤ 32767 := by
  rcases Nat.lt_or_ge i xs.length with hi | hi
  · simp only [List.getD, List.getElem?_eq_getElem hi, Option.getD_some]; exact h.2 _ (List.getElem_mem hi)
  · simp [List.getD, List.getElem?_eq_none hi]
theorem I16R.cell {b off : Nat} (h : I16R w S (some ⟨b, off, none⟩) n c xs) {i : Nat} (hi : i < n) : w.cell? ⟨b, off + i, none⟩ = some (.int .i16 (xs.getD i 0)) := by
  refine h.1.cell ?_
  have hl : i < xs.length := by rw [h.len]; exact hi
  simp [List.getElem?_map, List.getElem?_eq_getElem hl]
theorem Own.intsR {B : Nat} {e : TypeId} (h : Own w B e 1 A n c (xs.map (Value.int .i64))) (hx : ∀ x ∈ xs, -9223372036854775808 ≤ x ∧ x ≤ 9223372036854775807) : IntsR w (fun b => B ≤ b) A n c xs := ⟨h.rd, hx⟩
end
theorem take_snoc16 {O F : List Int} {k : Nat} (h : O = F.take k) (hk : k < F.length) : O ++ [F.getD k 0] = F.take (k + 1) := by
  rw [h, List.take_add_one, List.getElem?_eq_getElem hk]; simp [List.getD, List.getElem?_eq_getElem hk]
theorem small_snoc {O : List Int} {x : Int} (h : ∀ y ∈ O, -32768 ≤ y ∧ y ≤ 32767) (hx : -32768 ≤ x ∧ x ≤ 32767) : ∀ y ∈ O ++ [x], -32768 ≤ y ∧ y ≤ 32767 := fun y hy => by
  rcases List.mem_append.1 hy with h1 | h1
  · exact h y h1
  · simp at h1; subst h1; exact hx
theorem small_wide {O : List Int} (h : ∀ y ∈ O, -32768 ≤ y ∧ y ≤ 32767) : ∀ y ∈ O, -9223372036854775808 ≤ y ∧ y ≤ 9223372036854775807 := fun y hy => by have := h y hy; omega
/-- One of two polynomials of a list. -/
theorem two_polys {w : World} {g : Nat} {t : TypeId} {S : Nat → Prop} {Af Ag : Option Addr} {nf cf ng cg Mf Mg k : Nat} {lf lg : List RI} (h : Blk w g t [.slice Af nf cf, .slice Ag ng cg]) (hf : PolyR w S Af nf cf lf Mf) (hg : PolyR w S Ag ng cg lg Mg) (hk : k < 2) :
    ∃ A n c l, w.cell? ⟨g, k, none⟩ = some (.slice A n c) ∧ PolyR w S A n c l (max Mf Mg) ∧ (k = 0 → zs l = zs lf ∧ n = nf) ∧ (k = 1 → zs l = zs lg ∧ n = ng) := by
  rcases (show k = 0 ∨ k = 1 by omega) with rfl | rfl
  · exact ⟨Af, nf, cf, lf, h.at_ rfl, hf.le (by omega), fun _ => ⟨rfl, rfl⟩, fun h => by omega⟩
  · exact ⟨Ag, ng, cg, lg, h.at_ rfl, hg.le (by omega), fun h => by omega, fun _ => ⟨rfl, rfl⟩⟩
theorem one_poly {w : World} {g : Nat} {t : TypeId} {S : Nat → Prop} {Af : Option Addr} {nf cf Mf k : Nat} {lf : List RI} (h : Blk w g t [.slice Af nf cf]) (hf : PolyR w S Af nf cf lf Mf) (hk : k < 1) :
    ∃ A n c l, w.cell? ⟨g, k, none⟩ = some (.slice A n c) ∧ PolyR w S A n c l Mf ∧ zs l = zs lf ∧ n = nf := by
  obtain rfl : k = 0 := by omega
  exact ⟨Af, nf, cf, lf, h.at_ rfl, hf, rfl, rfl⟩
/-- One of the three factors: f with the power xk, nothing with the power 0, f with the power -3. -/
theorem three_facs {w : World} {g : Nat} {t : TypeId} {S : Nat → Prop} {Af : Option Addr} {nf cf Mf k : Nat} {lf : List RI} {xk : Int} (h : Blk w g t [.slice Af nf cf, .int .i64 xk, .slice none 0 0, .int .i64 0, .slice Af nf cf, .int .i64 (-3)]) (hf : PolyR w S Af nf cf lf Mf) (hk : k < 3) :
    ∃ A n c l x, w.cell? ⟨g, k * 2, none⟩ = some (.slice A n c) ∧ w.cell? ⟨g, k * 2 + 1, none⟩ = some (.int .i64 x) ∧ PolyR w S A n c l Mf ∧ n ≤ nf ∧ (k = 0 → zs l = zs lf ∧ x = xk) ∧ (k ≠ 0 → -3 ≤ x ∧ x ≤ 0) := by
  rcases (show k = 0 ∨ k = 1 ∨ k = 2 by omega) with rfl | rfl | rfl
  · exact ⟨Af, nf, cf, lf, xk, h.at_ rfl, h.at_ rfl, hf, Nat.le_refl _, fun _ => ⟨rfl, rfl⟩, fun h => absurd rfl h⟩
  · exact ⟨none, 0, 0, [], 0, h.at_ rfl, h.at_ rfl, PolyR.nil, Nat.zero_le _, fun h => by omega, fun _ => by omega⟩
  · exact ⟨Af, nf, cf, lf, -3, h.at_ rfl, h.at_ rfl, hf, Nat.le_refl _, fun h => by omega, fun _ => by omega⟩
end Go.Gx
