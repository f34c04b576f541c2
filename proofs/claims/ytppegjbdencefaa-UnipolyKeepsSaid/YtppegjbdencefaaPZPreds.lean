/-
  Lists of integers of the reference; such lists that grow. No program in sight.
-/
import Derived.Test.YtppegjbdencefaaZPreds
namespace Go.Gx
open Go.RowKit
structure RZ where
  s : Int
  A : Option Addr
  n : Nat
  c : Nat
  z : Int
def cellsZ (l : List RZ) : List Value := l.flatMap fun r => [.int .i64 r.s, .slice r.A r.n r.c]
theorem cellsZ_len (l : List RZ) : (cellsZ l).length = l.length * 2 := by
  induction l with
  | nil => rfl
  | cons r l ih => simp only [cellsZ, List.flatMap_cons, List.length_append, List.length_cons] at ih ⊢; rw [ih]; simp; omega
theorem cellsZ_append (a b : List RZ) : cellsZ (a ++ b) = cellsZ a ++ cellsZ b := by simp [cellsZ]
theorem cellsZ_cons (r : RZ) (l : List RZ) : cellsZ (r :: l) = .int .i64 r.s :: .slice r.A r.n r.c :: cellsZ l := by simp [cellsZ]
theorem cellsZ_take (l : List RZ) : ∀ k, cellsZ (l.take k) = (cellsZ l).take (k * 2) := by
  induction l with
  | nil => intro k; simp [cellsZ]
  | cons r l ih =>
    intro k
    cases k with
    | zero => simp [cellsZ]
    | succ k => rw [List.take_succ_cons, cellsZ_cons, cellsZ_cons, ih, show (k + 1) * 2 = k * 2 + 1 + 1 by omega]; simp
theorem cellsZ_get {l : List RZ} : ∀ {i : Nat} {r : RZ}, l[i]? = some r → (cellsZ l)[i * 2]? = some (.int .i64 r.s) ∧ (cellsZ l)[i * 2 + 1]? = some (.slice r.A r.n r.c) := by
  induction l with
  | nil => intro i r h; simp at h
  | cons x l ih =>
    intro i r h
    rw [cellsZ_cons]
    cases i with
    | zero => simp at h; subst h; simp
    | succ i =>
      simp at h
      have := ih h
      rw [show (i + 1) * 2 = i * 2 + 1 + 1 by omega]
      simpa using this
def AllZ (w : World) (S : Nat → Prop) (M : Nat) (l : List RZ) : Prop := ∀ r ∈ l, ZR w S r.s r.A r.n r.c r.z ∧ r.n ≤ M
def PZR (w : World) (S : Nat → Prop) (A : Option Addr) (n c : Nat) (f : List Int) (M : Nat) : Prop := ∃ l : List RZ, Rd w S A n c 2 (cellsZ l) ∧ AllZ w S M l ∧ l.map RZ.z = f
section
variable {w w' : World} {S S' G : Nat → Prop} {A : Option Addr} {n c M M' : Nat} {f : List Int}
theorem PZR.frmB (h : PZR w S A n c f M) (k : Frm G w w') (hd : ∀ b, b < w.heap.size → S b → ¬ G b) : PZR w' S A n c f M := by
  obtain ⟨l, h1, h2, h3⟩ := h
  exact ⟨l, h1.frmB k hd, fun r hr => ⟨(h2 r hr).1.frmB k hd, (h2 r hr).2⟩, h3⟩
theorem PZR.ext (h : PZR w S A n c f M) (k : Ext w w') : PZR w' S A n c f M := h.frmB k fun _ _ _ g => g
theorem PZR.sub (h : PZR w S A n c f M) (hs : ∀ b, b < w.heap.size → S b → S' b) : PZR w S' A n c f M := by
  obtain ⟨l, h1, h2, h3⟩ := h
  exact ⟨l, h1.sub hs, fun r hr => ⟨(h2 r hr).1.sub hs, (h2 r hr).2⟩, h3⟩
theorem PZR.low (h : PZR w S A n c f M) : PZR w (· < w.heap.size) A n c f M := h.sub fun _ hb _ => hb
theorem PZR.le (h : PZR w S A n c f M) (hm : M ≤ M') : PZR w S A n c f M' := by
  obtain ⟨l, h1, h2, h3⟩ := h
  exact ⟨l, h1, fun r hr => ⟨(h2 r hr).1, Nat.le_trans (h2 r hr).2 hm⟩, h3⟩
theorem PZR.nil : PZR w S none 0 0 [] M := ⟨[], Rd.nil, fun r hr => (by cases hr), rfl⟩
theorem PZR.len (h : PZR w S A n c f M) : f.length = n := by
  obtain ⟨l, h1, h2, h3⟩ := h
  have := h1.1; rw [cellsZ_len] at this; rw [← h3]; simp; omega
theorem PZR.cap (h : PZR w S A n c f M) : n ≤ c := by obtain ⟨l, h1, _⟩ := h; exact h1.2.1
theorem PZR.max (h : PZR w S A n c f M) : c ≤ 9223372036854775807 := by obtain ⟨l, h1, _⟩ := h; exact h1.2.2.1
theorem PZR.lkm (h : PZR w S A n c f M) : f.length = n ∧ n ≤ c ∧ c ≤ 9223372036854775807 := ⟨h.len, h.cap, h.max⟩
theorem PZR.base (h : PZR w S A n c f M) (hn : 0 < n) : ∃ b off, A = some ⟨b, off, none⟩ := by obtain ⟨l, h1, _⟩ := h; exact h1.base hn
theorem PZR.take {m : Nat} (h : PZR w S A n c f M) (hm : m ≤ n) : PZR w S A m c (f.take m) M := by
  obtain ⟨l, h1, h2, h3⟩ := h
  refine ⟨l.take m, ?_, fun r hr => h2 r (List.mem_of_mem_take hr), by rw [← h3, List.map_take]⟩
  have := h1.take hm
  rw [← cellsZ_take] at this
  exact this
theorem PZR.at_ {b off i : Nat} (h : PZR w S (some ⟨b, off, none⟩) n c f M) (hi : i < n) :
    ∃ s A' n' c' z', w.cell? ⟨b, off + i * 2, none⟩ = some (.int .i64 s) ∧ w.cell? ⟨b, off + i * 2 + 1, none⟩ = some (.slice A' n' c') ∧ ZR w S s A' n' c' z' ∧ n' ≤ M ∧ S b ∧ b < w.heap.size ∧ z' = co f i := by
  have hlen := h.len
  obtain ⟨l, h1, h2, h3⟩ := h
  have hl : i < l.length := by rw [← h3] at hlen; simp at hlen; omega
  obtain ⟨r, hr⟩ : ∃ r, l[i]? = some r := ⟨_, List.getElem?_eq_getElem hl⟩
  have hc := cellsZ_get hr
  have hm := h2 _ (List.mem_of_getElem? hr)
  obtain ⟨b', off', e, hS, hb, _⟩ := h1.2.2.2 (by omega)
  injection e with e
  injection e with e1 e2
  subst e1 e2
  exact ⟨r.s, r.A, r.n, r.c, r.z, h1.cell hc.1, h1.cell hc.2, hm.1, hm.2, hS, hb, by rw [← h3]; simp [List.getD, List.getElem?_map, hr]⟩
/-- A literal of one element. -/
theorem PZR.one {g : Nat} {t : TypeId} {s : Int} {A' : Option Addr} {n' c' : Nat} {z : Int} (h : Blk w g t [.int .i64 s, .slice A' n' c']) (hz : ZR w S s A' n' c' z) (hM : n' ≤ M) : PZR w (fun _ => True) (some ⟨g, 0, none⟩) 1 1 [z] M :=
  ⟨[⟨s, A', n', c', z⟩], Rd.of_blk h trivial rfl (Nat.le_refl _) (by decide), fun r hr => by simp at hr; subst hr; exact ⟨hz.sub fun _ _ _ => trivial, hM⟩, rfl⟩
theorem PZR.two {g : Nat} {t : TypeId} {s s2 : Int} {A' A2 : Option Addr} {n' c' n2 c2 : Nat} {z z2 : Int} {S2 : Nat → Prop} (h : Blk w g t [.int .i64 s, .slice A' n' c', .int .i64 s2, .slice A2 n2 c2]) (hz : ZR w S s A' n' c' z) (hz2 : ZR w S2 s2 A2 n2 c2 z2) (hM : n' ≤ M) (hM2 : n2 ≤ M) :
    PZR w (fun _ => True) (some ⟨g, 0, none⟩) 2 2 [z, z2] M :=
  ⟨[⟨s, A', n', c', z⟩, ⟨s2, A2, n2, c2, z2⟩], Rd.of_blk h trivial rfl (Nat.le_refl _) (by decide), fun r hr => by
    simp at hr
    rcases hr with h1 | h1
    · subst h1; exact ⟨hz.sub fun _ _ _ => trivial, hM⟩
    · subst h1; exact ⟨hz2.sub fun _ _ _ => trivial, hM2⟩, rfl⟩
end
/-! ### lists that grow -/
def OwnZ (T : Nat → Prop) (w : World) (B : Nat) (el : TypeId) (A : Option Addr) (n c : Nat) (f : List Int) (M : Nat) : Prop := ∃ l : List RZ, Own w B el 2 A n c (cellsZ l) ∧ AllZ w (fun b => notIn A b ∧ T b) M l ∧ l.map RZ.z = f
section
variable {T : Nat → Prop} {w w' : World} {B : Nat} {el : TypeId} {S G : Nat → Prop} {A : Option Addr} {n c M : Nat} {f : List Int}
theorem OwnZ.nil : OwnZ T w B el none 0 0 [] M := ⟨[], Own.nil, fun r hr => (by cases hr), rfl⟩
theorem OwnZ.ext (h : OwnZ T w B el A n c f M) (k : Ext w w') : OwnZ T w' B el A n c f M := by
  obtain ⟨l, h1, h2, h3⟩ := h
  exact ⟨l, h1.ext k, fun r hr => ⟨(h2 r hr).1.ext k, (h2 r hr).2⟩, h3⟩
theorem OwnZ.lt (h : OwnZ T w B el A n c f M) : ∀ a, A = some a → B ≤ a.block ∧ a.block < w.heap.size := by obtain ⟨l, h1, _⟩ := h; exact h1.lt
theorem OwnZ.cap (h : OwnZ T w B el A n c f M) : n ≤ c := by obtain ⟨l, h1, _⟩ := h; exact h1.cap
theorem OwnZ.max (h : OwnZ T w B el A n c f M) : c ≤ 9223372036854775807 := by obtain ⟨l, h1, _⟩ := h; exact h1.max
theorem OwnZ.len (h : OwnZ T w B el A n c f M) : f.length = n := by
  obtain ⟨l, h1, h2, h3⟩ := h
  have := h1.1; rw [cellsZ_len] at this; rw [← h3]; simp; omega
theorem OwnZ.lkm (h : OwnZ T w B el A n c f M) : f.length = n ∧ n ≤ c ∧ c ≤ 9223372036854775807 := ⟨h.len, h.cap, h.max⟩
theorem OwnZ.pzrF (h : OwnZ (fun b => B ≤ b) w B el A n c f M) : PZR w (fun b => B ≤ b) A n c f M := by
  obtain ⟨l, h1, h2, h3⟩ := h
  exact ⟨l, h1.rd, fun r hr => ⟨(h2 r hr).1.sub fun _ _ h => h.2, (h2 r hr).2⟩, h3⟩
theorem OwnZ.pzr (h : OwnZ T w B el A n c f M) : PZR w (fun _ => True) A n c f M := by
  obtain ⟨l, h1, h2, h3⟩ := h
  exact ⟨l, h1.rd.sub fun _ _ _ => trivial, fun r hr => ⟨(h2 r hr).1.sub fun _ _ _ => trivial, (h2 r hr).2⟩, h3⟩
end
section
variable {P : Program} {n : Nat} {e : Nat → Value} {w : World} {K : Act → World → Prop} {Q : Exit → Act → World → Prop} {ty : TypeId} {pos : String} {af : Array Edge} {gd : Option (Nat × Bool)}
theorem oAppZ {T : Nat → Prop} {d : Nat} {s x : Operand} {t el bt : TypeId} {zv : Value} {bytes B m c g M : Nat} {A : Option Addr} {f : List Int} {S : Nat → Prop} {sz : Int} {A' : Option Addr} {n' c' : Nat} {z : Int} (ht : P.underlying t = some (.slice el))
    (hi : (P.info? el).map (fun i => (i.zero, i.size, i.bytes)) = some (some zv, 2, bytes)) (hzv : zv.cells.size = 2) (hs : ev n e s = .slice A m c) (hx : ev n e x = .slice (some ⟨g, 0, none⟩) 1 1) (hO : OwnZ T w B el A m c f M) (hb : Blk w g bt [.int .i64 sz, .slice A' n' c'])
    (hz : ZR w S sz A' n' c' z) (hM : n' ≤ M) (hS : ∀ b, b < w.heap.size → S b → notIn A b) (hT : ∀ b, b < w.heap.size → S b → T b) (hm : (m + 1) * bytes ≤ 140737488355328) (hm2 : m + 1 ≤ 9223372036854775807) (hB : B ≤ w.heap.size)
    (kk : ∀ A2 c2 w', OwnZ T w' B el A2 (m + 1) c2 (f ++ [z]) M → Frm (fun b => B ≤ b) w w' → K (mkA n (upd e d (.slice A2 (m + 1) c2))) w') :
    OpW P ⟨some d, .call { callee := .builtin .append, args := #[s, x], argTypes := #[t, t] }, ty, pos, af, gd⟩ (mkA n e) w K Q := by
  obtain ⟨l, h1, h2, h3⟩ := hO
  refine oApp ht hi hzv (by decide) hs hx h1 hb rfl rfl hm hm2 hB fun A2 c2 w' hO' hF hF2 hnew => kk A2 c2 w' ?_ hF
  have hk := hF2 (notIn A) fun _ h => h
  have key : ∀ (S : Nat → Prop) (s : Int) (A3 : Option Addr) (n3 c3 : Nat) (z3 : Int), (∀ b, b < w.heap.size → S b → notIn A b) → (∀ b, b < w.heap.size → S b → T b) → ZR w S s A3 n3 c3 z3 → ZR w' (fun b => notIn A2 b ∧ T b) s A3 n3 c3 z3 := by
    intro S s A3 n3 c3 z3 hS hT h
    have h4 := (h.sub (S' := fun b => (notIn A b ∧ b < w.heap.size) ∧ T b) fun b hb hs => ⟨⟨hS b hb hs, hb⟩, hT b hb hs⟩).frmB hk fun b _ hs hn => hn hs.1.1
    refine h4.sub fun b _ hb => ⟨fun a ha => ?_, hb.2⟩
    rcases hnew a ha with h5 | h5
    · exact hb.1.1 a h5
    · have := hb.1.2; omega
  refine ⟨l ++ [⟨sz, A', n', c', z⟩], ?_, fun r hr => ?_, by simp [h3]⟩
  · rw [cellsZ_append]; exact hO'
  · rcases List.mem_append.1 hr with h5 | h5
    · exact ⟨key _ _ _ _ _ _ (fun _ _ h => h.1) (fun _ _ h => h.2) (h2 r h5).1, (h2 r h5).2⟩
    · simp at h5; subst h5; exact ⟨key _ _ _ _ _ _ hS hT hz, hM⟩
end
end Go.Gx
namespace Go.Gx
open Go.RowKit
theorem run_append_nothing {P : Program} {w : World} {B : Nat} {t ty el : TypeId} {i : TypeInfo} {size : Nat} (ht : P.underlying t = some (.slice el)) (hi : P.info? el = some i) {v : Value} {n : Nat} {xs : List Value} (hown : w.ownsRow B el size v n xs) (c2 : Nat) :
    (Builtin.append_ #[t, t] ty #[v, .slice none 0 c2]).run P w = .ok v w := by
  rcases hown.2 with ⟨rfl, rfl⟩ | ⟨g, cap, cur, rfl, _, _, hnc, _⟩
  · simp [Builtin.append_, run_underlying ht, sizeOf, typeInfo, hi, Builtin.lenOf, Builtin.firstCells]
  · simp [Builtin.append_, run_underlying ht, sizeOf, typeInfo, hi, Builtin.lenOf, Builtin.firstCells, hnc, storeCells]
section
variable {P : Program} {n : Nat} {e : Nat → Value} {w : World} {K : Act → World → Prop} {Q : Exit → Act → World → Prop} {ty : TypeId} {pos : String} {af : Array Edge} {gd : Option (Nat × Bool)}
theorem cellsZ_one (l : List RZ) : ∀ u ∈ cellsZ l, u.oneCell' = true := by
  induction l with
  | nil => intro u hu; simp [cellsZ] at hu
  | cons r l ih =>
    intro u hu
    rw [cellsZ_cons] at hu
    simp only [List.mem_cons] at hu
    rcases hu with h | h | h
    · subst h; rfl
    · subst h; rfl
    · exact ih u h
theorem oAppZS {T : Nat → Prop} {d : Nat} {s x : Operand} {t el : TypeId} {zv : Value} {bytes B m c M l c2 : Nat} {A A2 : Option Addr} {f f2 : List Int} {S : Nat → Prop} (ht : P.underlying t = some (.slice el))
    (hi : (P.info? el).map (fun i => (i.zero, i.size, i.bytes)) = some (some zv, 2, bytes)) (hzv : zv.cells.size = 2) (hs : ev n e s = .slice A m c) (hx : ev n e x = .slice A2 l c2) (hO : OwnZ T w B el A m c f M) (h2 : PZR w S A2 l c2 f2 M)
    (hS : ∀ b, b < w.heap.size → S b → notIn A b) (hm : (m + l) * bytes ≤ 140737488355328) (hm2 : m + l ≤ 9223372036854775807) (hB : B ≤ w.heap.size)
    (kk : ∀ A3 n3 c3 w', n3 = m + l → PZR w' (fun _ => True) A3 n3 c3 (f ++ f2) M → Frm (fun b => B ≤ b) w w' → K (mkA n (upd e d (.slice A3 n3 c3))) w') :
    OpW P ⟨some d, .call { callee := .builtin .append, args := #[s, x], argTypes := #[t, t] }, ty, pos, af, gd⟩ (mkA n e) w K Q := by
  have hO0 := hO
  obtain ⟨i, hi', hz', hsz, hby⟩ := info_parts hi
  obtain ⟨l1, h1, ha1, hf1⟩ := hO
  obtain ⟨l2, hr2, ha2, hf2⟩ := h2
  cases A2 with
  | none =>
    have hl0 : l = 0 := by
      rcases Nat.eq_zero_or_pos l with h | h
      · exact h
      · obtain ⟨b, o, e, _⟩ := hr2.2.2.2 h; cases e
    subst hl0
    have : l2 = [] := by have := hr2.1; rw [cellsZ_len] at this; exact List.eq_nil_of_length_eq_zero (by omega)
    subst this
    subst hf2
    have hr := run_append_nothing (P := P) (w := w) (ty := ty) ht hi' h1 c2
    unfold OpW Oper.wp
    rw [eval_mkA]
    simp only [execOp, resolve, invoke, builtin, Sem.run_bind, Sem.run_pure, Result.andThen_ok, List.map_toArray, List.map_cons, List.map_nil, hs, hx, hr, Oper.upon, put_mkA]
    exact kk A m c w rfl (by simpa using hO0.pzr) (Frm.refl _ _)
  | some a =>
    have hnews : ∀ (j : Nat) u, (cellsZ l2)[j]? = some u → w.cell? (a.add j) = some u := by
      intro j u hj
      have hl0 : 0 < l := by
        rcases Nat.eq_zero_or_pos l with h | h
        · have := hr2.1; rw [h, Nat.zero_mul] at this; rw [List.eq_nil_of_length_eq_zero this] at hj; cases hj
        · exact h
      obtain ⟨b, o, ea, _, _, hc⟩ := hr2.2.2.2 hl0
      injection ea with ea
      subst ea
      rw [addr_add]
      exact hc j u hj
    refine oAppend (cellsZ l2) ht hi hzv (by decide) hs hx h1 hr2.1 hnews (cellsZ_one l2) hm2 hm hB fun v' w' ho hF => ?_
    have hF1 : Frm (fun b => B ≤ b) w w' := hF.mono fun b _ hb => (World.ownsRow.lt h1 b hb).1
    have hF2 : Frm (fun b => ¬ notIn A b) w w' := hF.mono fun b _ hb hn => by
      cases A with
      | none => simp [Value.ownBlock] at hb
      | some a' => simp [Value.ownBlock] at hb; exact hn a' rfl hb
    obtain ⟨A3, n3, c3, rfl, rfl⟩ : ∃ A3 n3 c3, v' = .slice A3 n3 c3 ∧ n3 = m + l := by
      rcases ho.2 with ⟨hv, h0⟩ | ⟨g', cap, cur, hv, _⟩
      · exact ⟨none, 0, 0, hv, h0.symm⟩
      · exact ⟨_, _, _, hv, rfl⟩
    refine kk A3 _ c3 w' rfl ⟨l1 ++ l2, ?_, fun r hr => ?_, by rw [List.map_append, hf1, hf2]⟩ hF1
    · rw [cellsZ_append]
      exact (Own.rd (B := B) (e := el) ho).sub fun _ _ _ => trivial
    · rcases List.mem_append.1 hr with h5 | h5
      · exact ⟨((ha1 r h5).1.frmB hF2 fun b _ hs hn => hn hs.1).sub fun _ _ _ => trivial, (ha1 r h5).2⟩
      · exact ⟨((ha2 r h5).1.frmB hF2 fun b hb hs hn => hn (hS b hb hs)).sub fun _ _ _ => trivial, (ha2 r h5).2⟩
end
end Go.Gx
