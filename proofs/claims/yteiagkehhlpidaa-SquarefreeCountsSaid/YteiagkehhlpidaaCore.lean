/-
  Laws for walks: frames as functions, worlds as variables with monotone facts, one rule for regions that draw their order. No program in sight.
-/
import Derived.Orders
import Derived.Below
import Derived.Tactics
import Derived.Tactics2
import Derived.KernelRfl
import Derived.Deep.RegionHeld3
namespace Go.Gx
open Go.RowKit
variable {dfs : List Deferred}

/-! ### small side goals, shut where they stand -/
theorem lq {p : Prop} (h : p := by ((try simp only [List.length_map, List.length_append, List.length_replicate, List.length_set, List.length_take, List.length_drop, List.length_cons, List.length_nil]) <;> omega)) : p := h
theorem q1 {p : Prop} (h : p := by intro hh; (try dsimp only at hh); omega) : p := h
theorem q2 {p : Prop} (h : p := by intro b hb hh; (try dsimp only at hb hh); omega) : p := h
theorem q3 {p : Prop} (h : p := by intro b hlt hb hh; (try dsimp only at hb hh); omega) : p := h
theorem q4 {p : Prop} (h : p := by intro b hlt hh; (try dsimp only at hh ⊢); omega) : p := h
theorem q5 {p : Prop} (h : p := by intro b hlt hb; (try dsimp only at hb ⊢); omega) : p := h
/-! ### frames -/
def upd (e : Nat → Value) (t : Nat) (v : Value) : Nat → Value := fun s => bif Nat.beq s t then v else e s
def mkA (dfs : List Deferred) (n : Nat) (e : Nat → Value) : Act := ⟨Array.ofFn (n := n) fun i => e i.val, dfs⟩
def ev (n : Nat) (e : Nat → Value) : Operand → Value
  | .tmp t => bif Nat.blt t n then e t else undef
  | .const v => v
  | .global g => .pointer (some ⟨g, 0, none⟩)
  | .func f => .func (.func f) #[] #[]

theorem blt_true {a b : Nat} (h : a < b) : Nat.blt a b = true := by
  unfold Nat.blt; exact Nat.ble_eq_true_of_le h
theorem blt_false {a b : Nat} (h : ¬ a < b) : Nat.blt a b = false := by
  cases hb : Nat.blt a b with
  | false => rfl
  | true => exact absurd (Nat.le_of_ble_eq_true hb) h

theorem eval_mkA (n : Nat) (e : Nat → Value) : (mkA dfs n e).eval = ev n e := by
  funext x
  cases x with
  | tmp t =>
    simp only [Act.eval, ev, mkA]
    by_cases h : t < n
    · rw [blt_true h]; simp [Array.getD, h]
    · rw [blt_false h]; simp [Array.getD, h]
  | const v => rfl
  | global g => rfl
  | func f => rfl

theorem beq_ne {a b : Nat} (h : a ≠ b) : Nat.beq a b = false := by
  cases hb : Nat.beq a b with
  | false => rfl
  | true => exact absurd (Nat.eq_of_beq_eq_true hb) h
theorem beq_self (a : Nat) : Nat.beq a a = true := by simp

theorem upd_same (e : Nat → Value) (t : Nat) (v : Value) : upd e t v t = v := by simp [upd]
theorem upd_other (e : Nat → Value) {t s : Nat} (v : Value) (h : s ≠ t) : upd e t v s = e s := by
  simp only [upd, beq_ne h, cond_false]
theorem upd_id {e : Nat → Value} {t : Nat} {v : Value} (h : e t = v) : upd e t v = e := by
  funext s
  by_cases hs : s = t
  · subst hs; rw [upd_same, h]
  · rw [upd_other e v hs]

theorem sq {e : Nat → Value} {t : Nat} {v : Value} (h : e t = v) : ∃ r, e = upd r t v := ⟨e, (upd_id h).symm⟩

theorem put_mkA (n : Nat) (e : Nat → Value) (d : Nat) (v : Value) : (mkA dfs n e).put (some d) v = mkA dfs n (upd e d v) := by
  unfold Act.put mkA
  simp only [Act.mk.injEq, and_true]
  apply Array.ext
  · simp
  · intro i h1 h2
    simp at h1 h2
    by_cases hd : i = d
    · subst hd; simp [upd_same]
    · rw [Array.getElem_setIfInBounds (by simpa using h1), if_neg (Ne.symm hd)]
      simp [upd_other e v hd]
theorem put_none (a : Act) (v : Value) : a.put none v = a := rfl

theorem enter_mkA (n : Nat) (args : Array Value) (h : args.size ≤ n) :
    (⟨args ++ Array.replicate (n - args.size) undef, []⟩ : Act) = mkA [] n (fun t => args.getD t undef) := by
  unfold mkA
  simp only [Act.mk.injEq, and_true]
  apply Array.ext
  · simp; omega
  · intro i h1 h2
    simp at h1 h2
    by_cases hi : i < args.size
    · simp [Array.getElem_append_left hi, Array.getD, hi]
    · simp [Array.getElem_append_right (Nat.le_of_not_lt hi), Array.getD, hi]

theorem getD_mkA (n : Nat) (e : Nat → Value) (t : Nat) : (mkA dfs n e).tmps.getD t undef = ev n e (.tmp t) := by
  rw [← eval_mkA]; rfl

theorem defers_mkA (n : Nat) (e : Nat → Value) : (mkA dfs n e).defers = dfs := rfl
/-! ### what a world keeps -/
/-- Every block of w, but for those in G, is as it was. -/
structure Frm (G : Nat → Prop) (w w' : World) : Prop where
  os : w'.os = w.os
  tape : w'.tape = w.tape
  output : w'.output = w.output
  size : w.heap.size ≤ w'.heap.size
  block : ∀ k, k < w.heap.size → ¬ G k → w'.heap[k]? = w.heap[k]?
abbrev Ext (w w' : World) : Prop := Frm (fun _ => False) w w'

theorem Frm.refl (G : Nat → Prop) (w : World) : Frm G w w := ⟨rfl, rfl, rfl, Nat.le_refl _, fun _ _ _ => rfl⟩
theorem Frm.trans {G : Nat → Prop} {a b c : World} (h : Frm G a b) (k : Frm G b c) : Frm G a c :=
  ⟨k.os.trans h.os, k.tape.trans h.tape, k.output.trans h.output, Nat.le_trans h.size k.size,
    fun i hi hg => (k.block i (Nat.lt_of_lt_of_le hi h.size) hg).trans (h.block i hi hg)⟩
theorem Frm.mono {G G' : Nat → Prop} {w w' : World} (h : Frm G w w') (hG : ∀ b, b < w.heap.size → G b → G' b) : Frm G' w w' :=
  ⟨h.os, h.tape, h.output, h.size, fun k hk hg => h.block k hk fun g => hg (hG k hk g)⟩
theorem Frm.of_ext {G : Nat → Prop} {w w' : World} (h : Ext w w') : Frm G w w' := h.mono fun _ _ f => f.elim
theorem Frm.xr {G : Nat → Prop} {a b c : World} (h : Frm G a b) (k : Ext b c) : Frm G a c := h.trans k.of_ext
theorem Frm.rx {G : Nat → Prop} {a b c : World} (h : Ext a b) (k : Frm G b c) : Frm G a c := h.of_ext.trans k
theorem Frm.tr {G H : Nat → Prop} {a b c : World} (h : Frm G a b) (k : Frm H b c) : Frm (fun x => G x ∨ H x) a c :=
  (h.mono fun _ _ g => .inl g).trans (k.mono fun _ _ g => .inr g)
theorem Frm.below {w w' : World} (h : Ext w w') : Below w.heap.size w w' := ⟨h.os, h.tape, h.output, h.size, fun k hk => h.block k hk fun f => f⟩
theorem Frm.of_below {w w' : World} (h : Below w.heap.size w w') : Ext w w' := ⟨h.os, h.tape, h.output, h.size, fun k hk _ => h.block k hk⟩
/-- What was written lies beyond the first world: there nothing has turned. -/
theorem Frm.fresh {G : Nat → Prop} {a b c : World} (h : Ext a b) (k : Frm G b c) (hG : ∀ g, G g → a.heap.size ≤ g) : Ext a c :=
  ⟨k.os.trans h.os, k.tape.trans h.tape, k.output.trans h.output, Nat.le_trans h.size k.size,
    fun i hi hg => (k.block i (Nat.lt_of_lt_of_le hi h.size) fun g => by have := hG i g; omega).trans (h.block i hi hg)⟩
theorem Frm.trans2 {G : Nat → Prop} {B : Nat} {a b c : World} (h : Frm (B ≤ ·) a b) (k : Frm G b c) (hG : ∀ g, G g → B ≤ g) : Frm (B ≤ ·) a c :=
  h.trans (k.mono fun b _ g => hG b g)
theorem Frm.toExt {a c : World} (h : Frm (a.heap.size ≤ ·) a c) : Ext a c := h.mono fun b hb hg => by omega
theorem Frm.ofExt {B : Nat} {a c : World} (h : Ext a c) : Frm (B ≤ ·) a c := h.of_ext
theorem drew_ext (w : World) : Ext w w.drew := ⟨rfl, rfl, rfl, Nat.le_refl _, fun _ _ _ => rfl⟩
theorem Frm.cell {G : Nat → Prop} {w w' : World} (h : Frm G w w') {p : Addr} (hp : p.block < w.heap.size) (hg : ¬ G p.block) : w'.cell? p = w.cell? p :=
  World.cell?_of_block (w := w) (h.block p.block hp hg)

/-- Block g is just the cells cs of element type t, none frozen. -/
def Blk (w : World) (g : Nat) (t : TypeId) (cs : List Value) : Prop := w.heap[g]? = some (.cells cs.toArray t (0, 0))
theorem Blk.lt {w : World} {g : Nat} {t : TypeId} {cs : List Value} (h : Blk w g t cs) : g < w.heap.size := by
  rcases Nat.lt_or_ge g w.heap.size with hlt | hge
  · exact hlt
  · unfold Blk at h; rw [Array.getElem?_eq_none hge] at h; cases h
theorem Blk.frm {G : Nat → Prop} {w w' : World} {g : Nat} {t : TypeId} {cs : List Value} (h : Blk w g t cs) (k : Frm G w w') (hg : ¬ G g) : Blk w' g t cs :=
  (k.block g h.lt hg).trans h
theorem Blk.ext {w w' : World} {g : Nat} {t : TypeId} {cs : List Value} (h : Blk w g t cs) (k : Ext w w') : Blk w' g t cs := h.frm k fun f => f
theorem Blk.cell {w : World} {g : Nat} {t : TypeId} {cs : List Value} (h : Blk w g t cs) (i : Nat) : w.cell? ⟨g, i, none⟩ = cs[i]? := by
  unfold Blk at h; simp [World.cell?, h]
theorem Blk.at_ {w : World} {g : Nat} {t : TypeId} {cs : List Value} (h : Blk w g t cs) {i : Nat} {v : Value} (hv : cs[i]? = some v) : w.cell? ⟨g, i, none⟩ = some v := by
  rw [h.cell, hv]
theorem Blk.frozen {w : World} {g : Nat} {t : TypeId} {cs : List Value} (h : Blk w g t cs) (i : Nat) : w.frozen? ⟨g, i, none⟩ = false := by
  unfold Blk at h; simp [World.frozen?, h]
theorem Blk.new (w : World) (t : TypeId) (cs : List Value) : Blk (w.alloc (.cells cs.toArray t)) w.heap.size t cs := by
  show (w.heap.push _)[w.heap.size]? = _
  simp
theorem Blk.set_ {w : World} {g : Nat} {t : TypeId} {cs : List Value} (h : Blk w g t cs) (i : Nat) (u : Value) : Blk (w.setCell ⟨g, i, none⟩ u) g t (cs.set i u) := by
  unfold Blk at h ⊢
  simp [World.setCell, Array.getElem?_modify, h]
theorem alloc_ext (w : World) (o : Obj) : Ext w (w.alloc o) :=
  ⟨rfl, rfl, rfl, by simp, fun k hk _ => Below.heap_alloc _ _ _ hk⟩
theorem setCell_frm (w : World) (p : Addr) (u : Value) : Frm (· = p.block) w (w.setCell p u) :=
  ⟨rfl, rfl, rfl, by simp [World.setCell], fun k _ hg => Below.heap_setCell _ _ _ _ hg⟩
theorem Blk.inj {w : World} {g : Nat} {t t' : TypeId} {cs cs' : List Value} (h : Blk w g t cs) (h' : Blk w g t' cs') : t = t' ∧ cs = cs' := by
  unfold Blk at h h'
  rw [h] at h'
  simp at h'
  exact ⟨h'.2, h'.1⟩

/-! ### one operation that only yields a value -/
def Ev (P : Program) (n : Nat) (e : Nat → Value) (o : Oper) (w : World) (v : Value) : Prop := (execOp (ev n e) o).run P w = .ok (.value v) w

theorem ev_move {P : Program} {n : Nat} {e : Nat → Value} {w : World} {x : Operand} {d : Option Nat} {ty : TypeId} {pos : String} {af : Array Edge} {gd : Option (Nat × Bool)} {v : Value} (hx : ev n e x = v) : Ev P n e ⟨d, .move x, ty, pos, af, gd⟩ w v := by subst hx; rfl
theorem ev_assign {P : Program} {n : Nat} {e : Nat → Value} {w : World} {x : Operand} {d : Option Nat} {ty : TypeId} {pos : String} {af : Array Edge} {gd : Option (Nat × Bool)} {v : Value} (hx : ev n e x = v) : Ev P n e ⟨d, .assign x, ty, pos, af, gd⟩ w v := by subst hx; rfl
/-- A guard's value. -/
def guardOf (n : Nat) (e : Nat → Value) (ops : Array Oper) (j : Nat) : Option Bool :=
  match (ops[j]?).bind (·.dst) with
  | some t => match ev n e (.tmp t) with | .bool b => some b | _ => none
  | none => none
theorem yielded_mkA (n : Nat) (e : Nat → Value) (ops : Array Oper) (j : Nat) : yielded ops (mkA dfs n e).tmps j = guardOf n e ops j := by
  unfold yielded guardOf
  cases h : (ops[j]?).bind (·.dst) with
  | none => rfl
  | some t =>
    simp only [Option.bind_some]
    by_cases ht : t < n
    · simp [mkA, ht, ev, blt_true ht]
      cases e t <;> rfl
    · simp [mkA, ht, ev, blt_false ht, undef]

def wantedB (n : Nat) (e : Nat → Value) (ops : Array Oper) (g : Option (Nat × Bool)) : Bool :=
  match g with
  | none => true
  | some (j, want) => guardOf n e ops j == some want
theorem wanted_mkA (n : Nat) (e : Nat → Value) (ops : Array Oper) (o : Oper) : Region.wanted o (yielded ops (mkA dfs n e).tmps) = wantedB n e ops o.guard := by
  unfold Region.wanted wantedB
  cases o.guard with
  | none => rfl
  | some g => simp only [yielded_mkA]

/-- One operation, kept shut. -/
def OpW (P : Program) (o : Oper) (a : Act) (w : World) (K : Act → World → Prop) (Q : Exit → Act → World → Prop) : Prop := Oper.wp P o a w K Q
section seq
variable {P : Program} {ops : Array Oper} {Q : Exit → Act → World → Prop} {n : Nat} {e : Nat → Value} {w : World} {rest : List Oper} {o : Oper}
/-- A plain region: an operation that only yields. -/
theorem sEv {d : Nat} {v : Value} (hv : Ev P n e o w v) (hd : o.dst = some d) (hg : wantedB n e ops o.guard = true)
    (k : wpList P ops Q rest (mkA dfs n (upd e d v)) w) : wpList P ops Q (o :: rest) (mkA dfs n e) w := by
  unfold wpList
  rw [wanted_mkA, hg, if_pos rfl]
  refine .inl ?_
  unfold Oper.wp
  rw [eval_mkA, hv]
  show wpList P ops Q rest ((mkA dfs n e).put o.dst v) w
  rw [hd, put_mkA]
  exact k
/-- A plain region: an operation whose guard says no. -/
theorem sSkip {d : Nat} (hd : o.dst = some d) (hg : wantedB n e ops o.guard = false)
    (k : wpList P ops Q rest (mkA dfs n (upd e d undef)) w) : wpList P ops Q (o :: rest) (mkA dfs n e) w := by
  unfold wpList
  rw [wanted_mkA, hg, if_neg (by simp), hd, put_mkA]
  exact k
theorem sOp (hg : wantedB n e ops o.guard = true) (k : OpW P o (mkA dfs n e) w (wpList P ops Q rest) Q) : wpList P ops Q (o :: rest) (mkA dfs n e) w := by
  unfold wpList
  rw [wanted_mkA, hg, if_pos rfl]
  exact .inl k
theorem sV {op : Op} {ty : TypeId} {pos : String} {af : Array Edge} {d : Nat} {v : Value} (hv : Ev P n e ⟨some d, op, ty, pos, af, none⟩ w v) (k : wpList P ops Q rest (mkA dfs n (upd e d v)) w) :
    wpList P ops Q (⟨some d, op, ty, pos, af, none⟩ :: rest) (mkA dfs n e) w := sEv hv rfl rfl k
theorem sMi {x : Operand} {ty : TypeId} {pos : String} {af : Array Edge} {d : Nat} {k : IntKind} {a : Int} (hx : ev n e x = .int k a) (h : wpList P ops Q rest (mkA dfs n (upd e d (.int k a))) w) :
    wpList P ops Q (⟨some d, .move x, ty, pos, af, none⟩ :: rest) (mkA dfs n e) w := sEv (ev_move hx) rfl rfl h
theorem sMs {x : Operand} {ty : TypeId} {pos : String} {af : Array Edge} {d : Nat} {A : Option Addr} {m c : Nat} (hx : ev n e x = .slice A m c) (h : wpList P ops Q rest (mkA dfs n (upd e d (.slice A m c))) w) :
    wpList P ops Q (⟨some d, .move x, ty, pos, af, none⟩ :: rest) (mkA dfs n e) w := sEv (ev_move hx) rfl rfl h
theorem sMp {x : Operand} {ty : TypeId} {pos : String} {af : Array Edge} {d : Nat} {p : Addr} (hx : ev n e x = .pointer (some p)) (h : wpList P ops Q rest (mkA dfs n (upd e d (.pointer (some p)))) w) :
    wpList P ops Q (⟨some d, .move x, ty, pos, af, none⟩ :: rest) (mkA dfs n e) w := sEv (ev_move hx) rfl rfl h
theorem sMb {x : Operand} {ty : TypeId} {pos : String} {af : Array Edge} {d : Nat} {b : Bool} (hx : ev n e x = .bool b) (h : wpList P ops Q rest (mkA dfs n (upd e d (.bool b))) w) :
    wpList P ops Q (⟨some d, .move x, ty, pos, af, none⟩ :: rest) (mkA dfs n e) w := sEv (ev_move hx) rfl rfl h
theorem sMg {x : Operand} {ty : TypeId} {pos : String} {af : Array Edge} {d : Nat} {a : Array Value} (hx : ev n e x = .agg a) (h : wpList P ops Q rest (mkA dfs n (upd e d (.agg a))) w) :
    wpList P ops Q (⟨some d, .move x, ty, pos, af, none⟩ :: rest) (mkA dfs n e) w := sEv (ev_move hx) rfl rfl h
theorem sAi {x : Operand} {ty : TypeId} {pos : String} {af : Array Edge} {d : Nat} {k : IntKind} {a : Int} (hx : ev n e x = .int k a) (h : wpList P ops Q rest (mkA dfs n (upd e d (.int k a))) w) :
    wpList P ops Q (⟨some d, .assign x, ty, pos, af, none⟩ :: rest) (mkA dfs n e) w := sEv (ev_assign hx) rfl rfl h
theorem sAs {x : Operand} {ty : TypeId} {pos : String} {af : Array Edge} {d : Nat} {A : Option Addr} {m c : Nat} (hx : ev n e x = .slice A m c) (h : wpList P ops Q rest (mkA dfs n (upd e d (.slice A m c))) w) :
    wpList P ops Q (⟨some d, .assign x, ty, pos, af, none⟩ :: rest) (mkA dfs n e) w := sEv (ev_assign hx) rfl rfl h
theorem sAp {x : Operand} {ty : TypeId} {pos : String} {af : Array Edge} {d : Nat} {p : Addr} (hx : ev n e x = .pointer (some p)) (h : wpList P ops Q rest (mkA dfs n (upd e d (.pointer (some p)))) w) :
    wpList P ops Q (⟨some d, .assign x, ty, pos, af, none⟩ :: rest) (mkA dfs n e) w := sEv (ev_assign hx) rfl rfl h
theorem sAb {x : Operand} {ty : TypeId} {pos : String} {af : Array Edge} {d : Nat} {b : Bool} (hx : ev n e x = .bool b) (h : wpList P ops Q rest (mkA dfs n (upd e d (.bool b))) w) :
    wpList P ops Q (⟨some d, .assign x, ty, pos, af, none⟩ :: rest) (mkA dfs n e) w := sEv (ev_assign hx) rfl rfl h
theorem sAg {x : Operand} {ty : TypeId} {pos : String} {af : Array Edge} {d : Nat} {a : Array Value} (hx : ev n e x = .agg a) (h : wpList P ops Q rest (mkA dfs n (upd e d (.agg a))) w) :
    wpList P ops Q (⟨some d, .assign x, ty, pos, af, none⟩ :: rest) (mkA dfs n e) w := sEv (ev_assign hx) rfl rfl h
theorem sO {op : Op} {ty : TypeId} {pos : String} {af : Array Edge} {d : Option Nat} (k : OpW P ⟨d, op, ty, pos, af, none⟩ (mkA dfs n e) w (wpList P ops Q rest) Q) :
    wpList P ops Q (⟨d, op, ty, pos, af, none⟩ :: rest) (mkA dfs n e) w := sOp rfl k
theorem sDone {n : Nat} {e : Nat → Value} {w : World} (h : Q .normal (mkA dfs n e) w) : wpList P ops Q [] (mkA dfs n e) w := h
end seq

/-! ### regions that draw -/
section draw
variable {P : Program} {ops : Array Oper} {Q : Exit → Act → World → Prop} {md : Region.Mode} {R : World → World → Prop}

def YieldsR (P : Program) (ops : Array Oper) (R : World → World → Prop) (w : World) (o : Oper) (v : Value) (a : Act) : Prop :=
  (Region.wanted o (yielded ops a.tmps) = true ∧ ∀ w', R w w' → (execOp a.eval o).run P w' = .ok (.value v) w') ∨
  (Region.wanted o (yielded ops a.tmps) = false ∧ v = undef)

theorem YieldsR.later (ht : ∀ a b c, R a b → R b c → R a c) {w w' : World} {o : Oper} {v : Value} {a : Act} (h : YieldsR P ops R w o v a) (hr : R w w') : YieldsR P ops R w' o v a :=
  h.imp (fun ⟨hw, hv⟩ => ⟨hw, fun w2 h2 => hv w2 (ht _ _ _ hr h2)⟩) id

theorem YieldsR.of_same {w : World} {o : Oper} {v : Value} {a a' : Act} (hy : YieldsR P ops R w o v a) (he : execOp a'.eval o = execOp a.eval o)
    (hw : Region.wanted o (yielded ops a'.tmps) = Region.wanted o (yielded ops a.tmps)) : YieldsR P ops R w o v a' := by
  unfold YieldsR at *
  rw [he, hw]
  exact hy

theorem YieldsR.wpOp (hr : ∀ a, R a a) {i : Nat} {o : Oper} {v : Value} {a : Act} {w : World} (hi : ops[i]? = some o) (hy : YieldsR P ops R w o v a)
    {K : Act → World → Prop} (h : K (a.put o.dst v) w) : wpOp P ops Q i K a w := by
  unfold Go.wpOp
  simp only [hi]
  rcases hy with ⟨hw, hv⟩ | ⟨hw, rfl⟩
  · simp only [hw, if_true, Oper.wp, hv w (hr w), Oper.upon]; exact .inl h
  · simp only [hw, Bool.false_eq_true, if_false]; exact h

def wpAnyR (P : Program) (md : Region.Mode) (ops : Array Oper) (Q : Exit → Act → World → Prop) (R : World → World → Prop) : Nat → Array Bool → Act → World → Prop
  | 0, listed, a, w => Region.ready md ops listed = [] ∧ Q .normal a w
  | fuel + 1, listed, a, w =>
    (Region.ready md ops listed = [] → Q .normal a w) ∧
    ∀ i ∈ Region.ready md ops listed, wpOp P ops Q i (fun a' w' => R w w' ∧ wpAnyR P md ops Q R fuel (listed.setIfInBounds i true) a' w') a w

theorem wpAny_of_R : ∀ (fuel : Nat) (listed : Array Bool) (a : Act) (w : World), wpAnyR P md ops Q R fuel listed a w → wpAny P md ops Q fuel listed a w
  | 0, _, _, _, h => h
  | fuel + 1, _, _, _, h => ⟨h.1, fun i hi => wpOp_mono (fun a' w' h' => wpAny_of_R fuel _ a' w' h'.2) (h.2 i hi)⟩

theorem wpOp_putR {j : Nat} {oi oj : Oper} {v : Value} (hj : ops[j]? = some oj) (hap : oi.apart ops oj = true)
    (hsi : ∀ cs b, oi.op ≠ .select cs b) (hsj : ∀ cs b, oj.op ≠ .select cs b)
    (hQ : ∀ c a w, Q (.panic c) (a.put oi.dst v) w → Q (.panic c) a w) {K : Act → World → Prop} {a : Act} {w : World}
    (hy : YieldsR P ops R w oi v a) (h : wpOp P ops Q j K (a.put oi.dst v) w) :
    wpOp P ops Q j (fun a' w' => YieldsR P ops R w oi v a' ∧ K (a'.put oi.dst v) w') a w := by
  obtain ⟨h1, h2, h3⟩ := Oper.apart_spec hap
  have keep : ∀ (a : Act), YieldsR P ops R w oi v a → ∀ u, YieldsR P ops R w oi v (a.put oj.dst u) := fun a hy u =>
    hy.of_same (execOp_put oi hsi a oj.dst u h3) (wanted_put oi a oj.dst u h3)
  have keepD : ∀ d, YieldsR P ops R w oi v { a with defers := d :: a.defers } := fun d => hy.of_same rfl rfl
  unfold wpOp at *
  simp only [hj] at *
  rw [wanted_put oj a oi.dst v h1] at h
  split
  · rename_i hw
    simp only [hw, if_true] at h
    rcases h with h | ⟨hasks, hlets⟩
    case inr => exact .inr ⟨by unfold Oper.asks at *; rw [execOp_put oj hsj a oi.dst v h1] at hasks; exact hasks, hlets⟩
    refine .inl ?_
    unfold Oper.wp at *
    rw [execOp_put oj hsj a oi.dst v h1] at h
    generalize (execOp a.eval oj).run P w = r at *
    cases r with
    | ok n w' =>
      cases n <;> simp only [Oper.upon] at h ⊢
      case value u => exact ⟨keep a hy u, by rw [← Act.put_comm a v u h2]; exact h⟩
      case skip => exact ⟨keep a hy _, by rw [← Act.put_comm a v undef h2]; exact h⟩
      case defer d =>
        refine ⟨keep _ (keepD d) _, ?_⟩
        rw [← Act.put_comm _ v undef h2, ← Act.put_defers]
        exact h
      case enter f args =>
        refine Calls.mono h fun e w'' he => ?_
        cases e with
        | returned u => exact ⟨keep a hy u, by rw [← Act.put_comm a v u h2]; exact he⟩
        | panicked c => exact hQ _ _ _ he
        | outgrown => exact he
      case row row args => exact Rows.mono h fun u w'' he => ⟨keep a hy u, by rw [← Act.put_comm a v u h2]; exact he⟩
    | halt x w' =>
      cases x <;> simp only [Oper.upon] at h ⊢
      case panic u => exact hQ _ _ _ h
  · rename_i hw
    simp only [hw] at h
    exact ⟨keep a hy _, by rw [← Act.put_comm a v undef h2]; exact h⟩

theorem wpAnyR_first (hr : ∀ a, R a a) (ht : ∀ a b c, R a b → R b c → R a c) {i : Nat} {oi : Oper} {v : Value} (hi : ops[i]? = some oi)
    (hsel : ∀ (j : Nat) (o : Oper) cs b, ops[j]? = some o → o.op ≠ .select cs b)
    (hQ : ∀ c a w, Q (.panic c) (a.put oi.dst v) w → Q (.panic c) a w) :
    ∀ (fuel : Nat) (listed : Array Bool) (a : Act) (w : World),
      (∀ j oj, ops[j]? = some oj → j ≠ i → listed.getD j true = false → (∀ e ∈ oj.after, Region.binds md e = true → e.on ≠ i) → oi.apart ops oj = true) →
      i ∈ Region.ready md ops listed → YieldsR P ops R w oi v a →
      wpAnyR P md ops Q R fuel (listed.setIfInBounds i true) (a.put oi.dst v) w → wpAnyR P md ops Q R (fuel + 1) listed a w := by
  intro fuel
  induction fuel with
  | zero =>
    intro listed a w _ hrd hy H
    refine ⟨fun h => (by rw [h] at hrd; cases hrd), fun j hj => ?_⟩
    by_cases hji : j = i
    · subst hji; exact hy.wpOp hr hi ⟨hr w, H⟩
    · have := ready_mono hj hji
      rw [H.1] at this
      cases this
  | succ fuel ih =>
    intro listed a w hfree hrd hy H
    refine ⟨fun h => (by rw [h] at hrd; cases hrd), fun j hj => ?_⟩
    by_cases hji : j = i
    · subst hji; exact hy.wpOp hr hi ⟨hr w, H⟩
    · have h1 := H.2 j (ready_mono hj hji)
      obtain ⟨hjun, oj, hoj, hall⟩ := mem_ready.1 hj
      have hnot : ∀ e ∈ oj.after, Region.binds md e = true → e.on ≠ i := fun e he hb heq => by
        have h1 := hall e he hb
        have h0 := (mem_ready.1 hrd).1
        rw [heq] at h1
        rcases Nat.lt_or_ge i listed.size with h' | h'
        · simp [h'] at h0 h1; rw [h0] at h1; cases h1
        · simp [Array.getElem?_eq_none h'] at h1
      have h2 := wpOp_putR hoj (hfree j oj hoj hji hjun hnot) (fun cs b => hsel i oi cs b hi) (fun cs b => hsel j oj cs b hoj) hQ hy h1
      have hfree' : ∀ k ok, ops[k]? = some ok → k ≠ i → (listed.setIfInBounds j true).getD k true = false →
          (∀ e ∈ ok.after, Region.binds md e = true → e.on ≠ i) → oi.apart ops ok = true := fun k ok hk hki hun hno => by
        refine hfree k ok hk hki ?_ hno
        by_cases hjk : j = k
        · subst hjk; exact hjun
        · rw [getD_set_ne true hjk] at hun; exact hun
      refine wpOp_mono (fun a' w' h3 => ⟨h3.2.1, ih (listed.setIfInBounds j true) a' w' hfree' (ready_mono hrd (Ne.symm hji)) (h3.1.later ht h3.2.1) ?_⟩) h2
      rw [Array.setIfInBounds_comm _ _ hji]
      exact h3.2.2

/-- The relation that every operation of a drawn region keeps: blocks outside G stay. -/
theorem frm_refl (G : Nat → Prop) : ∀ a, Frm G a a := Frm.refl G
theorem frm_trans (G : Nat → Prop) : ∀ a b c, Frm G a b → Frm G b c → Frm G a c := fun _ _ _ => Frm.trans

/-- The walk of a drawn region: G, how many are left, which have come up. -/
abbrev Dr (P : Program) (ops : Array Oper) (Q : Exit → Act → World → Prop) (G : Nat → Prop) (fuel : Nat) (listed : Array Bool) (a : Act) (w : World) : Prop :=
  wpAnyR P .any ops (NoPanic Q) (Frm G) fuel listed a w

theorem dBegin {id : Nat} {a : Act} {w : World} (G : Nat → Prop) (hm : P.follows .mixedOrders = true)
    (h : ∀ w', Ext w w' → w'.heap.size = w.heap.size → Dr P ops Q G ops.size (Array.replicate ops.size false) a w') : (Code.region id ops true).wp P Q a w :=
  wp_region_noPanic (wp_region_any hm (wpAny_of_R _ _ _ _ (h w.drew (drew_ext w) rfl)))

theorem dEv {G : Nat → Prop} {n : Nat} {e : Nat → Value} {w : World} {fuel : Nat} {listed : Array Bool} (i : Nat) {o : Oper} {d : Nat} {v : Value}
    (ho : ops[i]? = some o) (hv : ∀ w', Frm G w w' → Ev P n e o w' v) (hd : o.dst = some d) (hg : wantedB n e ops o.guard = true)
    (hc : (Region.noSelect ops && Region.free .any ops listed i && (Region.ready .any ops listed).contains i) = true)
    (k : Dr P ops Q G fuel (listed.setIfInBounds i true) (mkA dfs n (upd e d v)) w) : Dr P ops Q G (fuel + 1) listed (mkA dfs n e) w := by
  simp only [Bool.and_eq_true] at hc
  refine wpAnyR_first (frm_refl G) (frm_trans G) ho (Region.noSelect_spec hc.1.1) (fun _ _ _ h => h) fuel listed _ w (Region.free_spec ho hc.1.2) (by simpa using hc.2) (v := v) (.inl ⟨by rw [wanted_mkA]; exact hg, fun w' hr => by rw [eval_mkA]; exact hv w' hr⟩) ?_
  rw [hd, put_mkA]
  exact k

theorem dV {G : Nat → Prop} {n : Nat} {e : Nat → Value} {w : World} {fuel : Nat} {listed : Array Bool} (i : Nat) {op : Op} {ty : TypeId} {pos : String} {af : Array Edge} {d : Nat} {v : Value}
    (ho : ops[i]? = some ⟨some d, op, ty, pos, af, none⟩) (hv : ∀ w', Frm G w w' → Ev P n e ⟨some d, op, ty, pos, af, none⟩ w' v)
    (k : Dr P ops Q G fuel (listed.setIfInBounds i true) (mkA dfs n (upd e d v)) w)
    (hc : (Region.noSelect ops && Region.free .any ops listed i && (Region.ready .any ops listed).contains i) = true := by kernel_rfl) : Dr P ops Q G (fuel + 1) listed (mkA dfs n e) w :=
  dEv i ho hv rfl rfl hc k
theorem dMi {G : Nat → Prop} {n : Nat} {e : Nat → Value} {w : World} {fuel : Nat} {listed : Array Bool} (i : Nat) {x : Operand} {ty : TypeId} {pos : String} {af : Array Edge} {d : Nat} {k : IntKind} {a : Int}
    (ho : ops[i]? = some ⟨some d, .move x, ty, pos, af, none⟩) (hx : ev n e x = .int k a) (h : Dr P ops Q G fuel (listed.setIfInBounds i true) (mkA dfs n (upd e d (.int k a))) w)
    (hc : (Region.noSelect ops && Region.free .any ops listed i && (Region.ready .any ops listed).contains i) = true := by kernel_rfl) : Dr P ops Q G (fuel + 1) listed (mkA dfs n e) w :=
  dEv i ho (fun _ _ => ev_move hx) rfl rfl hc h
theorem dMs {G : Nat → Prop} {n : Nat} {e : Nat → Value} {w : World} {fuel : Nat} {listed : Array Bool} (i : Nat) {x : Operand} {ty : TypeId} {pos : String} {af : Array Edge} {d : Nat} {A : Option Addr} {m c : Nat}
    (ho : ops[i]? = some ⟨some d, .move x, ty, pos, af, none⟩) (hx : ev n e x = .slice A m c) (h : Dr P ops Q G fuel (listed.setIfInBounds i true) (mkA dfs n (upd e d (.slice A m c))) w)
    (hc : (Region.noSelect ops && Region.free .any ops listed i && (Region.ready .any ops listed).contains i) = true := by kernel_rfl) : Dr P ops Q G (fuel + 1) listed (mkA dfs n e) w :=
  dEv i ho (fun _ _ => ev_move hx) rfl rfl hc h
theorem dMp {G : Nat → Prop} {n : Nat} {e : Nat → Value} {w : World} {fuel : Nat} {listed : Array Bool} (i : Nat) {x : Operand} {ty : TypeId} {pos : String} {af : Array Edge} {d : Nat} {p : Addr}
    (ho : ops[i]? = some ⟨some d, .move x, ty, pos, af, none⟩) (hx : ev n e x = .pointer (some p)) (h : Dr P ops Q G fuel (listed.setIfInBounds i true) (mkA dfs n (upd e d (.pointer (some p)))) w)
    (hc : (Region.noSelect ops && Region.free .any ops listed i && (Region.ready .any ops listed).contains i) = true := by kernel_rfl) : Dr P ops Q G (fuel + 1) listed (mkA dfs n e) w :=
  dEv i ho (fun _ _ => ev_move hx) rfl rfl hc h
theorem dMb {G : Nat → Prop} {n : Nat} {e : Nat → Value} {w : World} {fuel : Nat} {listed : Array Bool} (i : Nat) {x : Operand} {ty : TypeId} {pos : String} {af : Array Edge} {d : Nat} {b : Bool}
    (ho : ops[i]? = some ⟨some d, .move x, ty, pos, af, none⟩) (hx : ev n e x = .bool b) (h : Dr P ops Q G fuel (listed.setIfInBounds i true) (mkA dfs n (upd e d (.bool b))) w)
    (hc : (Region.noSelect ops && Region.free .any ops listed i && (Region.ready .any ops listed).contains i) = true := by kernel_rfl) : Dr P ops Q G (fuel + 1) listed (mkA dfs n e) w :=
  dEv i ho (fun _ _ => ev_move hx) rfl rfl hc h
theorem dMg {G : Nat → Prop} {n : Nat} {e : Nat → Value} {w : World} {fuel : Nat} {listed : Array Bool} (i : Nat) {x : Operand} {ty : TypeId} {pos : String} {af : Array Edge} {d : Nat} {a : Array Value}
    (ho : ops[i]? = some ⟨some d, .move x, ty, pos, af, none⟩) (hx : ev n e x = .agg a) (h : Dr P ops Q G fuel (listed.setIfInBounds i true) (mkA dfs n (upd e d (.agg a))) w)
    (hc : (Region.noSelect ops && Region.free .any ops listed i && (Region.ready .any ops listed).contains i) = true := by kernel_rfl) : Dr P ops Q G (fuel + 1) listed (mkA dfs n e) w :=
  dEv i ho (fun _ _ => ev_move hx) rfl rfl hc h
theorem dAi {G : Nat → Prop} {n : Nat} {e : Nat → Value} {w : World} {fuel : Nat} {listed : Array Bool} (i : Nat) {x : Operand} {ty : TypeId} {pos : String} {af : Array Edge} {d : Nat} {k : IntKind} {a : Int}
    (ho : ops[i]? = some ⟨some d, .assign x, ty, pos, af, none⟩) (hx : ev n e x = .int k a) (h : Dr P ops Q G fuel (listed.setIfInBounds i true) (mkA dfs n (upd e d (.int k a))) w)
    (hc : (Region.noSelect ops && Region.free .any ops listed i && (Region.ready .any ops listed).contains i) = true := by kernel_rfl) : Dr P ops Q G (fuel + 1) listed (mkA dfs n e) w :=
  dEv i ho (fun _ _ => ev_assign hx) rfl rfl hc h
theorem dAs {G : Nat → Prop} {n : Nat} {e : Nat → Value} {w : World} {fuel : Nat} {listed : Array Bool} (i : Nat) {x : Operand} {ty : TypeId} {pos : String} {af : Array Edge} {d : Nat} {A : Option Addr} {m c : Nat}
    (ho : ops[i]? = some ⟨some d, .assign x, ty, pos, af, none⟩) (hx : ev n e x = .slice A m c) (h : Dr P ops Q G fuel (listed.setIfInBounds i true) (mkA dfs n (upd e d (.slice A m c))) w)
    (hc : (Region.noSelect ops && Region.free .any ops listed i && (Region.ready .any ops listed).contains i) = true := by kernel_rfl) : Dr P ops Q G (fuel + 1) listed (mkA dfs n e) w :=
  dEv i ho (fun _ _ => ev_assign hx) rfl rfl hc h
theorem dAp {G : Nat → Prop} {n : Nat} {e : Nat → Value} {w : World} {fuel : Nat} {listed : Array Bool} (i : Nat) {x : Operand} {ty : TypeId} {pos : String} {af : Array Edge} {d : Nat} {p : Addr}
    (ho : ops[i]? = some ⟨some d, .assign x, ty, pos, af, none⟩) (hx : ev n e x = .pointer (some p)) (h : Dr P ops Q G fuel (listed.setIfInBounds i true) (mkA dfs n (upd e d (.pointer (some p)))) w)
    (hc : (Region.noSelect ops && Region.free .any ops listed i && (Region.ready .any ops listed).contains i) = true := by kernel_rfl) : Dr P ops Q G (fuel + 1) listed (mkA dfs n e) w :=
  dEv i ho (fun _ _ => ev_assign hx) rfl rfl hc h
theorem dAb {G : Nat → Prop} {n : Nat} {e : Nat → Value} {w : World} {fuel : Nat} {listed : Array Bool} (i : Nat) {x : Operand} {ty : TypeId} {pos : String} {af : Array Edge} {d : Nat} {b : Bool}
    (ho : ops[i]? = some ⟨some d, .assign x, ty, pos, af, none⟩) (hx : ev n e x = .bool b) (h : Dr P ops Q G fuel (listed.setIfInBounds i true) (mkA dfs n (upd e d (.bool b))) w)
    (hc : (Region.noSelect ops && Region.free .any ops listed i && (Region.ready .any ops listed).contains i) = true := by kernel_rfl) : Dr P ops Q G (fuel + 1) listed (mkA dfs n e) w :=
  dEv i ho (fun _ _ => ev_assign hx) rfl rfl hc h
theorem dAg {G : Nat → Prop} {n : Nat} {e : Nat → Value} {w : World} {fuel : Nat} {listed : Array Bool} (i : Nat) {x : Operand} {ty : TypeId} {pos : String} {af : Array Edge} {d : Nat} {a : Array Value}
    (ho : ops[i]? = some ⟨some d, .assign x, ty, pos, af, none⟩) (hx : ev n e x = .agg a) (h : Dr P ops Q G fuel (listed.setIfInBounds i true) (mkA dfs n (upd e d (.agg a))) w)
    (hc : (Region.noSelect ops && Region.free .any ops listed i && (Region.ready .any ops listed).contains i) = true := by kernel_rfl) : Dr P ops Q G (fuel + 1) listed (mkA dfs n e) w :=
  dEv i ho (fun _ _ => ev_assign hx) rfl rfl hc h

theorem dSkip {G : Nat → Prop} {n : Nat} {e : Nat → Value} {w : World} {fuel : Nat} {listed : Array Bool} (i : Nat) {o : Oper} {d : Nat}
    (ho : ops[i]? = some o) (hd : o.dst = some d) (hg : wantedB n e ops o.guard = false)
    (hc : (Region.noSelect ops && Region.free .any ops listed i && (Region.ready .any ops listed).contains i) = true)
    (k : Dr P ops Q G fuel (listed.setIfInBounds i true) (mkA dfs n (upd e d undef)) w) : Dr P ops Q G (fuel + 1) listed (mkA dfs n e) w := by
  simp only [Bool.and_eq_true] at hc
  refine wpAnyR_first (frm_refl G) (frm_trans G) ho (Region.noSelect_spec hc.1.1) (fun _ _ _ h => h) fuel listed _ w (Region.free_spec ho hc.1.2) (by simpa using hc.2) (v := undef) (.inr ⟨by rw [wanted_mkA]; exact hg, rfl⟩) ?_
  rw [hd, put_mkA]
  exact k

theorem dOp {G : Nat → Prop} {n : Nat} {e : Nat → Value} {w : World} {fuel : Nat} {listed : Array Bool} (i : Nat) {o : Oper}
    (ho : ops[i]? = some o) (hg : wantedB n e ops o.guard = true) (hc : Region.ready .any ops listed = [i])
    (k : OpW P o (mkA dfs n e) w (fun a' w' => Frm G w w' ∧ Dr P ops Q G fuel (listed.setIfInBounds i true) a' w') (NoPanic Q)) : Dr P ops Q G (fuel + 1) listed (mkA dfs n e) w := by
  refine ⟨fun h => (by rw [h] at hc; cases hc), fun j hj => ?_⟩
  rw [hc] at hj
  obtain rfl : j = i := by simpa using hj
  unfold wpOp
  simp only [ho]
  rw [wanted_mkA, hg, if_pos rfl]
  exact .inl k

/-- Two may come up. -/
theorem dTwo {G : Nat → Prop} {a : Act} {w : World} {fuel : Nat} {listed : Array Bool} (i j : Nat) (hc : Region.ready .any ops listed = [i, j])
    (hi : wpOp P ops (NoPanic Q) i (fun a' w' => Frm G w w' ∧ Dr P ops Q G fuel (listed.setIfInBounds i true) a' w') a w)
    (hj : wpOp P ops (NoPanic Q) j (fun a' w' => Frm G w w' ∧ Dr P ops Q G fuel (listed.setIfInBounds j true) a' w') a w) : Dr P ops Q G (fuel + 1) listed a w := by
  refine ⟨fun h => (by rw [h] at hc; cases hc), fun k hk => ?_⟩
  rw [hc] at hk
  simp only [List.mem_cons, List.not_mem_nil, or_false] at hk
  rcases hk with rfl | rfl
  · exact hi
  · exact hj
theorem dThree {G : Nat → Prop} {a : Act} {w : World} {fuel : Nat} {listed : Array Bool} (i j l : Nat) (hc : Region.ready .any ops listed = [i, j, l])
    (hi : wpOp P ops (NoPanic Q) i (fun a' w' => Frm G w w' ∧ Dr P ops Q G fuel (listed.setIfInBounds i true) a' w') a w)
    (hj : wpOp P ops (NoPanic Q) j (fun a' w' => Frm G w w' ∧ Dr P ops Q G fuel (listed.setIfInBounds j true) a' w') a w)
    (hl : wpOp P ops (NoPanic Q) l (fun a' w' => Frm G w w' ∧ Dr P ops Q G fuel (listed.setIfInBounds l true) a' w') a w) : Dr P ops Q G (fuel + 1) listed a w := by
  refine ⟨fun h => (by rw [h] at hc; cases hc), fun k hk => ?_⟩
  rw [hc] at hk
  simp only [List.mem_cons, List.not_mem_nil, or_false] at hk
  rcases hk with rfl | rfl | rfl
  · exact hi
  · exact hj
  · exact hl
theorem dWp {K : Act → World → Prop} {n : Nat} {e : Nat → Value} {w : World} {i : Nat} {o : Oper} (ho : ops[i]? = some o) (hg : wantedB n e ops o.guard = true)
    (k : OpW P o (mkA dfs n e) w K (NoPanic Q)) : wpOp P ops (NoPanic Q) i K (mkA dfs n e) w := by
  unfold wpOp
  simp only [ho]
  rw [wanted_mkA, hg, if_pos rfl]
  exact .inl k

theorem dDone {G : Nat → Prop} {a : Act} {w : World} {fuel : Nat} {listed : Array Bool} (hc : Region.ready .any ops listed = []) (h : Q .normal a w) : Dr P ops Q G fuel listed a w := by
  cases fuel with
  | zero => exact ⟨hc, h⟩
  | succ fuel => exact ⟨fun _ => h, fun j hj => by rw [hc] at hj; cases hj⟩
end draw
attribute [irreducible] mkA OpW
end Go.Gx
