/-
  The laws of the walks and the plain laws of numbers and polynomials, part 1: Core, Laws, Float, Preds, NatMath, Laws2, NatMath2, IntMath, VbMath, Laws3, DivMath, DivMath2, RatMath, Laws4, PolyPreds, PolyMath, PolyMath2, EvMath, SqMath, SqMath2, Det, Subres, EndMath, InvMath, QPoly, Gauss, CountMath, Norm, Bound, GcdMath, ValMath, GcdPreds, SqfMath, QuoMath, YunMath, RefPreds, FacPreds, PolysPreds, ZPreds, PZPreds, IntPreds, ListPreds, ModMath, ModSym, HenMath, HenPreds, StepMath, MulIMath, ModMath2, ModDiv, ModGcd, LiftMath, ModPreds, ModApp, GenPreds, StructPreds, MapPreds, TreePreds, SparseMath, PointPreds.
-/
import Derived.Orders
import Derived.Below
import Derived.Tactics
import Derived.Tactics2
import Derived.KernelRfl
import Derived.Deep.RegionHeld3
import Derived.Laws.OwnMore
import Derived.Laws.CopyRow
import Derived.Laws.Cells
import Derived.Laws.Entries
import Derived.Laws.Small
import Derived.OwnWalk
import Derived.Laws.Strings
import Derived.Scope
import Derived.Laws.AppendOwn
import Derived.ChangeKeysEq
import Derived.WideKeyRuns
/-
  Laws for walks: frames as functions, worlds as variables with monotone facts, one rule for regions that draw their order. No program in sight.
-/
namespace Go.Gx
open Go.RowKit
variable {dfs : List Deferred}
theorem lq {p : Prop} (h : p := by ((try simp only [List.length_map, List.length_append, List.length_replicate, List.length_set, List.length_take, List.length_drop, List.length_cons, List.length_nil]) <;> omega)) : p := h
theorem q1 {p : Prop} (h : p := by intro hh; (try dsimp only at hh); omega) : p := h
theorem q2 {p : Prop} (h : p := by intro b hb hh; (try dsimp only at hb hh); omega) : p := h
theorem q3 {p : Prop} (h : p := by intro b hlt hb hh; (try dsimp only at hb hh); omega) : p := h
theorem q4 {p : Prop} (h : p := by intro b hlt hh; (try dsimp only at hh ⊢); omega) : p := h
theorem q5 {p : Prop} (h : p := by intro b hlt hb; (try dsimp only at hb ⊢); omega) : p := h
def upd (e : Nat → Value) (t : Nat) (v : Value) : Nat → Value := fun s => bif Nat.beq s t then v else e s
def mkA (dfs : List Deferred) (n : Nat) (e : Nat → Value) : Act := ⟨Array.ofFn (n := n) fun i => e i.val, dfs⟩
def ev (n : Nat) (e : Nat → Value) : Operand → Value
  | .tmp t => bif Nat.blt t n then e t else undef
  | .const v => v
  | .global g => .pointer (some ⟨g, 0, none⟩)
  | .func f => .func (.func f) #[] #[]
theorem blt_true {a b : Nat} (h : a < b) : Nat.blt a b = true := by
  unfold Nat.blt; exact Nat.ble_eq_true_of_le h
theorem blt_false {a b : Nat} (h : ¬ a < b) : Nat.blt a b = false := by
  cases hb : Nat.blt a b with
  | false => rfl
  | true => exact absurd (Nat.le_of_ble_eq_true hb) h
theorem eval_mkA (n : Nat) (e : Nat → Value) : (mkA dfs n e).eval = ev n e := by
  funext x
  cases x with
  | tmp t =>
    simp only [Act.eval, ev, mkA]
    by_cases h : t < n
    · rw [blt_true h]; simp [Array.getD, h]
    · rw [blt_false h]; simp [Array.getD, h]
  | const v => rfl
  | global g => rfl
  | func f => rfl
theorem beq_ne {a b : Nat} (h : a ≠ b) : Nat.beq a b = false := by
  cases hb : Nat.beq a b with
  | false => rfl
  | true => exact absurd (Nat.eq_of_beq_eq_true hb) h
theorem upd_same (e : Nat → Value) (t : Nat) (v : Value) : upd e t v t = v := by simp [upd]
theorem upd_other (e : Nat → Value) {t s : Nat} (v : Value) (h : s ≠ t) : upd e t v s = e s := by
  simp only [upd, beq_ne h, cond_false]
theorem upd_id {e : Nat → Value} {t : Nat} {v : Value} (h : e t = v) : upd e t v = e := by
  funext s
  by_cases hs : s = t
  · subst hs; rw [upd_same, h]
  · rw [upd_other e v hs]
theorem sq {e : Nat → Value} {t : Nat} {v : Value} (h : e t = v) : ∃ r, e = upd r t v := ⟨e, (upd_id h).symm⟩
theorem put_mkA (n : Nat) (e : Nat → Value) (d : Nat) (v : Value) : (mkA dfs n e).put (some d) v = mkA dfs n (upd e d v) := by
  unfold Act.put mkA
  simp only [Act.mk.injEq, and_true]
  apply Array.ext
  · simp
  · intro i h1 h2
    simp at h1 h2
    by_cases hd : i = d
    · subst hd; simp [upd_same]
    · rw [Array.getElem_setIfInBounds (by simpa using h1), if_neg (Ne.symm hd)]
      simp [upd_other e v hd]
theorem put_none (a : Act) (v : Value) : a.put none v = a := rfl
theorem enter_mkA (n : Nat) (args : Array Value) (h : args.size ≤ n) :
    (⟨args ++ Array.replicate (n - args.size) undef, []⟩ : Act) = mkA [] n (fun t => args.getD t undef) := by
  unfold mkA
  simp only [Act.mk.injEq, and_true]
  apply Array.ext
  · simp; omega
  · intro i h1 h2
    simp at h1 h2
    by_cases hi : i < args.size
    · simp [Array.getElem_append_left hi, Array.getD, hi]
    · simp [Array.getElem_append_right (Nat.le_of_not_lt hi), Array.getD, hi]
theorem getD_mkA (n : Nat) (e : Nat → Value) (t : Nat) : (mkA dfs n e).tmps.getD t undef = ev n e (.tmp t) := by
  rw [← eval_mkA]; rfl
theorem defers_mkA (n : Nat) (e : Nat → Value) : (mkA dfs n e).defers = dfs := rfl
structure Frm (G : Nat → Prop) (w w' : World) : Prop where
  os : w'.os = w.os
  tape : w'.tape = w.tape
  output : w'.output = w.output
  size : w.heap.size ≤ w'.heap.size
  drawn : w.drawn ≤ w'.drawn
  block : ∀ k, k < w.heap.size → ¬ G k → w'.heap[k]? = w.heap[k]?
abbrev Ext (w w' : World) : Prop := Frm (fun _ => False) w w'
theorem Frm.refl (G : Nat → Prop) (w : World) : Frm G w w := ⟨rfl, rfl, rfl, Nat.le_refl _, Nat.le_refl _, fun _ _ _ => rfl⟩
theorem Frm.trans {G : Nat → Prop} {a b c : World} (h : Frm G a b) (k : Frm G b c) : Frm G a c :=
  ⟨k.os.trans h.os, k.tape.trans h.tape, k.output.trans h.output, Nat.le_trans h.size k.size, Nat.le_trans h.drawn k.drawn,
    fun i hi hg => (k.block i (Nat.lt_of_lt_of_le hi h.size) hg).trans (h.block i hi hg)⟩
theorem Frm.mono {G G' : Nat → Prop} {w w' : World} (h : Frm G w w') (hG : ∀ b, b < w.heap.size → G b → G' b) : Frm G' w w' :=
  ⟨h.os, h.tape, h.output, h.size, h.drawn, fun k hk hg => h.block k hk fun g => hg (hG k hk g)⟩
theorem Frm.of_ext {G : Nat → Prop} {w w' : World} (h : Ext w w') : Frm G w w' := h.mono fun _ _ f => f.elim
theorem Frm.xr {G : Nat → Prop} {a b c : World} (h : Frm G a b) (k : Ext b c) : Frm G a c := h.trans k.of_ext
theorem Frm.rx {G : Nat → Prop} {a b c : World} (h : Ext a b) (k : Frm G b c) : Frm G a c := h.of_ext.trans k
theorem Frm.tr {G H : Nat → Prop} {a b c : World} (h : Frm G a b) (k : Frm H b c) : Frm (fun x => G x ∨ H x) a c :=
  (h.mono fun _ _ g => .inl g).trans (k.mono fun _ _ g => .inr g)
theorem Frm.below {w w' : World} (h : Ext w w') : Below w.heap.size w w' := ⟨h.os, h.tape, h.output, h.size, fun k hk => h.block k hk fun f => f⟩
theorem drew_ext (w : World) : Ext w w.drew := ⟨rfl, rfl, rfl, Nat.le_refl _, Nat.le_succ _, fun _ _ _ => rfl⟩
theorem Frm.cell {G : Nat → Prop} {w w' : World} (h : Frm G w w') {p : Addr} (hp : p.block < w.heap.size) (hg : ¬ G p.block) : w'.cell? p = w.cell? p :=
  World.cell?_of_block (w := w) (h.block p.block hp hg)
def Blk (w : World) (g : Nat) (t : TypeId) (cs : List Value) : Prop := w.heap[g]? = some (.cells cs.toArray t (0, 0))
theorem Blk.lt {w : World} {g : Nat} {t : TypeId} {cs : List Value} (h : Blk w g t cs) : g < w.heap.size := by
  rcases Nat.lt_or_ge g w.heap.size with hlt | hge
  · exact hlt
  · unfold Blk at h; rw [Array.getElem?_eq_none hge] at h; cases h
theorem Blk.frm {G : Nat → Prop} {w w' : World} {g : Nat} {t : TypeId} {cs : List Value} (h : Blk w g t cs) (k : Frm G w w') (hg : ¬ G g) : Blk w' g t cs :=
  (k.block g h.lt hg).trans h
theorem Blk.ext {w w' : World} {g : Nat} {t : TypeId} {cs : List Value} (h : Blk w g t cs) (k : Ext w w') : Blk w' g t cs := h.frm k fun f => f
theorem Blk.cell {w : World} {g : Nat} {t : TypeId} {cs : List Value} (h : Blk w g t cs) (i : Nat) : w.cell? ⟨g, i, none⟩ = cs[i]? := by
  unfold Blk at h; simp [World.cell?, h]
theorem Blk.at_ {w : World} {g : Nat} {t : TypeId} {cs : List Value} (h : Blk w g t cs) {i : Nat} {v : Value} (hv : cs[i]? = some v) : w.cell? ⟨g, i, none⟩ = some v := by
  rw [h.cell, hv]
theorem Blk.new (w : World) (t : TypeId) (cs : List Value) : Blk (w.alloc (.cells cs.toArray t)) w.heap.size t cs := by
  show (w.heap.push _)[w.heap.size]? = _
  simp
theorem alloc_ext (w : World) (o : Obj) : Ext w (w.alloc o) :=
  ⟨rfl, rfl, rfl, by simp, Nat.le_refl _, fun k hk _ => Below.heap_alloc _ _ _ hk⟩
def Ev (P : Program) (n : Nat) (e : Nat → Value) (o : Oper) (w : World) (v : Value) : Prop := (execOp (ev n e) o).run P w = .ok (.value v) w
theorem ev_move {P : Program} {n : Nat} {e : Nat → Value} {w : World} {x : Operand} {d : Option Nat} {ty : TypeId} {pos : String} {af : Array Edge} {gd : Option (Nat × Bool)} {v : Value} (hx : ev n e x = v) : Ev P n e ⟨d, .move x, ty, pos, af, gd⟩ w v := by subst hx; rfl
theorem ev_assign {P : Program} {n : Nat} {e : Nat → Value} {w : World} {x : Operand} {d : Option Nat} {ty : TypeId} {pos : String} {af : Array Edge} {gd : Option (Nat × Bool)} {v : Value} (hx : ev n e x = v) : Ev P n e ⟨d, .assign x, ty, pos, af, gd⟩ w v := by subst hx; rfl
def guardOf (n : Nat) (e : Nat → Value) (ops : Array Oper) (j : Nat) : Option Bool :=
  match (ops[j]?).bind (·.dst) with
  | some t => match ev n e (.tmp t) with | .bool b => some b | _ => none
  | none => none
theorem yielded_mkA (n : Nat) (e : Nat → Value) (ops : Array Oper) (j : Nat) : yielded ops (mkA dfs n e).tmps j = guardOf n e ops j := by
  unfold yielded guardOf
  cases h : (ops[j]?).bind (·.dst) with
  | none => rfl
  | some t =>
    simp only [Option.bind_some]
    by_cases ht : t < n
    · simp [mkA, ht, ev, blt_true ht]
      cases e t <;> rfl
    · simp [mkA, ht, ev, blt_false ht, undef]
def wantedB (n : Nat) (e : Nat → Value) (ops : Array Oper) (g : Option (Nat × Bool)) : Bool :=
  match g with
  | none => true
  | some (j, want) => guardOf n e ops j == some want
theorem wanted_mkA (n : Nat) (e : Nat → Value) (ops : Array Oper) (o : Oper) : Region.wanted o (yielded ops (mkA dfs n e).tmps) = wantedB n e ops o.guard := by
  unfold Region.wanted wantedB
  cases o.guard with
  | none => rfl
  | some g => simp only [yielded_mkA]
def OpW (P : Program) (o : Oper) (a : Act) (w : World) (K : Act → World → Prop) (Q : Exit → Act → World → Prop) : Prop := Oper.wp P o a w K Q
section seq
variable {P : Program} {ops : Array Oper} {Q : Exit → Act → World → Prop} {n : Nat} {e : Nat → Value} {w : World} {rest : List Oper} {o : Oper}
theorem sEv {d : Nat} {v : Value} (hv : Ev P n e o w v) (hd : o.dst = some d) (hg : wantedB n e ops o.guard = true)
    (k : wpList P ops Q rest (mkA dfs n (upd e d v)) w) : wpList P ops Q (o :: rest) (mkA dfs n e) w := by
  unfold wpList
  rw [wanted_mkA, hg, if_pos rfl]
  refine .inl ?_
  unfold Oper.wp
  rw [eval_mkA, hv]
  show wpList P ops Q rest ((mkA dfs n e).put o.dst v) w
  rw [hd, put_mkA]
  exact k
theorem sSkip {d : Nat} (hd : o.dst = some d) (hg : wantedB n e ops o.guard = false)
    (k : wpList P ops Q rest (mkA dfs n (upd e d undef)) w) : wpList P ops Q (o :: rest) (mkA dfs n e) w := by
  unfold wpList
  rw [wanted_mkA, hg, if_neg (by simp), hd, put_mkA]
  exact k
theorem sOp (hg : wantedB n e ops o.guard = true) (k : OpW P o (mkA dfs n e) w (wpList P ops Q rest) Q) : wpList P ops Q (o :: rest) (mkA dfs n e) w := by
  unfold wpList
  rw [wanted_mkA, hg, if_pos rfl]
  exact .inl k
theorem sV {op : Op} {ty : TypeId} {pos : String} {af : Array Edge} {d : Nat} {v : Value} (hv : Ev P n e ⟨some d, op, ty, pos, af, none⟩ w v) (k : wpList P ops Q rest (mkA dfs n (upd e d v)) w) :
    wpList P ops Q (⟨some d, op, ty, pos, af, none⟩ :: rest) (mkA dfs n e) w := sEv hv rfl rfl k
theorem sMi {x : Operand} {ty : TypeId} {pos : String} {af : Array Edge} {d : Nat} {k : IntKind} {a : Int} (hx : ev n e x = .int k a) (h : wpList P ops Q rest (mkA dfs n (upd e d (.int k a))) w) :
    wpList P ops Q (⟨some d, .move x, ty, pos, af, none⟩ :: rest) (mkA dfs n e) w := sEv (ev_move hx) rfl rfl h
theorem sMs {x : Operand} {ty : TypeId} {pos : String} {af : Array Edge} {d : Nat} {A : Option Addr} {m c : Nat} (hx : ev n e x = .slice A m c) (h : wpList P ops Q rest (mkA dfs n (upd e d (.slice A m c))) w) :
    wpList P ops Q (⟨some d, .move x, ty, pos, af, none⟩ :: rest) (mkA dfs n e) w := sEv (ev_move hx) rfl rfl h
theorem sMp {x : Operand} {ty : TypeId} {pos : String} {af : Array Edge} {d : Nat} {p : Addr} (hx : ev n e x = .pointer (some p)) (h : wpList P ops Q rest (mkA dfs n (upd e d (.pointer (some p)))) w) :
    wpList P ops Q (⟨some d, .move x, ty, pos, af, none⟩ :: rest) (mkA dfs n e) w := sEv (ev_move hx) rfl rfl h
theorem sMb {x : Operand} {ty : TypeId} {pos : String} {af : Array Edge} {d : Nat} {b : Bool} (hx : ev n e x = .bool b) (h : wpList P ops Q rest (mkA dfs n (upd e d (.bool b))) w) :
    wpList P ops Q (⟨some d, .move x, ty, pos, af, none⟩ :: rest) (mkA dfs n e) w := sEv (ev_move hx) rfl rfl h
theorem sAi {x : Operand} {ty : TypeId} {pos : String} {af : Array Edge} {d : Nat} {k : IntKind} {a : Int} (hx : ev n e x = .int k a) (h : wpList P ops Q rest (mkA dfs n (upd e d (.int k a))) w) :
    wpList P ops Q (⟨some d, .assign x, ty, pos, af, none⟩ :: rest) (mkA dfs n e) w := sEv (ev_assign hx) rfl rfl h
theorem sAs {x : Operand} {ty : TypeId} {pos : String} {af : Array Edge} {d : Nat} {A : Option Addr} {m c : Nat} (hx : ev n e x = .slice A m c) (h : wpList P ops Q rest (mkA dfs n (upd e d (.slice A m c))) w) :
    wpList P ops Q (⟨some d, .assign x, ty, pos, af, none⟩ :: rest) (mkA dfs n e) w := sEv (ev_assign hx) rfl rfl h
theorem sAp {x : Operand} {ty : TypeId} {pos : String} {af : Array Edge} {d : Nat} {p : Addr} (hx : ev n e x = .pointer (some p)) (h : wpList P ops Q rest (mkA dfs n (upd e d (.pointer (some p)))) w) :
    wpList P ops Q (⟨some d, .assign x, ty, pos, af, none⟩ :: rest) (mkA dfs n e) w := sEv (ev_assign hx) rfl rfl h
theorem sAb {x : Operand} {ty : TypeId} {pos : String} {af : Array Edge} {d : Nat} {b : Bool} (hx : ev n e x = .bool b) (h : wpList P ops Q rest (mkA dfs n (upd e d (.bool b))) w) :
    wpList P ops Q (⟨some d, .assign x, ty, pos, af, none⟩ :: rest) (mkA dfs n e) w := sEv (ev_assign hx) rfl rfl h
theorem sO {op : Op} {ty : TypeId} {pos : String} {af : Array Edge} {d : Option Nat} (k : OpW P ⟨d, op, ty, pos, af, none⟩ (mkA dfs n e) w (wpList P ops Q rest) Q) :
    wpList P ops Q (⟨d, op, ty, pos, af, none⟩ :: rest) (mkA dfs n e) w := sOp rfl k
theorem sDone {n : Nat} {e : Nat → Value} {w : World} (h : Q .normal (mkA dfs n e) w) : wpList P ops Q [] (mkA dfs n e) w := h
end seq
section draw
variable {P : Program} {ops : Array Oper} {Q : Exit → Act → World → Prop} {md : Region.Mode} {R : World → World → Prop}
def YieldsR (P : Program) (ops : Array Oper) (R : World → World → Prop) (w : World) (o : Oper) (v : Value) (a : Act) : Prop :=
  (Region.wanted o (yielded ops a.tmps) = true ∧ ∀ w', R w w' → (execOp a.eval o).run P w' = .ok (.value v) w') ∨
  (Region.wanted o (yielded ops a.tmps) = false ∧ v = undef)
theorem YieldsR.later (ht : ∀ a b c, R a b → R b c → R a c) {w w' : World} {o : Oper} {v : Value} {a : Act} (h : YieldsR P ops R w o v a) (hr : R w w') : YieldsR P ops R w' o v a :=
  h.imp (fun ⟨hw, hv⟩ => ⟨hw, fun w2 h2 => hv w2 (ht _ _ _ hr h2)⟩) id
theorem YieldsR.of_same {w : World} {o : Oper} {v : Value} {a a' : Act} (hy : YieldsR P ops R w o v a) (he : execOp a'.eval o = execOp a.eval o)
    (hw : Region.wanted o (yielded ops a'.tmps) = Region.wanted o (yielded ops a.tmps)) : YieldsR P ops R w o v a' := by
  unfold YieldsR at *
  rw [he, hw]
  exact hy
theorem YieldsR.wpOp (hr : ∀ a, R a a) {i : Nat} {o : Oper} {v : Value} {a : Act} {w : World} (hi : ops[i]? = some o) (hy : YieldsR P ops R w o v a)
    {K : Act → World → Prop} (h : K (a.put o.dst v) w) : wpOp P ops Q i K a w := by
  unfold Go.wpOp
  simp only [hi]
  rcases hy with ⟨hw, hv⟩ | ⟨hw, rfl⟩
  · simp only [hw, if_true, Oper.wp, hv w (hr w), Oper.upon]; exact .inl h
  · simp only [hw, Bool.false_eq_true, if_false]; exact h
def wpAnyR (P : Program) (md : Region.Mode) (ops : Array Oper) (Q : Exit → Act → World → Prop) (R : World → World → Prop) : Nat → Array Bool → Act → World → Prop
  | 0, listed, a, w => Region.ready md ops listed = [] ∧ Q .normal a w
  | fuel + 1, listed, a, w =>
    (Region.ready md ops listed = [] → Q .normal a w) ∧
    ∀ i ∈ Region.ready md ops listed, wpOp P ops Q i (fun a' w' => R w w' ∧ wpAnyR P md ops Q R fuel (listed.setIfInBounds i true) a' w') a w
theorem wpAny_of_R : ∀ (fuel : Nat) (listed : Array Bool) (a : Act) (w : World), wpAnyR P md ops Q R fuel listed a w → wpAny P md ops Q fuel listed a w
  | 0, _, _, _, h => h
  | fuel + 1, _, _, _, h => ⟨h.1, fun i hi => wpOp_mono (fun a' w' h' => wpAny_of_R fuel _ a' w' h'.2) (h.2 i hi)⟩
theorem wpOp_putR {j : Nat} {oi oj : Oper} {v : Value} (hj : ops[j]? = some oj) (hap : oi.apart ops oj = true)
    (hsi : ∀ cs b, oi.op ≠ .select cs b) (hsj : ∀ cs b, oj.op ≠ .select cs b)
    (hQ : ∀ c a w, Q (.panic c) (a.put oi.dst v) w → Q (.panic c) a w) {K : Act → World → Prop} {a : Act} {w : World}
    (hy : YieldsR P ops R w oi v a) (h : wpOp P ops Q j K (a.put oi.dst v) w) :
    wpOp P ops Q j (fun a' w' => YieldsR P ops R w oi v a' ∧ K (a'.put oi.dst v) w') a w := by
  obtain ⟨h1, h2, h3⟩ := Oper.apart_spec hap
  have keep : ∀ (a : Act), YieldsR P ops R w oi v a → ∀ u, YieldsR P ops R w oi v (a.put oj.dst u) := fun a hy u =>
    hy.of_same (execOp_put oi hsi a oj.dst u h3) (wanted_put oi a oj.dst u h3)
  have keepD : ∀ d, YieldsR P ops R w oi v { a with defers := d :: a.defers } := fun d => hy.of_same rfl rfl
  unfold wpOp at *
  simp only [hj] at *
  rw [wanted_put oj a oi.dst v h1] at h
  split
  · rename_i hw
    simp only [hw, if_true] at h
    rcases h with h | ⟨hasks, hlets⟩
    case inr => exact .inr ⟨by unfold Oper.asks at *; rw [execOp_put oj hsj a oi.dst v h1] at hasks; exact hasks, hlets⟩
    refine .inl ?_
    unfold Oper.wp at *
    rw [execOp_put oj hsj a oi.dst v h1] at h
    generalize (execOp a.eval oj).run P w = r at *
    cases r with
    | ok n w' =>
      cases n <;> simp only [Oper.upon] at h ⊢
      case value u => exact ⟨keep a hy u, by rw [← Act.put_comm a v u h2]; exact h⟩
      case skip => exact ⟨keep a hy _, by rw [← Act.put_comm a v undef h2]; exact h⟩
      case defer d =>
        refine ⟨keep _ (keepD d) _, ?_⟩
        rw [← Act.put_comm _ v undef h2, ← Act.put_defers]
        exact h
      case enter f args =>
        refine Calls.mono h fun e w'' he => ?_
        cases e with
        | returned u => exact ⟨keep a hy u, by rw [← Act.put_comm a v u h2]; exact he⟩
        | panicked c => exact hQ _ _ _ he
        | outgrown => exact he
      case row row args => exact Rows.mono h fun u w'' he => ⟨keep a hy u, by rw [← Act.put_comm a v u h2]; exact he⟩
    | halt x w' =>
      cases x <;> simp only [Oper.upon] at h ⊢
      case panic u => exact hQ _ _ _ h
  · rename_i hw
    simp only [hw] at h
    exact ⟨keep a hy _, by rw [← Act.put_comm a v undef h2]; exact h⟩
theorem wpAnyR_first (hr : ∀ a, R a a) (ht : ∀ a b c, R a b → R b c → R a c) {i : Nat} {oi : Oper} {v : Value} (hi : ops[i]? = some oi)
    (hsel : ∀ (j : Nat) (o : Oper) cs b, ops[j]? = some o → o.op ≠ .select cs b)
    (hQ : ∀ c a w, Q (.panic c) (a.put oi.dst v) w → Q (.panic c) a w) :
    ∀ (fuel : Nat) (listed : Array Bool) (a : Act) (w : World),
      (∀ j oj, ops[j]? = some oj → j ≠ i → listed.getD j true = false → (∀ e ∈ oj.after, Region.binds md e = true → e.on ≠ i) → oi.apart ops oj = true) →
      i ∈ Region.ready md ops listed → YieldsR P ops R w oi v a →
      wpAnyR P md ops Q R fuel (listed.setIfInBounds i true) (a.put oi.dst v) w → wpAnyR P md ops Q R (fuel + 1) listed a w := by
  intro fuel
  induction fuel with
  | zero =>
    intro listed a w _ hrd hy H
    refine ⟨fun h => (by rw [h] at hrd; cases hrd), fun j hj => ?_⟩
    by_cases hji : j = i
    · subst hji; exact hy.wpOp hr hi ⟨hr w, H⟩
    · have := ready_mono hj hji
      rw [H.1] at this
      cases this
  | succ fuel ih =>
    intro listed a w hfree hrd hy H
    refine ⟨fun h => (by rw [h] at hrd; cases hrd), fun j hj => ?_⟩
    by_cases hji : j = i
    · subst hji; exact hy.wpOp hr hi ⟨hr w, H⟩
    · have h1 := H.2 j (ready_mono hj hji)
      obtain ⟨hjun, oj, hoj, hall⟩ := mem_ready.1 hj
      have hnot : ∀ e ∈ oj.after, Region.binds md e = true → e.on ≠ i := fun e he hb heq => by
        have h1 := hall e he hb
        have h0 := (mem_ready.1 hrd).1
        rw [heq] at h1
        rcases Nat.lt_or_ge i listed.size with h' | h'
        · simp [h'] at h0 h1; rw [h0] at h1; cases h1
        · simp [Array.getElem?_eq_none h'] at h1
      have h2 := wpOp_putR hoj (hfree j oj hoj hji hjun hnot) (fun cs b => hsel i oi cs b hi) (fun cs b => hsel j oj cs b hoj) hQ hy h1
      have hfree' : ∀ k ok, ops[k]? = some ok → k ≠ i → (listed.setIfInBounds j true).getD k true = false →
          (∀ e ∈ ok.after, Region.binds md e = true → e.on ≠ i) → oi.apart ops ok = true := fun k ok hk hki hun hno => by
        refine hfree k ok hk hki ?_ hno
        by_cases hjk : j = k
        · subst hjk; exact hjun
        · rw [getD_set_ne true hjk] at hun; exact hun
      refine wpOp_mono (fun a' w' h3 => ⟨h3.2.1, ih (listed.setIfInBounds j true) a' w' hfree' (ready_mono hrd (Ne.symm hji)) (h3.1.later ht h3.2.1) ?_⟩) h2
      rw [Array.setIfInBounds_comm _ _ hji]
      exact h3.2.2
theorem frm_refl (G : Nat → Prop) : ∀ a, Frm G a a := Frm.refl G
theorem frm_trans (G : Nat → Prop) : ∀ a b c, Frm G a b → Frm G b c → Frm G a c := fun _ _ _ => Frm.trans
abbrev Dr (P : Program) (ops : Array Oper) (Q : Exit → Act → World → Prop) (G : Nat → Prop) (fuel : Nat) (listed : Array Bool) (a : Act) (w : World) : Prop :=
  wpAnyR P .any ops (NoPanic Q) (Frm G) fuel listed a w
theorem dBegin {id : Nat} {a : Act} {w : World} (G : Nat → Prop) (hm : P.follows .mixedOrders = true)
    (h : ∀ w', Ext w w' → w'.heap.size = w.heap.size → Dr P ops Q G ops.size (Array.replicate ops.size false) a w') : (Code.region id ops true).wp P Q a w :=
  wp_region_noPanic (wp_region_any hm (wpAny_of_R _ _ _ _ (h w.drew (drew_ext w) rfl)))
theorem dEv {G : Nat → Prop} {n : Nat} {e : Nat → Value} {w : World} {fuel : Nat} {listed : Array Bool} (i : Nat) {o : Oper} {d : Nat} {v : Value}
    (ho : ops[i]? = some o) (hv : ∀ w', Frm G w w' → Ev P n e o w' v) (hd : o.dst = some d) (hg : wantedB n e ops o.guard = true)
    (hc : (Region.noSelect ops && Region.free .any ops listed i && (Region.ready .any ops listed).contains i) = true)
    (k : Dr P ops Q G fuel (listed.setIfInBounds i true) (mkA dfs n (upd e d v)) w) : Dr P ops Q G (fuel + 1) listed (mkA dfs n e) w := by
  simp only [Bool.and_eq_true] at hc
  refine wpAnyR_first (frm_refl G) (frm_trans G) ho (Region.noSelect_spec hc.1.1) (fun _ _ _ h => h) fuel listed _ w (Region.free_spec ho hc.1.2) (by simpa using hc.2) (v := v) (.inl ⟨by rw [wanted_mkA]; exact hg, fun w' hr => by rw [eval_mkA]; exact hv w' hr⟩) ?_
  rw [hd, put_mkA]
  exact k
theorem dV {G : Nat → Prop} {n : Nat} {e : Nat → Value} {w : World} {fuel : Nat} {listed : Array Bool} (i : Nat) {op : Op} {ty : TypeId} {pos : String} {af : Array Edge} {d : Nat} {v : Value}
    (ho : ops[i]? = some ⟨some d, op, ty, pos, af, none⟩) (hv : ∀ w', Frm G w w' → Ev P n e ⟨some d, op, ty, pos, af, none⟩ w' v)
    (k : Dr P ops Q G fuel (listed.setIfInBounds i true) (mkA dfs n (upd e d v)) w)
    (hc : (Region.noSelect ops && Region.free .any ops listed i && (Region.ready .any ops listed).contains i) = true := by kernel_rfl) : Dr P ops Q G (fuel + 1) listed (mkA dfs n e) w :=
  dEv i ho hv rfl rfl hc k
theorem dMi {G : Nat → Prop} {n : Nat} {e : Nat → Value} {w : World} {fuel : Nat} {listed : Array Bool} (i : Nat) {x : Operand} {ty : TypeId} {pos : String} {af : Array Edge} {d : Nat} {k : IntKind} {a : Int}
    (ho : ops[i]? = some ⟨some d, .move x, ty, pos, af, none⟩) (hx : ev n e x = .int k a) (h : Dr P ops Q G fuel (listed.setIfInBounds i true) (mkA dfs n (upd e d (.int k a))) w)
    (hc : (Region.noSelect ops && Region.free .any ops listed i && (Region.ready .any ops listed).contains i) = true := by kernel_rfl) : Dr P ops Q G (fuel + 1) listed (mkA dfs n e) w :=
  dEv i ho (fun _ _ => ev_move hx) rfl rfl hc h
theorem dMs {G : Nat → Prop} {n : Nat} {e : Nat → Value} {w : World} {fuel : Nat} {listed : Array Bool} (i : Nat) {x : Operand} {ty : TypeId} {pos : String} {af : Array Edge} {d : Nat} {A : Option Addr} {m c : Nat}
    (ho : ops[i]? = some ⟨some d, .move x, ty, pos, af, none⟩) (hx : ev n e x = .slice A m c) (h : Dr P ops Q G fuel (listed.setIfInBounds i true) (mkA dfs n (upd e d (.slice A m c))) w)
    (hc : (Region.noSelect ops && Region.free .any ops listed i && (Region.ready .any ops listed).contains i) = true := by kernel_rfl) : Dr P ops Q G (fuel + 1) listed (mkA dfs n e) w :=
  dEv i ho (fun _ _ => ev_move hx) rfl rfl hc h
theorem dMp {G : Nat → Prop} {n : Nat} {e : Nat → Value} {w : World} {fuel : Nat} {listed : Array Bool} (i : Nat) {x : Operand} {ty : TypeId} {pos : String} {af : Array Edge} {d : Nat} {p : Addr}
    (ho : ops[i]? = some ⟨some d, .move x, ty, pos, af, none⟩) (hx : ev n e x = .pointer (some p)) (h : Dr P ops Q G fuel (listed.setIfInBounds i true) (mkA dfs n (upd e d (.pointer (some p)))) w)
    (hc : (Region.noSelect ops && Region.free .any ops listed i && (Region.ready .any ops listed).contains i) = true := by kernel_rfl) : Dr P ops Q G (fuel + 1) listed (mkA dfs n e) w :=
  dEv i ho (fun _ _ => ev_move hx) rfl rfl hc h
theorem dMb {G : Nat → Prop} {n : Nat} {e : Nat → Value} {w : World} {fuel : Nat} {listed : Array Bool} (i : Nat) {x : Operand} {ty : TypeId} {pos : String} {af : Array Edge} {d : Nat} {b : Bool}
    (ho : ops[i]? = some ⟨some d, .move x, ty, pos, af, none⟩) (hx : ev n e x = .bool b) (h : Dr P ops Q G fuel (listed.setIfInBounds i true) (mkA dfs n (upd e d (.bool b))) w)
    (hc : (Region.noSelect ops && Region.free .any ops listed i && (Region.ready .any ops listed).contains i) = true := by kernel_rfl) : Dr P ops Q G (fuel + 1) listed (mkA dfs n e) w :=
  dEv i ho (fun _ _ => ev_move hx) rfl rfl hc h
theorem dAi {G : Nat → Prop} {n : Nat} {e : Nat → Value} {w : World} {fuel : Nat} {listed : Array Bool} (i : Nat) {x : Operand} {ty : TypeId} {pos : String} {af : Array Edge} {d : Nat} {k : IntKind} {a : Int}
    (ho : ops[i]? = some ⟨some d, .assign x, ty, pos, af, none⟩) (hx : ev n e x = .int k a) (h : Dr P ops Q G fuel (listed.setIfInBounds i true) (mkA dfs n (upd e d (.int k a))) w)
    (hc : (Region.noSelect ops && Region.free .any ops listed i && (Region.ready .any ops listed).contains i) = true := by kernel_rfl) : Dr P ops Q G (fuel + 1) listed (mkA dfs n e) w :=
  dEv i ho (fun _ _ => ev_assign hx) rfl rfl hc h
theorem dAs {G : Nat → Prop} {n : Nat} {e : Nat → Value} {w : World} {fuel : Nat} {listed : Array Bool} (i : Nat) {x : Operand} {ty : TypeId} {pos : String} {af : Array Edge} {d : Nat} {A : Option Addr} {m c : Nat}
    (ho : ops[i]? = some ⟨some d, .assign x, ty, pos, af, none⟩) (hx : ev n e x = .slice A m c) (h : Dr P ops Q G fuel (listed.setIfInBounds i true) (mkA dfs n (upd e d (.slice A m c))) w)
    (hc : (Region.noSelect ops && Region.free .any ops listed i && (Region.ready .any ops listed).contains i) = true := by kernel_rfl) : Dr P ops Q G (fuel + 1) listed (mkA dfs n e) w :=
  dEv i ho (fun _ _ => ev_assign hx) rfl rfl hc h
theorem dAb {G : Nat → Prop} {n : Nat} {e : Nat → Value} {w : World} {fuel : Nat} {listed : Array Bool} (i : Nat) {x : Operand} {ty : TypeId} {pos : String} {af : Array Edge} {d : Nat} {b : Bool}
    (ho : ops[i]? = some ⟨some d, .assign x, ty, pos, af, none⟩) (hx : ev n e x = .bool b) (h : Dr P ops Q G fuel (listed.setIfInBounds i true) (mkA dfs n (upd e d (.bool b))) w)
    (hc : (Region.noSelect ops && Region.free .any ops listed i && (Region.ready .any ops listed).contains i) = true := by kernel_rfl) : Dr P ops Q G (fuel + 1) listed (mkA dfs n e) w :=
  dEv i ho (fun _ _ => ev_assign hx) rfl rfl hc h
theorem dSkip {G : Nat → Prop} {n : Nat} {e : Nat → Value} {w : World} {fuel : Nat} {listed : Array Bool} (i : Nat) {o : Oper} {d : Nat}
    (ho : ops[i]? = some o) (hd : o.dst = some d) (hg : wantedB n e ops o.guard = false)
    (hc : (Region.noSelect ops && Region.free .any ops listed i && (Region.ready .any ops listed).contains i) = true)
    (k : Dr P ops Q G fuel (listed.setIfInBounds i true) (mkA dfs n (upd e d undef)) w) : Dr P ops Q G (fuel + 1) listed (mkA dfs n e) w := by
  simp only [Bool.and_eq_true] at hc
  refine wpAnyR_first (frm_refl G) (frm_trans G) ho (Region.noSelect_spec hc.1.1) (fun _ _ _ h => h) fuel listed _ w (Region.free_spec ho hc.1.2) (by simpa using hc.2) (v := undef) (.inr ⟨by rw [wanted_mkA]; exact hg, rfl⟩) ?_
  rw [hd, put_mkA]
  exact k
theorem dOp {G : Nat → Prop} {n : Nat} {e : Nat → Value} {w : World} {fuel : Nat} {listed : Array Bool} (i : Nat) {o : Oper}
    (ho : ops[i]? = some o) (hg : wantedB n e ops o.guard = true) (hc : Region.ready .any ops listed = [i])
    (k : OpW P o (mkA dfs n e) w (fun a' w' => Frm G w w' ∧ Dr P ops Q G fuel (listed.setIfInBounds i true) a' w') (NoPanic Q)) : Dr P ops Q G (fuel + 1) listed (mkA dfs n e) w := by
  refine ⟨fun h => (by rw [h] at hc; cases hc), fun j hj => ?_⟩
  rw [hc] at hj
  obtain rfl : j = i := by simpa using hj
  unfold wpOp
  simp only [ho]
  rw [wanted_mkA, hg, if_pos rfl]
  exact .inl k
theorem dTwo {G : Nat → Prop} {a : Act} {w : World} {fuel : Nat} {listed : Array Bool} (i j : Nat) (hc : Region.ready .any ops listed = [i, j])
    (hi : wpOp P ops (NoPanic Q) i (fun a' w' => Frm G w w' ∧ Dr P ops Q G fuel (listed.setIfInBounds i true) a' w') a w)
    (hj : wpOp P ops (NoPanic Q) j (fun a' w' => Frm G w w' ∧ Dr P ops Q G fuel (listed.setIfInBounds j true) a' w') a w) : Dr P ops Q G (fuel + 1) listed a w := by
  refine ⟨fun h => (by rw [h] at hc; cases hc), fun k hk => ?_⟩
  rw [hc] at hk
  simp only [List.mem_cons, List.not_mem_nil, or_false] at hk
  rcases hk with rfl | rfl
  · exact hi
  · exact hj
theorem dWp {K : Act → World → Prop} {n : Nat} {e : Nat → Value} {w : World} {i : Nat} {o : Oper} (ho : ops[i]? = some o) (hg : wantedB n e ops o.guard = true)
    (k : OpW P o (mkA dfs n e) w K (NoPanic Q)) : wpOp P ops (NoPanic Q) i K (mkA dfs n e) w := by
  unfold wpOp
  simp only [ho]
  rw [wanted_mkA, hg, if_pos rfl]
  exact .inl k
theorem dDone {G : Nat → Prop} {a : Act} {w : World} {fuel : Nat} {listed : Array Bool} (hc : Region.ready .any ops listed = []) (h : Q .normal a w) : Dr P ops Q G fuel listed a w := by
  cases fuel with
  | zero => exact ⟨hc, h⟩
  | succ fuel => exact ⟨fun _ => h, fun j hj => by rw [hc] at hj; cases hj⟩
end draw
attribute [irreducible] mkA OpW
end Go.Gx

/-
  Laws for walks: one law an operation, over the frames and worlds of Core. No program in sight.
-/
namespace Go.Gx
open Go.RowKit
variable {dfs : List Deferred}
section control
variable {P : Program} {Q : Exit → Act → World → Prop} {n : Nat} {e : Nat → Value} {w : World}
theorem cT {c : Operand} {x y : Code} (hc : ev n e c = .bool true) (h : x.wp P Q (mkA dfs n e) w) : (Code.cond c x y).wp P Q (mkA dfs n e) w :=
  wp_cond_true (by rw [eval_mkA]; exact hc) h
theorem cF {c : Operand} {x y : Code} (hc : ev n e c = .bool false) (h : y.wp P Q (mkA dfs n e) w) : (Code.cond c x y).wp P Q (mkA dfs n e) w :=
  wp_cond_false (by rw [eval_mkA]; exact hc) h
theorem cB {c : Operand} {x y : Code} (b : Bool) (hc : ev n e c = .bool b) (ht : b = true → x.wp P Q (mkA dfs n e) w) (hf : b = false → y.wp P Q (mkA dfs n e) w) :
    (Code.cond c x y).wp P Q (mkA dfs n e) w := by
  cases b
  · exact cF hc (hf rfl)
  · exact cT hc (ht rfl)
theorem xN {K : Act → World → Prop} {a : Act} (h : K a w) : Exit.then K Q .normal a w := h
theorem xE {K : Act → World → Prop} {a : Act} {id : Nat} (h : Q (.exit id) a w) : Exit.then K Q (.exit id) a w := h
theorem xR {K : Act → World → Prop} {a : Act} (h : Q .ret a w) : Exit.then K Q .ret a w := h
theorem sK {ops : Array Oper} {K R : Act → World → Prop} (hK : ∀ a w, R a w → K a w) (h : R (mkA dfs n e) w) : wpList P ops (Exit.then K Q) [] (mkA dfs n e) w := hK _ _ h
theorem rS {a : Act} {id : Nat} {l : List Oper} {y : Code} (h : ∀ K : Act → World → Prop, (∀ a w, y.wp P Q a w → K a w) → wpList P l.toArray (Exit.then K Q) l a w) :
    (Code.seq (.region id l.toArray false) y).wp P Q a w := wp_seq_k fun K hK => wp_region_lit (h K hK)
theorem bN {a : Act} {id : Nat} (h : Q .normal a w) : Exit.inBlock id Q .normal a w := h
theorem bR {a : Act} {id : Nat} (h : Q .ret a w) : Exit.inBlock id Q .ret a w := h
theorem bE {a : Act} {id : Nat} (h : Q .normal a w) : Exit.inBlock id Q (.exit id) a w := by
  show (if id = id then Q .normal a w else Q (.exit id) a w)
  rw [if_pos rfl]; exact h
theorem bO {a : Act} {id j : Nat} (hj : Nat.beq j id = false) (h : Q (.exit j) a w) : Exit.inBlock id Q (.exit j) a w := by
  show (if j = id then Q .normal a w else Q (.exit j) a w)
  rw [if_neg (fun e => by subst e; simp at hj)]; exact h
def Again (n : Nat) (I : Nat → (Nat → Value) → World → Prop) (m : Nat) (a : Act) (w : World) : Prop := ∃ m' e', a = mkA dfs n e' ∧ m' < m ∧ I m' e' w
theorem lLoop {c : Code} (I : Nat → (Nat → Value) → World → Prop) (m0 : Nat) (h0 : I m0 e w)
    (round : ∀ m e w, I m e w → c.wp P (Exit.then (Again (dfs := dfs) n I m) Q) (mkA dfs n e) w) : (Code.loop c).wp P Q (mkA dfs n e) w := by
  intro b k cs
  have key : ∀ m e w, I m e w → ∃ ex a' w', Q ex a' w' ∧ Arrives P (lone (b.at (mkA dfs n e) (.code c :: .inLoop c :: k)) cs w) b k cs ex a' w' := by
    intro m
    induction m using Nat.strongRecOn with
    | _ m ih =>
      intro e w hI
      obtain ⟨ex, a1, w1, hq, harr⟩ := round m e w hI b (.inLoop c :: k) cs
      cases ex with
      | normal =>
        obtain ⟨m', e', rfl, hlt, hi⟩ := hq
        obtain ⟨ex2, a2, w2, hq2, harr2⟩ := ih m' hlt e' w1 hi
        exact ⟨ex2, a2, w2, hq2, .of_steps (Steps.trans harr (.one step_inLoop)) harr2⟩
      | exit id => exact ⟨_, a1, w1, hq, .pass (x := .inLoop c) rfl (fun _ _ => .inl (by simp)) harr⟩
      | goto l => exact ⟨_, a1, w1, hq, .pass (x := .inLoop c) rfl (fun _ _ => .inl (by simp)) harr⟩
      | ret => exact ⟨_, a1, w1, hq, .pass (x := .inLoop c) rfl (fun _ _ => .inl (by simp)) harr⟩
      | panic ch => exact ⟨_, a1, w1, hq, .pass (x := .inLoop c) rfl (fun _ _ => .inl (by simp)) harr⟩
      | outgrown => exact ⟨_, a1, w1, hq, .pass (x := .inLoop c) rfl (fun _ _ => .inl (by simp)) harr⟩
  obtain ⟨ex, a', w', hq, harr⟩ := key _ e w h0
  exact ⟨ex, a', w', hq, .of_steps (.one step_loop) harr⟩
theorem again {I : Nat → (Nat → Value) → World → Prop} {m : Nat} (m' : Nat) (hm : m' < m) (h : I m' e w) : Exit.then (Again (dfs := dfs) n I m) Q .normal (mkA dfs n e) w := ⟨m', e, rfl, hm, h⟩
end control
def Ret (φ : Value → World → Prop) : Ending → World → Prop := fun en w' => ∃ v, en = .returned v ∧ φ v w'
theorem Ret.mono {φ ψ : Value → World → Prop} {P : Program} {f : FuncId} {args : Array Value} {w : World} (h : Calls P f args w (Ret φ)) (k : ∀ v w', φ v w' → ψ v w') : Calls P f args w (Ret ψ) :=
  Calls.mono h fun _ w' ⟨v, he, hv⟩ => ⟨v, he, k v w' hv⟩
theorem enter {P : Program} {f : FuncId} {fn : Func} {c : Code} {n : Nat} {args : Array Value} {w : World} {R : Ending → World → Prop}
    (hf : P.funcs[f]? = some fn) (hb : fn.body = some c) (hn : fn.ntmps = n) (hs : Nat.ble args.size n = true)
    (h : c.wp P (bodyPost P fn R) (mkA [] n fun t => args.getD t undef) w) : Calls P f args w R := by
  refine calls_of_wp hf hb ?_
  rw [hn, enter_mkA n args (Nat.le_of_ble_eq_true hs)]
  exact h
def ResIs (P : Program) (n : Nat) (e : Nat → Value) (w : World) : ResultVar → Value → Prop
  | .tmp t, v => ev n e (.tmp t) = v
  | .cell a t, v => ∃ p, ev n e (.tmp a) = .pointer (some p) ∧ (loadVar t p).run P w = .ok v w
theorem getD2 (n : Nat) (e : Nat → Value) (t : Nat) : (mkA dfs n e).tmps[t]?.getD undef = ev n e (.tmp t) := by
  rw [← getD_mkA (dfs := dfs)]; simp
theorem asAddr_ptr (p : Addr) : asAddr (.pointer (some p)) = pure p := rfl
theorem res1 {P : Program} {w : World} (f : ResultVar → Sem Value) {r : ResultVar} {v : Value} (h : (f r).run P w = .ok v w) :
    ((do let vs ← #[r].mapM f; pure (if h : vs.size = 1 then vs[0] else .tuple vs)) : Sem Value).run P w = .ok v w := by
  simp [h]
theorem res2 {P : Program} {w : World} (f : ResultVar → Sem Value) {r s : ResultVar} {v u : Value} (h : (f r).run P w = .ok v w) (h' : (f s).run P w = .ok u w) :
    ((do let vs ← #[r, s].mapM f; pure (if h : vs.size = 1 then vs[0] else .tuple vs)) : Sem Value).run P w = .ok (.tuple #[v, u]) w := by
  simp [h, h']
theorem res3 {P : Program} {w : World} (f : ResultVar → Sem Value) {r s t : ResultVar} {v u x : Value} (h : (f r).run P w = .ok v w) (h' : (f s).run P w = .ok u w) (h'' : (f t).run P w = .ok x w) :
    ((do let vs ← #[r, s, t].mapM f; pure (if h : vs.size = 1 then vs[0] else .tuple vs)) : Sem Value).run P w = .ok (.tuple #[v, u, x]) w := by
  simp [h, h', h'']
theorem ret1 {P : Program} {fn : Func} {φ : Value → World → Prop} {n : Nat} {e : Nat → Value} {w : World} {r : ResultVar} (v : Value) (hr : fn.results = #[r]) (h1 : ResIs P n e w r v) (h : φ v w) :
    bodyPost P fn (Ret φ) .ret (mkA [] n e) w := by
  refine ⟨defers_mkA _ _, v, ?_, v, rfl, h⟩
  unfold results
  rw [hr]
  refine res1 _ ?_
  cases r with
  | tmp t => simp only [ResIs] at h1; simp [getD2, h1]
  | cell a t => obtain ⟨p, hp, hl⟩ := h1; simp [getD2, hp, asAddr_ptr, hl]
theorem ret2 {P : Program} {fn : Func} {φ : Value → World → Prop} {n : Nat} {e : Nat → Value} {w : World} {r s : ResultVar} (v u : Value) (hr : fn.results = #[r, s]) (h1 : ResIs P n e w r v) (h2 : ResIs P n e w s u)
    (h : φ (.tuple #[v, u]) w) : bodyPost P fn (Ret φ) .ret (mkA [] n e) w := by
  refine ⟨defers_mkA _ _, _, ?_, _, rfl, h⟩
  unfold results
  rw [hr]
  refine res2 _ ?_ ?_
  · cases r with
    | tmp t => simp only [ResIs] at h1; simp [getD2, h1]
    | cell a t => obtain ⟨p, hp, hl⟩ := h1; simp [getD2, hp, asAddr_ptr, hl]
  · cases s with
    | tmp t => simp only [ResIs] at h2; simp [getD2, h2]
    | cell a t => obtain ⟨p, hp, hl⟩ := h2; simp [getD2, hp, asAddr_ptr, hl]
theorem ret3 {P : Program} {fn : Func} {φ : Value → World → Prop} {n : Nat} {e : Nat → Value} {w : World} {r s t : ResultVar} (v u x : Value) (hr : fn.results = #[r, s, t]) (h1 : ResIs P n e w r v) (h2 : ResIs P n e w s u) (h3 : ResIs P n e w t x)
    (h : φ (.tuple #[v, u, x]) w) : bodyPost P fn (Ret φ) .ret (mkA [] n e) w := by
  refine ⟨defers_mkA _ _, _, ?_, _, rfl, h⟩
  unfold results
  rw [hr]
  refine res3 _ ?_ ?_ ?_
  · cases r with
    | tmp t => simp only [ResIs] at h1; simp [getD2, h1]
    | cell a t => obtain ⟨p, hp, hl⟩ := h1; simp [getD2, hp, asAddr_ptr, hl]
  · cases s with
    | tmp t => simp only [ResIs] at h2; simp [getD2, h2]
    | cell a t => obtain ⟨p, hp, hl⟩ := h2; simp [getD2, hp, asAddr_ptr, hl]
  · cases t with
    | tmp t => simp only [ResIs] at h3; simp [getD2, h3]
    | cell a t => obtain ⟨p, hp, hl⟩ := h3; simp [getD2, hp, asAddr_ptr, hl]
theorem ret0 {P : Program} {fn : Func} {φ : Value → World → Prop} {n : Nat} {e : Nat → Value} {w : World} (hr : fn.results = #[]) (h : φ (.tuple #[]) w) : bodyPost P fn (Ret φ) .ret (mkA [] n e) w := by
  refine ⟨defers_mkA _ _, _, ?_, _, rfl, h⟩
  unfold results
  rw [hr]
  simp
theorem end0 {P : Program} {fn : Func} {φ : Value → World → Prop} {n : Nat} {e : Nat → Value} {w : World} (hr : fn.results = #[]) (h : φ (.tuple #[]) w) : bodyPost P fn (Ret φ) .normal (mkA [] n e) w := by
  refine ⟨defers_mkA _ _, _, ?_, _, rfl, h⟩
  unfold results
  rw [hr]
  simp
def Callable (P : Program) (f : FuncId) : Prop := ∀ (args : Array Value) (w : World), (callFunc f args).run P w = .ok (.enter f args) w
theorem callable_of {P : Program} {f : FuncId} {fn : Func} (hf : P.funcs[f]? = some fn) (hn : (fn.name == "runtime.NumGoroutine") = false) (hb : fn.body.isNone = false) : Callable P f := by
  intro args w
  have h1 : ¬ fn.name = "runtime.NumGoroutine" := by simpa using hn
  have h2 : ¬ fn.body = none := by intro h; rw [h] at hb; cases hb
  simp [callFunc, program, Sem.run, hf, h1, h2]
section ops
variable {P : Program} {n : Nat} {e : Nat → Value} {w : World} {K : Act → World → Prop} {Q : Exit → Act → World → Prop} {ty : TypeId} {pos : String} {af : Array Edge} {gd : Option (Nat × Bool)}
theorem oCall {φ : Value → World → Prop} {d : Nat} {x : Operand} {xs : List Operand} {ts : Array TypeId} {f : FuncId} {fs cs args : List Value} (hx : ev n e x = .func (.func f) fs.toArray cs.toArray) (hc : Callable P f)
    (h : Calls P f args.toArray w (Ret φ)) (ha : fs ++ (xs.map (ev n e) ++ cs) = args) (k : ∀ v w', φ v w' → K (mkA dfs n (upd e d v)) w') :
    OpW P ⟨some d, .call { callee := .value x, args := xs.toArray, argTypes := ts }, ty, pos, af, gd⟩ (mkA dfs n e) w K Q := by
  have ha' : fs.toArray ++ xs.toArray.map (ev n e) ++ cs.toArray = args.toArray := by rw [← ha]; simp
  unfold OpW Oper.wp
  rw [eval_mkA]
  simp only [execOp, resolve, hx, Deferred.ofValue, invoke, Sem.run_bind, Sem.run_pure, Result.andThen_ok, ha', hc args.toArray w, Oper.upon]
  exact Calls.mono h fun en w' ⟨v, he, hv⟩ => by subst he; simp only [put_mkA]; exact k v w' hv
theorem oBox {d : Nat} {t : TypeId} {x : Operand} {v : Value} (cs : List Value) (hx : ev n e x = v) (hc : v.cells = cs.toArray)
    (k : ∀ g w', g = w.heap.size → Ext w w' → w'.heap.size = g + 1 → Blk w' g t cs → K (mkA dfs n (upd e d (.pointer (some ⟨g, 0, none⟩)))) w') :
    OpW P ⟨some d, .box t x, ty, pos, af, gd⟩ (mkA dfs n e) w K Q := by
  unfold OpW Oper.wp
  rw [eval_mkA]
  have := k w.heap.size (w.alloc (.cells cs.toArray t)) rfl (alloc_ext _ _) (by simp) (Blk.new _ _ _)
  simp only [execOp, hx, Instr.box, newVar, newRow, newObj, hc, Sem.run_bind, Sem.run_pure, Result.andThen_ok, Sem.run, Oper.upon, put_mkA]
  exact this
theorem oAlloc {d : Nat} {t : TypeId} {z : Value} (cs : List Value) (hz : ∀ w, (zeroValue t).run P w = .ok z w) (hc : z.cells = cs.toArray)
    (k : ∀ g w', g = w.heap.size → Ext w w' → w'.heap.size = g + 1 → Blk w' g t cs → K (mkA dfs n (upd e d (.pointer (some ⟨g, 0, none⟩)))) w') :
    OpW P ⟨some d, .alloc t, ty, pos, af, gd⟩ (mkA dfs n e) w K Q := by
  unfold OpW Oper.wp
  rw [eval_mkA]
  have := k w.heap.size (w.alloc (.cells cs.toArray t)) rfl (alloc_ext _ _) (by simp) (Blk.new _ _ _)
  simp only [execOp, Instr.alloc, hz w, newVar, newRow, newObj, hc, Sem.run_bind, Sem.run_pure, Result.andThen_ok, Sem.run, Oper.upon, put_mkA]
  exact this
theorem oStore {t t' : TypeId} {a x : Operand} {g off : Nat} {v : Value} {cs : List Value} (vs : List Value) (ha : ev n e a = .pointer (some ⟨g, off, none⟩)) (hx : ev n e x = v)
    (hv : v.cells = vs.toArray) (hs : ∀ w, (sizeOf t).run P w = .ok vs.length w) (h1 : vs.all Value.oneCell' = true) (hb : Blk w g t' cs) (hl : off + vs.length ≤ cs.length)
    (k : ∀ w', Frm (· = g) w w' → w'.heap.size = w.heap.size → Blk w' g t' (cs.take off ++ vs ++ cs.drop (off + vs.length)) → K (mkA dfs n e) w') :
    OpW P ⟨none, .store t a x, ty, pos, af, gd⟩ (mkA dfs n e) w K Q := by
  unfold OpW Oper.wp
  rw [eval_mkA]
  have hst := run_storeCells_at P g off t' vs 0 cs.toArray w hb (by simpa using hl) (List.all_eq_true.1 h1)
  simp only [Nat.add_zero] at hst
  simp only [execOp, ha, hx, Instr.storeAt, Instr.sureAddr, storeVar, hv, hs w, Sem.run_bind, Sem.run_pure, Result.andThen_ok, List.size_toArray, ne_eq, not_true_eq_false, if_false, hst, Oper.upon, put_none]
  refine k _ ⟨rfl, rfl, rfl, by simp [World.setRow], Nat.le_refl _, fun j _ hj => ?_⟩ (by simp [World.setRow]) ?_
  · simp only [World.setRow, Array.getElem?_modify]
    rw [if_neg (fun h => hj h.symm)]
  · have := setRow_heap w g cs.toArray (cs.take off ++ vs ++ cs.drop (off + vs.length)).toArray t' (0, 0) hb
    exact this
theorem oStore1 {t t' : TypeId} {a x : Operand} {g off : Nat} {v : Value} {cs : List Value} (ha : ev n e a = .pointer (some ⟨g, off, none⟩)) (hx : ev n e x = v)
    (h1 : v.oneCell' = true) (hs : ∀ w, (sizeOf t).run P w = .ok 1 w) (hb : Blk w g t' cs) (hl : off < cs.length)
    (k : ∀ w', Frm (· = g) w w' → w'.heap.size = w.heap.size → Blk w' g t' (cs.set off v) → K (mkA dfs n e) w') :
    OpW P ⟨none, .store t a x, ty, pos, af, gd⟩ (mkA dfs n e) w K Q := by
  have hv : v.cells = [v].toArray := by cases v <;> first | rfl | (simp [Value.oneCell'] at h1)
  refine oStore [v] ha hx hv hs (by simp [h1]) hb (by simp; omega) ?_
  intro w' h2 h3 h4
  refine k w' h2 h3 ?_
  have : cs.take off ++ [v] ++ cs.drop (off + [v].length) = cs.set off v := by
    rw [List.set_eq_take_append_cons_drop, if_pos hl]; simp
  rw [this] at h4
  exact h4
theorem oMake {d : Nat} {t el : TypeId} {l c : Operand} {k1 k2 : IntKind} {z : Value} {size bytes : Nat} (m : Nat) (ht : P.underlying t = some (.slice el))
    (hi : (P.info? el).map (fun i => (i.zero, i.size, i.bytes)) = some (some z, size, bytes)) (hl : ev n e l = .int k1 (m : Int)) (hc : ev n e c = .int k2 (m : Int))
    (hb : bytes * m ≤ 281474976710656) (hm : m ≤ 9223372036854775807)
    (k : ∀ g w', g = w.heap.size → Ext w w' → w'.heap.size = g + 1 → Blk w' g el (madeCells z.cells (m * size)).toList → K (mkA dfs n (upd e d (.slice (some ⟨g, 0, none⟩) m m))) w') :
    OpW P ⟨some d, .makeSlice t l c, ty, pos, af, gd⟩ (mkA dfs n e) w K Q := by
  obtain ⟨i, hi', hz, rfl, rfl⟩ := info_parts hi
  have hb' : (i.bytes : Int) * (m : Int) ≤ 281474976710656 := by
    have h : ((i.bytes * m : Nat) : Int) ≤ 281474976710656 := by omega
    rwa [Int.natCast_mul] at h
  have hr := run_make (P := P) w t el i z ht hi' hz k1 k2 m m (by omega) (Int.le_refl _) hb' (by omega)
  simp only [Int.toNat_natCast] at hr
  unfold OpW Oper.wp
  rw [eval_mkA]
  simp only [execOp, hl, hc, Sem.run_bind, hr, Sem.run_pure, Result.andThen_ok, Oper.upon, put_mkA]
  refine k _ _ rfl (alloc_ext _ _) (by simp) ?_
  have := Blk.new w el (madeCells z.cells (m * i.size)).toList
  simpa using this
theorem append_drawn {P : Program} {w w' : World} {t ty e : TypeId} {i : TypeInfo} {z v v' : Value} {size bytes base n : Nat} {xs news : List Value} {a : Addr} {m c : Nat} (ht : P.underlying t = some (.slice e)) (hi : P.info? e = some i) (hz : i.zero = some z)
    (hsize : i.size = size) (hby : i.bytes = bytes) (hown : w.ownsRow base e size v n xs) (hl : news.length = m * size) (hnews : ∀ (j : Nat) u, news[j]? = some u → w.cell? (a.add j) = some u) (h1 : ∀ u ∈ news, u.oneCell' = true)
    (h63 : n + m ≤ 9223372036854775807) (hbytes : (n + m) * bytes ≤ 140737488355328) (hr : (Builtin.append_ #[t, t] ty #[v, .slice (some a) m c]).run P w = .ok v' w') : w.drawn ≤ w'.drawn := by
  subst hsize
  subst hby
  rcases hown.2 with ⟨rfl, rfl⟩ | ⟨g, cap, cur, rfl, hbg, hg, hnc, hcm, hcs, htake⟩
  · by_cases hm : m = 0
    · subst hm
      have hn : news = [] := List.eq_nil_of_length_eq_zero (by simpa using hl)
      subst hn
      have : (Builtin.append_ #[t, t] ty #[Value.slice none 0 0, .slice (some a) 0 c]).run P w = .ok (.slice none 0 0) w := by
        simp [Builtin.append_, run_underlying ht, sizeOf, typeInfo, hi, Builtin.lenOf, Builtin.firstCells, loadCells, loadCellsFrom]
      rw [this] at hr
      injection hr with _ h2
      rw [← h2]; exact Nat.le_refl _
    · have h := run_append_nil (P := P) w t ty e i z ht hi hz a m c news hl hnews (by omega) (by omega) (by have hb := hbytes; simp only [Nat.zero_add] at hb; omega)
      rw [h] at hr
      injection hr with _ h2
      rw [← h2]; exact Nat.le_succ _
  · by_cases hroom : n + m ≤ cap
    · have hfit : n * i.size + news.length ≤ cur.size := by rw [hl, hcs, ← Nat.add_mul]; exact Nat.mul_le_mul_right _ hroom
      have h := run_append_room (P := P) w t ty e i ht hi g n cap cur hg a m c news hl hnews h1 hroom hfit
      rw [h] at hr
      injection hr with _ h2
      rw [← h2]; exact Nat.le_refl _
    · have holds : ∀ (j : Nat) u, xs[j]? = some u → w.cell? ((⟨g, 0, none⟩ : Addr).add j) = some u := World.ownsRow.cells hown (g := g) rfl
      have h := run_append_grow (P := P) w t ty e i z ht hi hz ⟨g, 0, none⟩ n cap xs hown.1 holds a m c news hl hnews (by omega) (by omega) (growslice_fits (by omega) hbytes)
      rw [h] at hr
      injection hr with _ h2
      rw [← h2]; exact Nat.le_succ _
theorem addr_add (b o i : Nat) : (⟨b, o, none⟩ : Addr).add i = ⟨b, o + i, none⟩ := by
  unfold Addr.add; split <;> simp_all
def oneB (P : Program) (t : TypeId) : Bool := match P.underlying t with | some (.struct _) | some (.array _ _) | none => false | _ => true
theorem run_isAgg_one {t : TypeId} (h : oneB P t = true) (w : World) : (isAgg t).run P w = .ok false w := by
  unfold oneB at h
  cases hu : P.underlying t with
  | none => simp [hu] at h
  | some d => cases d <;> simp [hu] at h <;> simp [isAgg, run_underlying hu]
def aggB (P : Program) (t : TypeId) : Bool := match P.underlying t with | some (.struct _) | some (.array _ _) => true | _ => false
theorem run_isAgg_agg {t : TypeId} (h : aggB P t = true) (w : World) : (isAgg t).run P w = .ok true w := by
  unfold aggB at h
  cases hu : P.underlying t with
  | none => simp [hu] at h
  | some d => cases d <;> simp [hu] at h <;> simp [isAgg, run_underlying hu]
theorem run_load_cell {p : Addr} {v : Value} (h : w.cell? p = some v) : (load p).run P w = .ok v w := by simp [load, Sem.run, h]
theorem run_loadVar1 {t : TypeId} {p : Addr} {v : Value} (ht : oneB P t = true) (h : w.cell? p = some v) : (loadVar t p).run P w = .ok v w := by
  have h1 := run_isAgg_one ht w
  have h2 := run_load_cell (P := P) h
  simp only [loadVar, Sem.run_bind, h1, Result.andThen_ok, Bool.false_eq_true, if_false, h2]
theorem run_loadVarA {t : TypeId} {p : Addr} {cs : List Value} (ht : aggB P t = true) (hs : ∀ w, (sizeOf t).run P w = .ok cs.length w) (h : ∀ (j : Nat) v, cs[j]? = some v → w.cell? (p.add j) = some v) :
    (loadVar t p).run P w = .ok (.agg cs.toArray) w := by
  simp [loadVar, run_isAgg_agg ht, hs, run_loadCells_list w p cs h]
theorem evLoad {d : Option Nat} {t : TypeId} {a : Operand} {p : Addr} {v : Value} (ht : oneB P t = true) (ha : ev n e a = .pointer (some p)) (hc : w.cell? p = some v) :
    Ev P n e ⟨d, .load t a, ty, pos, af, gd⟩ w v := by
  simp [Ev, execOp, ha, Instr.loadAt, Instr.sureAddr, run_loadVar1 ht hc]
theorem evLoadA {d : Option Nat} {t : TypeId} {a : Operand} {p : Addr} (cs : List Value) (ht : aggB P t = true) (hs : ∀ w, (sizeOf t).run P w = .ok cs.length w) (ha : ev n e a = .pointer (some p))
    (hc : ∀ (j : Nat) v, cs[j]? = some v → w.cell? (p.add j) = some v) : Ev P n e ⟨d, .load t a, ty, pos, af, gd⟩ w (.agg cs.toArray) := by
  simp [Ev, execOp, ha, Instr.loadAt, Instr.sureAddr, run_loadVarA ht hs hc]
theorem evIndex {d : Option Nat} {t el : TypeId} {x ix : Operand} {b off len cap size : Nat} {k : IntKind} {z : Int} (i : Nat) (ht : P.underlying t = some (.slice el)) (hs : ∀ w, (sizeOf el).run P w = .ok size w)
    (hx : ev n e x = .slice (some ⟨b, off, none⟩) len cap) (hi : ev n e ix = .int k z) (hz : z = (i : Int)) (hlt : i < len) (p : Nat) (hp : off + i * size = p) :
    Ev P n e ⟨d, .indexAddr t x ix, ty, pos, af, gd⟩ w (.pointer (some ⟨b, p, none⟩)) := by
  subst hz hp
  have h1 : (0 : Int) ≤ (i : Int) ∧ (i : Int) < (len : Int) := ⟨by omega, by omega⟩
  simp [Ev, execOp, hx, hi, Instr.indexAt, asIntOf, run_underlying ht, hs, hlt, addr_add]
theorem evIx {d : Option Nat} {t el : TypeId} {x ix : Operand} {b off len cap size : Nat} {k : IntKind} {z : Int} (i : Nat) (ht : P.underlying t = some (.slice el)) (hs : ∀ w, (sizeOf el).run P w = .ok size w)
    (hx : ev n e x = .slice (some ⟨b, off, none⟩) len cap) (hi : ev n e ix = .int k z) (p : Nat) (hz : z = (i : Int) := by omega) (hlt : i < len := by omega) (hp : off + i * size = p := by omega) :
    Ev P n e ⟨d, .indexAddr t x ix, ty, pos, af, gd⟩ w (.pointer (some ⟨b, p, none⟩)) := evIndex i ht hs hx hi hz hlt p hp
theorem evSlice {d : Option Nat} {t el : TypeId} {x : Operand} {lo hi : Option Operand} {A : Option Addr} {len cap size : Nat} (l h : Nat) (ht : P.underlying t = some (.slice el)) (hs : ∀ w, (sizeOf el).run P w = .ok size w)
    (hx : ev n e x = .slice A len cap)
    (hlo : match lo with | none => l = 0 | some y => ∃ k z, ev n e y = .int k z ∧ z = (l : Int))
    (hhi : match hi with | none => h = len | some y => ∃ k z, ev n e y = .int k z ∧ z = (h : Int))
    (h1 : l ≤ h) (h2 : h ≤ cap) :
    Ev P n e ⟨d, .slice t x lo hi none, ty, pos, af, gd⟩ w (.slice (if cap = l then A else A.map (·.add (l * size))) (h - l) (cap - l)) := by
  have e1 : ((h : Int) ≤ (cap : Int)) := by omega
  have e2 : ((l : Int) ≤ (h : Int)) := by omega
  cases lo with
  | none =>
    cases hi with
    | none =>
      subst hlo hhi
      simp [Ev, execOp, hx, Instr.sliceAt, Instr.slice, Instr.sliceBounds, run_underlying ht, hs]
    | some y =>
      obtain ⟨k, z, hy, rfl⟩ := hhi
      subst hlo
      simp [Ev, execOp, hx, hy, Instr.sliceAt, Instr.slice, Instr.sliceBounds, Instr.sliceBound, asIntOf, run_underlying ht, hs, h2]
  | some y =>
    obtain ⟨k, z, hy, rfl⟩ := hlo
    cases hi with
    | none =>
      subst hhi
      simp [Ev, execOp, hx, hy, Instr.sliceAt, Instr.slice, Instr.sliceBounds, Instr.sliceBound, asIntOf, run_underlying ht, hs, h1]
    | some y' =>
      obtain ⟨k', z', hy', rfl⟩ := hhi
      simp [Ev, execOp, hx, hy, hy', Instr.sliceAt, Instr.slice, Instr.sliceBounds, Instr.sliceBound, asIntOf, run_underlying ht, hs, h1, h2]
theorem evArith {d : Option Nat} {op : BinOp} {t t' : TypeId} {x y : Operand} {k : IntKind} {a b : Int} (z : Int) (hx : ev n e x = .int k a) (hy : ev n e y = .int k b)
    (h : (op = .add ∧ k.wrap (a + b) = z) ∨ (op = .sub ∧ k.wrap (a - b) = z) ∨ (op = .mul ∧ k.wrap (a * b) = z)) :
    Ev P n e ⟨d, .binOp op t x y t', ty, pos, af, gd⟩ w (.int k z) := by
  rcases h with ⟨rfl, h⟩ | ⟨rfl, h⟩ | ⟨rfl, h⟩ <;> simp [Ev, execOp, hx, hy, eqGuard, binOp, Op.intArith, h]
theorem evAdd {d : Option Nat} {t t' : TypeId} {x y : Operand} {k : IntKind} {a b : Int} (z : Int) (hx : ev n e x = .int k a) (hy : ev n e y = .int k b) (h : k.wrap (a + b) = z) :
    Ev P n e ⟨d, .binOp .add t x y t', ty, pos, af, gd⟩ w (.int k z) := evArith z hx hy (.inl ⟨rfl, h⟩)
theorem evSub {d : Option Nat} {t t' : TypeId} {x y : Operand} {k : IntKind} {a b : Int} (z : Int) (hx : ev n e x = .int k a) (hy : ev n e y = .int k b) (h : k.wrap (a - b) = z) :
    Ev P n e ⟨d, .binOp .sub t x y t', ty, pos, af, gd⟩ w (.int k z) := evArith z hx hy (.inr (.inl ⟨rfl, h⟩))
theorem evMul {d : Option Nat} {t t' : TypeId} {x y : Operand} {k : IntKind} {a b : Int} (z : Int) (hx : ev n e x = .int k a) (hy : ev n e y = .int k b) (h : k.wrap (a * b) = z) :
    Ev P n e ⟨d, .binOp .mul t x y t', ty, pos, af, gd⟩ w (.int k z) := evArith z hx hy (.inr (.inr ⟨rfl, h⟩))
theorem evQuo {d : Option Nat} {t t' : TypeId} {x y : Operand} {k : IntKind} {a b : Int} (z : Int) (hx : ev n e x = .int k a) (hy : ev n e y = .int k b) (hb : b ≠ 0) (h : k.wrap (a.tdiv b) = z) :
    Ev P n e ⟨d, .binOp .quo t x y t', ty, pos, af, gd⟩ w (.int k z) := by
  simp [Ev, execOp, hx, hy, eqGuard, binOp, Op.intDiv, hb, h]
theorem evRem {d : Option Nat} {t t' : TypeId} {x y : Operand} {k : IntKind} {a b : Int} (z : Int) (hx : ev n e x = .int k a) (hy : ev n e y = .int k b) (hb : b ≠ 0) (h : a.tmod b = z) :
    Ev P n e ⟨d, .binOp .rem t x y t', ty, pos, af, gd⟩ w (.int k z) := by
  simp [Ev, execOp, hx, hy, eqGuard, binOp, Op.intDiv, hb, h]
theorem evLss {d : Option Nat} {t t' : TypeId} {x y : Operand} {k : IntKind} {a b : Int} (r : Bool) (hx : ev n e x = .int k a) (hy : ev n e y = .int k b) (h : decide (a < b) = r) :
    Ev P n e ⟨d, .binOp .lss t x y t', ty, pos, af, gd⟩ w (.bool r) := by
  subst h; simp [Ev, execOp, hx, hy, eqGuard, binOp, Op.intCmp]
theorem evLeq {d : Option Nat} {t t' : TypeId} {x y : Operand} {k : IntKind} {a b : Int} (r : Bool) (hx : ev n e x = .int k a) (hy : ev n e y = .int k b) (h : decide (a ≤ b) = r) :
    Ev P n e ⟨d, .binOp .leq t x y t', ty, pos, af, gd⟩ w (.bool r) := by
  subst h; simp [Ev, execOp, hx, hy, eqGuard, binOp, Op.intCmp]
theorem evGtr {d : Option Nat} {t t' : TypeId} {x y : Operand} {k : IntKind} {a b : Int} (r : Bool) (hx : ev n e x = .int k a) (hy : ev n e y = .int k b) (h : decide (a > b) = r) :
    Ev P n e ⟨d, .binOp .gtr t x y t', ty, pos, af, gd⟩ w (.bool r) := by
  subst h; simp [Ev, execOp, hx, hy, eqGuard, binOp, Op.intCmp]
theorem evGeq {d : Option Nat} {t t' : TypeId} {x y : Operand} {k : IntKind} {a b : Int} (r : Bool) (hx : ev n e x = .int k a) (hy : ev n e y = .int k b) (h : decide (a ≥ b) = r) :
    Ev P n e ⟨d, .binOp .geq t x y t', ty, pos, af, gd⟩ w (.bool r) := by
  subst h; simp [Ev, execOp, hx, hy, eqGuard, binOp, Op.intCmp]
theorem evEql {d : Option Nat} {t t' : TypeId} {x y : Operand} {k : IntKind} {a b : Int} (r : Bool) (hx : ev n e x = .int k a) (hy : ev n e y = .int k b) (h : decide (a = b) = r) :
    Ev P n e ⟨d, .binOp .eql t x y t', ty, pos, af, gd⟩ w (.bool r) := by
  subst h; simp [Ev, execOp, hx, hy, eqGuard, binOp, Op.intCmp, BEq.beq]
theorem evNeq {d : Option Nat} {t t' : TypeId} {x y : Operand} {k : IntKind} {a b : Int} (r : Bool) (hx : ev n e x = .int k a) (hy : ev n e y = .int k b) (h : decide (a ≠ b) = r) :
    Ev P n e ⟨d, .binOp .neq t x y t', ty, pos, af, gd⟩ w (.bool r) := by
  subst h
  have : (a != b) = decide (a ≠ b) := by by_cases hab : a = b <;> simp [hab]
  simp [Ev, execOp, hx, hy, eqGuard, binOp, Op.intCmp, this]
theorem evEqlB {d : Option Nat} {t t' : TypeId} {x y : Operand} {a b : Bool} (r : Bool) (hu : P.underlying t = some .bool) (hx : ev n e x = .bool a) (hy : ev n e y = .bool b) (h : (a == b) = r) :
    Ev P n e ⟨d, .binOp .eql t x y t', ty, pos, af, gd⟩ w (.bool r) := by
  subst h
  have h1 := run_eql_bool (P := P) w t a b hu
  simp [Ev, execOp, hx, hy, eqGuard, h1]
theorem evNeqB {d : Option Nat} {t t' : TypeId} {x y : Operand} {a b : Bool} (r : Bool) (hu : P.underlying t = some .bool) (hx : ev n e x = .bool a) (hy : ev n e y = .bool b) (h : (a != b) = r) :
    Ev P n e ⟨d, .binOp .neq t x y t', ty, pos, af, gd⟩ w (.bool r) := by
  subst h
  have h1 := run_equal_bool (P := P) w t a b hu
  have h2 : (binOp .neq t (.bool a) (.bool b)).run P w = .ok (.bool (a != b)) w := by
    unfold binOp
    simp [h1, bne]
  simp [Ev, execOp, hx, hy, eqGuard]
  rw [h2]
  rfl
theorem evConv {d : Option Nat} {s t : TypeId} {ds : TypeDesc} {x : Operand} {k k' : IntKind} {a : Int} (z : Int) (hs : P.underlying s = some ds) (ht : P.underlying t = some (.int k')) (hx : ev n e x = .int k a) (h : k'.wrap a = z) :
    Ev P n e ⟨d, .convert s t x, ty, pos, af, gd⟩ w (.int k' z) := by
  subst h; simp [Ev, execOp, hx, convert, run_underlying hs, run_underlying ht, Conv.intToInt]
theorem evShl {d : Option Nat} {t t' : TypeId} {x y : Operand} {k k' : IntKind} {a b : Int} (z : Int) (hx : ev n e x = .int k a) (hy : ev n e y = .int k' b) (hb : 0 ≤ b) (h : k.wrap (a * 2 ^ (min b.toNat k.bits)) = z) :
    Ev P n e ⟨d, .binOp .shl t x y t', ty, pos, af, gd⟩ w (.int k z) := by
  subst h
  have : ¬ b < 0 := by omega
  simp [Ev, execOp, hx, hy, eqGuard, binOp, Op.shift, this]
theorem evShr {d : Option Nat} {t t' : TypeId} {x y : Operand} {k k' : IntKind} {a b : Int} (z : Int) (hx : ev n e x = .int k a) (hy : ev n e y = .int k' b) (hb : 0 ≤ b) (h : a.fdiv (2 ^ (min b.toNat k.bits)) = z) :
    Ev P n e ⟨d, .binOp .shr t x y t', ty, pos, af, gd⟩ w (.int k z) := by
  subst h
  have : ¬ b < 0 := by omega
  simp [Ev, execOp, hx, hy, eqGuard, binOp, Op.shift, this]
theorem evNeg {d : Option Nat} {t : TypeId} {x : Operand} {k : IntKind} {a : Int} (z : Int) (hx : ev n e x = .int k a) (h : k.wrap (0 - a) = z) : Ev P n e ⟨d, .unOp .neg t x, ty, pos, af, gd⟩ w (.int k z) := by
  subst h; simp [Ev, execOp, hx, Op.unary, Op.intArith]
theorem evNot {d : Option Nat} {t : TypeId} {x : Operand} {b : Bool} (r : Bool) (hx : ev n e x = .bool b) (h : (!b) = r) : Ev P n e ⟨d, .unOp .not t x, ty, pos, af, gd⟩ w (.bool r) := by
  subst h; simp [Ev, execOp, hx, Op.unary]
theorem evLen {d : Option Nat} {t el : TypeId} {x : Operand} {A : Option Addr} {len cap : Nat} (ht : P.underlying t = some (.slice el)) (hx : ev n e x = .slice A len cap) :
    Ev P n e ⟨d, .call { callee := .builtin .len, args := #[x], argTypes := #[t] }, ty, pos, af, gd⟩ w (.int .i64 (len : Int)) := by
  simp [Ev, execOp, resolve, hx, invoke, builtin, Builtin.len_, run_underlying ht, goInt]
theorem evMax {d : Option Nat} {ts : Array TypeId} {x y : Operand} {k k' : IntKind} {a b : Int} (z : Int) (hx : ev n e x = .int k a) (hy : ev n e y = .int k' b) (h : (if b > a then b else a) = z) :
    Ev P n e ⟨d, .call { callee := .builtin .max, args := #[x, y], argTypes := ts }, ty, pos, af, gd⟩ w (.int k z) := by
  subst h; simp [Ev, execOp, resolve, hx, hy, invoke, builtin, Builtin.max_, Builtin.max2]
theorem evMin {d : Option Nat} {ts : Array TypeId} {x y : Operand} {k k' : IntKind} {a b : Int} (z : Int) (hx : ev n e x = .int k a) (hy : ev n e y = .int k' b) (h : (if b < a then b else a) = z) :
    Ev P n e ⟨d, .call { callee := .builtin .min, args := #[x, y], argTypes := ts }, ty, pos, af, gd⟩ w (.int k z) := by
  subst h; simp [Ev, execOp, resolve, hx, hy, invoke, builtin, Builtin.min_, Builtin.min2]
end ops
section more
variable {P : Program} {n : Nat} {e : Nat → Value} {w : World} {K : Act → World → Prop} {Q : Exit → Act → World → Prop} {ty : TypeId} {pos : String} {af : Array Edge} {gd : Option (Nat × Bool)}
theorem evK {o : Oper} {v : Value} (h : (execOp (ev n e) o).run P w = .ok (.value v) w) : Ev P n e o w v := h
theorem evSliceHi {d : Option Nat} {t el : TypeId} {x y : Operand} {A : Option Addr} {len cap size : Nat} {k : IntKind} {z : Int} (h : Nat) (ht : P.underlying t = some (.slice el)) (hs : ∀ w, (sizeOf el).run P w = .ok size w)
    (hx : ev n e x = .slice A len cap) (hy : ev n e y = .int k z) (hz : z = (h : Int)) (h2 : h ≤ cap) :
    Ev P n e ⟨d, .slice t x none (some y) none, ty, pos, af, gd⟩ w (.slice A h cap) := by
  have := evSlice (P := P) (w := w) (d := d) (ty := ty) (pos := pos) (af := af) (gd := gd) 0 h ht hs hx (lo := none) (hi := some y) rfl ⟨k, z, hy, hz⟩ (Nat.zero_le _) h2
  have e1 : (if cap = 0 then A else A.map (·.add (0 * size))) = A := by
    split
    · rfl
    · cases A <;> simp [Addr.add]
  rw [e1] at this
  exact this
theorem evSliceLo {d : Option Nat} {t el : TypeId} {x y : Operand} {A : Option Addr} {len cap size : Nat} {k : IntKind} {z : Int} (l : Nat) (ht : P.underlying t = some (.slice el)) (hs : ∀ w, (sizeOf el).run P w = .ok size w)
    (hx : ev n e x = .slice A len cap) (hy : ev n e y = .int k z) (hz : z = (l : Int)) (h1 : l ≤ len) (h2 : len ≤ cap) :
    Ev P n e ⟨d, .slice t x (some y) none none, ty, pos, af, gd⟩ w (.slice (if cap = l then A else A.map (·.add (l * size))) (len - l) (cap - l)) :=
  evSlice l len ht hs hx (lo := some y) (hi := none) ⟨k, z, hy, hz⟩ rfl h1 h2
theorem evFA {d : Option Nat} {s : TypeId} {x : Operand} {f off : Nat} {b o : Nat} (p : Nat) (hf : ∀ a w, (Instr.fieldAt s (.pointer (some a)) f).run P w = .ok (.pointer (some (a.add off))) w)
    (hx : ev n e x = .pointer (some ⟨b, o, none⟩)) (hp : o + off = p) : Ev P n e ⟨d, .fieldAddr s x f, ty, pos, af, gd⟩ w (.pointer (some ⟨b, p, none⟩)) := by
  subst hp
  simp [Ev, execOp, hx, hf, addr_add]
theorem evLoadB {d : Option Nat} {t t' : TypeId} {a : Operand} {g o : Nat} {v : Value} {cs : List Value} (ht : oneB P t = true) (ha : ev n e a = .pointer (some ⟨g, o, none⟩)) (hb : Blk w g t' cs) (hv : cs[o]? = some v) :
    Ev P n e ⟨d, .load t a, ty, pos, af, gd⟩ w v := evLoad ht ha (hb.at_ hv)
theorem evLoadAB {d : Option Nat} {t t' : TypeId} {a : Operand} {g o : Nat} {cs : List Value} (vs : List Value) (ht : aggB P t = true) (hs : ∀ w, (sizeOf t).run P w = .ok vs.length w) (ha : ev n e a = .pointer (some ⟨g, o, none⟩)) (hb : Blk w g t' cs)
    (hv : (cs.drop o).take vs.length = vs) : Ev P n e ⟨d, .load t a, ty, pos, af, gd⟩ w (.agg vs.toArray) :=
  evLoadA vs ht hs ha fun j v hj => by
    rw [addr_add, hb.cell]
    have hlt : j < vs.length := by
      rcases Nat.lt_or_ge j vs.length with h | h
      · exact h
      · rw [List.getElem?_eq_none h] at hj; cases hj
    rw [← hv, List.getElem?_take_of_lt hlt, List.getElem?_drop] at hj
    exact hj
theorem resT {t : Nat} {v : Value} (h : ev n e (.tmp t) = v) : ResIs P n e w (.tmp t) v := h
theorem resB {a : Nat} {t t' : TypeId} {g : Nat} (vs : List Value) (ht : aggB P t = true) (hs : ∀ w, (sizeOf t).run P w = .ok vs.length w) (ha : ev n e (.tmp a) = .pointer (some ⟨g, 0, none⟩)) (hb : Blk w g t' vs) : ResIs P n e w (.cell a t) (.agg vs.toArray) :=
  ⟨_, ha, run_loadVarA ht hs fun j v hj => by rw [addr_add, Nat.zero_add, hb.cell]; exact hj⟩
theorem oMake1 {d : Nat} {t el : TypeId} {l c : Operand} {k1 k2 : IntKind} {z : Value} {bytes : Nat} (m : Nat) (ht : P.underlying t = some (.slice el))
    (hi : (P.info? el).map (fun i => (i.zero, i.size, i.bytes)) = some (some z, 1, bytes)) (hz1 : z.oneCell' = true) (hl : ev n e l = .int k1 (m : Int)) (hc : ev n e c = .int k2 (m : Int))
    (hb : bytes * m ≤ 281474976710656) (hm : m ≤ 9223372036854775807)
    (k : ∀ g w', g = w.heap.size → Ext w w' → w'.heap.size = g + 1 → Blk w' g el (List.replicate m z) → K (mkA dfs n (upd e d (.slice (some ⟨g, 0, none⟩) m m))) w') :
    OpW P ⟨some d, .makeSlice t l c, ty, pos, af, gd⟩ (mkA dfs n e) w K Q := by
  refine oMake m ht hi hl hc hb hm fun g w' h1 h2 h3 h4 => k g w' h1 h2 h3 ?_
  have hcells : z.cells = #[z] := by cases z <;> first | rfl | (simp [Value.oneCell'] at hz1)
  have : (madeCells z.cells (m * 1)).toList = List.replicate m z := by
    rw [hcells]
    apply List.ext_getElem
    · simp [madeCells]
    · intro i h1 h2
      simp [madeCells]
      have : i % 1 = 0 := Nat.mod_one i
      simp [this]
  rw [this] at h4
  exact h4
end more
theorem wI64 {x z : Int} (h : x = z ∧ -9223372036854775808 ≤ z ∧ z ≤ 9223372036854775807) : IntKind.i64.wrap x = z := by
  obtain ⟨rfl, h1, h2⟩ := h
  simp only [IntKind.wrap, IntKind.bits, IntKind.signed]
  simp only [Bool.true_and]
  split <;> rename_i hh <;> simp at hh <;> omega
theorem wU32 {x z : Int} (h : x = z ∧ 0 ≤ z ∧ z < 4294967296) : IntKind.u32.wrap x = z := by
  obtain ⟨rfl, h1, h2⟩ := h
  simp only [IntKind.wrap, IntKind.bits, IntKind.signed]
  simp
  omega
theorem wU64 {x z : Int} (h : x = z ∧ 0 ≤ z ∧ z < 18446744073709551616) : IntKind.u64.wrap x = z := by
  obtain ⟨rfl, h1, h2⟩ := h
  simp only [IntKind.wrap, IntKind.bits, IntKind.signed]
  simp
  omega
theorem wU32m {x z : Int} (h : z = x % 4294967296) : IntKind.u32.wrap x = z := by
  subst h
  simp [IntKind.wrap, IntKind.bits, IntKind.signed]
theorem wU64m {x z : Int} (h : z = x % 18446744073709551616) : IntKind.u64.wrap x = z := by
  subst h
  simp [IntKind.wrap, IntKind.bits, IntKind.signed]
theorem wI {x z : Int} (h : x = z ∧ -9223372036854775808 ≤ z ∧ z ≤ 9223372036854775807 := by omega) : IntKind.i64.wrap x = z := wI64 h
theorem cI {k : IntKind} {a b : Int} (h : a = b := by omega) : Value.int k a = Value.int k b := congrArg _ h
theorem dT {p : Prop} [Decidable p] (h : p) : decide p = true := decide_eq_true h
theorem dF {p : Prop} [Decidable p] (h : ¬ p) : decide p = false := decide_eq_false h
end Go.Gx
namespace Go.Gx
variable {dfs : List Deferred}
theorem shr_div {a b : Int} {k : IntKind} (n : Nat) (hn : min b.toNat k.bits = n) (p : Int) (hp : (2 : Int) ^ n = p) (h0 : 0 ≤ p) : a.fdiv (2 ^ (min b.toNat k.bits)) = a / p := by
  rw [hn, hp]; exact Int.fdiv_eq_ediv_of_nonneg _ h0
theorem oEv {P : Program} {n : Nat} {e : Nat → Value} {w : World} {K : Act → World → Prop} {Q : Exit → Act → World → Prop} {o : Oper} {d : Nat} {v : Value} (hv : Ev P n e o w v) (hd : o.dst = some d) (k : K (mkA dfs n (upd e d v)) w) :
    OpW P o (mkA dfs n e) w K Q := by
  unfold OpW Oper.wp
  rw [eval_mkA, hv]
  show K ((mkA dfs n e).put o.dst v) w
  rw [hd, put_mkA]
  exact k
end Go.Gx

/-
  Drawn regions: allocations that are not ordered with the calls. They come up at any time; the walk takes the other operations once, each from a world that may have grown.
-/
namespace Go.Gx
open Go.RowKit
def over (ds : List Nat) (fl e : Nat → Value) : Nat → Value := fun s => bif ds.any (Nat.beq s) then fl s else e s
inductive Rch (ks : List Nat) (l0 : Array Bool) : List Nat → Array Bool → Prop
  | nil : Rch ks l0 ks l0
  | cons {p : List Nat} {l : Array Bool} {k : Nat} : Rch ks l0 p l → k ∈ p → Rch ks l0 (p.erase k) (l.setIfInBounds k true)
section
variable {P : Program} {ops : Array Oper} {Q : Exit → Act → World → Prop} {G : Nat → Prop} {n : Nat}
def Sep (v : Value) (i : Nat × Nat) : Prop := ∀ q o r, v = .pointer (some ⟨q, o, r⟩) → q < i.1 ∨ i.2 ≤ q
structure Dn (ks : List Nat) (dOf : Nat → Nat) (Φ : Nat → Value → World → Prop) (Iv : List (Nat × Nat)) (p : List Nat) (fl : Nat → Value) (w : World) : Prop where
  is : ∀ k ∈ ks, k ∉ p → Φ k (fl (dOf k)) w
  ne : ∀ k ∈ ks, ∀ k' ∈ ks, k ∉ p → k' ∉ p → k ≠ k' → fl (dOf k) ≠ fl (dOf k')
  out : ∀ k ∈ ks, k ∉ p → ∀ i ∈ Iv, Sep (fl (dOf k)) i
def Wf (P : Program) (ops : Array Oper) (Q : Exit → Act → World → Prop) (G : Nat → Prop) (n : Nat) (ks : List Nat) (dOf : Nat → Nat) (Φ : Nat → Value → World → Prop) (B : Nat) (Iv : List (Nat × Nat)) (fuel : Nat) (l0 : Array Bool) (e : Nat → Value) (w : World) : Prop :=
  (B ≤ w.heap.size ∧ ∀ i ∈ Iv, i.2 ≤ w.heap.size) → ∀ p l fl w', Rch ks l0 p l → Ext w w' → Dn ks dOf Φ Iv p fl w' → Dr P ops Q G (fuel + p.length) l (mkA [] n (over (ks.map dOf) fl e)) w'
variable {ks : List Nat} {dOf : Nat → Nat} {Φ : Nat → Value → World → Prop} {B : Nat} {Iv : List (Nat × Nat)}
end
attribute [irreducible] Wf
end Go.Gx

/-
  What slices hold: readings of memory as lists; digits and their value. No program in sight.
-/
namespace Go.Gx
open Go.RowKit
variable {dfs : List Deferred}
def trimB {α : Type} (p : α → Bool) (l : List α) : List α := (l.reverse.dropWhile p).reverse
theorem trimB_snoc_yes {α : Type} (p : α → Bool) (l : List α) (x : α) (h : p x = true) : trimB p (l ++ [x]) = trimB p l := by
  simp [trimB, h]
theorem trimB_snoc_no {α : Type} (p : α → Bool) (l : List α) (x : α) (h : p x = false) : trimB p (l ++ [x]) = l ++ [x] := by
  simp [trimB, h]
theorem snoc_cases {α : Type} (l : List α) : l = [] ∨ ∃ k x, l = k ++ [x] := by
  rcases List.eq_nil_or_concat l with h | ⟨k, x, h⟩
  · exact .inl h
  · exact .inr ⟨k, x, by simpa using h⟩
theorem trimB_of {α : Type} (p : α → Bool) : ∀ (m : Nat) (l : List α) (k : Nat), l.length = k + m → (∀ (j : Nat) x, k ≤ j → l[j]? = some x → p x = true) → (k = 0 ∨ ∃ x, l[k-1]? = some x ∧ p x = false) → trimB p l = l.take k
  | 0, l, k, hl, _, hk => by
    rw [List.take_of_length_le (by omega)]
    rcases snoc_cases l with h | ⟨l', x, rfl⟩
    · subst h; rfl
    · rcases hk with hk | ⟨y, hy, hp⟩
      · subst hk; simp at hl
      · simp at hl
        have : (l' ++ [x])[k-1]? = some x := by
          rw [show k - 1 = l'.length by omega]; simp
        rw [this] at hy
        injection hy with hy
        subst hy
        exact trimB_snoc_no p l' x hp
  | m + 1, l, k, hl, hz, hk => by
    rcases snoc_cases l with h | ⟨l', x, rfl⟩
    · subst h; simp at hl
    · simp at hl
      have hx : p x = true := hz l'.length x (by omega) (by simp)
      rw [trimB_snoc_yes p l' x hx]
      rw [trimB_of p m l' k (by omega) (fun j y hj hy => hz j y hj (by
        rw [List.getElem?_append_left]
        · exact hy
        · rcases Nat.lt_or_ge j l'.length with h | h
          · exact h
          · rw [List.getElem?_eq_none h] at hy; cases hy)) ?_]
      · rw [List.take_append_of_le_length (by omega)]
      · rcases hk with hk | ⟨y, hy, hp⟩
        · exact .inl hk
        · refine .inr ⟨y, ?_, hp⟩
          rcases Nat.eq_zero_or_pos k with h0 | h0
          · subst h0
            have := hz 0 y (Nat.le_refl _) hy
            rw [this] at hp; cases hp
          · rw [List.getElem?_append_left (by omega)] at hy
            exact hy
theorem trimB_last {α : Type} (p : α → Bool) (l : List α) {k : List α} {x : α} (h : trimB p l = k ++ [x]) : p x = false := by
  have h2 : ∀ (m : Nat) (l : List α), l.length = m → ∀ k x, trimB p l = k ++ [x] → p x = false := by
    intro m
    induction m with
    | zero => intro l hl k x h; simp [List.eq_nil_of_length_eq_zero hl, trimB] at h
    | succ m ih =>
      intro l hl k x h
      rcases snoc_cases l with h0 | ⟨l', y, rfl⟩
      · subst h0; simp at hl
      · cases hy : p y with
        | true => rw [trimB_snoc_yes p l' y hy] at h; exact ih l' (by simpa using hl) k x h
        | false =>
          rw [trimB_snoc_no p l' y hy] at h
          have := List.append_inj_right' h rfl
          simp at this
          subst this
          exact hy
  exact h2 _ l rfl k x h
theorem trimB_idem {α : Type} (p : α → Bool) (l : List α) : trimB p (trimB p l) = trimB p l := by
  rcases snoc_cases (trimB p l) with h | ⟨k, x, h⟩
  · rw [h]; rfl
  · rw [h]; exact trimB_snoc_no p k x (trimB_last p l h)
def Canon {α : Type} (p : α → Bool) (l : List α) : Prop := trimB p l = l
theorem canon_trim {α : Type} (p : α → Bool) (l : List α) : Canon p (trimB p l) := trimB_idem p l
theorem canon_nil {α : Type} (p : α → Bool) : Canon p ([] : List α) := rfl
theorem canon_snoc {α : Type} {p : α → Bool} {l : List α} {x : α} : Canon p (l ++ [x]) ↔ p x = false := by
  constructor
  · intro h; exact trimB_last p _ h
  · intro h; exact trimB_snoc_no p l x h
abbrev BS : Nat := 4294967296
def isZ (d : Nat) : Bool := d == 0
abbrev trimN (ds : List Nat) : List Nat := trimB isZ ds
def val : List Nat → Nat
  | [] => 0
  | d :: ds => d + BS * val ds
theorem val_append (a b : List Nat) : val (a ++ b) = val a + BS ^ a.length * val b := by
  induction a with
  | nil => simp [val]
  | cons d a ih => simp only [List.cons_append, val, ih, List.length_cons, Nat.pow_succ]; rw [Nat.mul_add, ← Nat.mul_assoc, Nat.mul_comm (BS ^ a.length) BS, Nat.add_assoc]
theorem val_snoc (a : List Nat) (d : Nat) : val (a ++ [d]) = val a + BS ^ a.length * d := by
  rw [val_append]; simp [val]
theorem val_snoc_zero (a : List Nat) : val (a ++ [0]) = val a := by rw [val_snoc]; simp
theorem val_trim (ds : List Nat) : val (trimN ds) = val ds := by
  have h : ∀ (m : Nat) (l : List Nat), l.length = m → val (trimN l) = val l := by
    intro m
    induction m with
    | zero => intro l hl; simp [List.eq_nil_of_length_eq_zero hl, trimB]
    | succ m ih =>
      intro l hl
      rcases snoc_cases l with h0 | ⟨l', y, rfl⟩
      · subst h0; simp at hl
      · cases hy : isZ y with
        | true =>
          have : y = 0 := by simpa [isZ] using hy
          subst this
          show val (trimB isZ _) = _
          rw [trimB_snoc_yes isZ l' 0 hy, val_snoc_zero]
          exact ih l' (by simpa using hl)
        | false =>
          show val (trimB isZ _) = _
          rw [trimB_snoc_no isZ l' y hy]
  exact h _ ds rfl
theorem val_lt : ∀ (ds : List Nat), (∀ d ∈ ds, d < BS) → val ds < BS ^ ds.length
  | [], _ => by simp [val]
  | d :: ds, h => by
    have h1 := h d (by simp)
    have h2 := val_lt ds fun x hx => h x (by simp [hx])
    simp only [val, List.length_cons, Nat.pow_succ]
    have h3 : BS * (val ds + 1) ≤ BS * BS ^ ds.length := Nat.mul_le_mul_left _ h2
    rw [Nat.mul_comm (BS ^ ds.length) BS]
    have : BS * (val ds + 1) = BS * val ds + BS := by rw [Nat.mul_add, Nat.mul_one]
    omega
theorem val_getD (ds : List Nat) (k : Nat) : val (ds.take (k + 1)) = val (ds.take k) + BS ^ k * ds.getD k 0 := by
  rcases Nat.lt_or_ge k ds.length with h | h
  · rw [List.take_succ_eq_append_getElem h, val_snoc]
    rw [List.length_take, Nat.min_eq_left (by omega)]
    simp [List.getD, h]
  · rw [List.take_of_length_le (by omega), List.take_of_length_le h]
    simp [List.getD, List.getElem?_eq_none h]
abbrev CapMax : Nat := 9223372036854775807
def Rd (w : World) (S : Nat → Prop) (A : Option Addr) (n c k : Nat) (cs : List Value) : Prop :=
  cs.length = n * k ∧ n ≤ c ∧ c ≤ CapMax ∧
    (0 < n → ∃ b off, A = some ⟨b, off, none⟩ ∧ S b ∧ b < w.heap.size ∧ ∀ (j : Nat) v, cs[j]? = some v → w.cell? ⟨b, off + j, none⟩ = some v)
section rd
variable {w w' : World} {S S' G : Nat → Prop} {A : Option Addr} {n c k : Nat} {cs : List Value}
theorem Rd.frm (h : Rd w S A n c k cs) (f : Frm G w w') (hd : ∀ b, S b → ¬ G b) : Rd w' S A n c k cs :=
  ⟨h.1, h.2.1, h.2.2.1, fun hn => by
    obtain ⟨b, off, e, hs, hb, hc⟩ := h.2.2.2 hn
    exact ⟨b, off, e, hs, Nat.lt_of_lt_of_le hb f.size, fun j v hj => (f.cell (p := ⟨b, off + j, none⟩) hb (hd b hs)).trans (hc j v hj)⟩⟩
theorem Rd.frmB (h : Rd w S A n c k cs) (f : Frm G w w') (hd : ∀ b, b < w.heap.size → S b → ¬ G b) : Rd w' S A n c k cs :=
  ⟨h.1, h.2.1, h.2.2.1, fun hn => by
    obtain ⟨b, off, e, hs, hb, hc⟩ := h.2.2.2 hn
    exact ⟨b, off, e, hs, Nat.lt_of_lt_of_le hb f.size, fun j v hj => (f.cell (p := ⟨b, off + j, none⟩) hb (hd b hb hs)).trans (hc j v hj)⟩⟩
theorem Rd.ext (h : Rd w S A n c k cs) (f : Ext w w') : Rd w' S A n c k cs := h.frm f fun _ _ g => g
theorem Rd.sub (h : Rd w S A n c k cs) (hs : ∀ b, b < w.heap.size → S b → S' b) : Rd w S' A n c k cs :=
  ⟨h.1, h.2.1, h.2.2.1, fun hn => by
    obtain ⟨b, off, e, hS, hb, hc⟩ := h.2.2.2 hn
    exact ⟨b, off, e, hs b hb hS, hb, hc⟩⟩
theorem Rd.low (h : Rd w S A n c k cs) : Rd w (· < w.heap.size) A n c k cs := h.sub fun _ hb _ => hb
theorem Rd.nil : Rd w S none 0 0 k [] := ⟨by simp, Nat.le_refl _, Nat.zero_le _, fun h => absurd h (by omega)⟩
theorem Rd.base (h : Rd w S A n c k cs) (hn : 0 < n) : ∃ b off, A = some ⟨b, off, none⟩ := by
  obtain ⟨b, off, e, _⟩ := h.2.2.2 hn
  exact ⟨b, off, e⟩
theorem Rd.cell {b off : Nat} (h : Rd w S (some ⟨b, off, none⟩) n c k cs) {j : Nat} {v : Value} (hj : cs[j]? = some v) : w.cell? ⟨b, off + j, none⟩ = some v := by
  have hn : 0 < n := by
    rcases Nat.eq_zero_or_pos n with h0 | h0
    · have := h.1; rw [h0, Nat.zero_mul] at this
      rw [List.eq_nil_of_length_eq_zero this] at hj; cases hj
    · exact h0
  obtain ⟨b', off', e, _, _, hc⟩ := h.2.2.2 hn
  injection e with e
  injection e with e1 e2
  subst e1 e2
  exact hc j v hj
theorem Rd.take {m : Nat} (h : Rd w S A n c k cs) (hm : m ≤ n) : Rd w S A m c k (cs.take (m * k)) := by
  refine ⟨by rw [List.length_take, h.1]; exact Nat.min_eq_left (Nat.mul_le_mul_right k hm), Nat.le_trans hm h.2.1, h.2.2.1, fun h0 => ?_⟩
  obtain ⟨b, off, e, hs, hb, hc⟩ := h.2.2.2 (by omega)
  refine ⟨b, off, e, hs, hb, fun j v hj => hc j v ?_⟩
  rw [List.getElem?_take] at hj
  split at hj
  · exact hj
  · cases hj
theorem Rd.drop {m : Nat} (h : Rd w S A n c k cs) (hm : m ≤ n) : Rd w S (if c = m then A else A.map (·.add (m * k))) (n - m) (c - m) k (cs.drop (m * k)) := by
  have h1 := h.2.1
  refine ⟨by rw [List.length_drop, h.1, Nat.sub_mul], by omega, by have := h.2.2.1; omega, fun h0 => ?_⟩
  obtain ⟨b, off, e, hs, hb, hc⟩ := h.2.2.2 (by omega)
  subst e
  rw [if_neg (by omega)]
  refine ⟨b, off + m * k, by simp [addr_add], hs, hb, fun j v hj => ?_⟩
  rw [Nat.add_assoc]
  exact hc (m * k + j) v (by rw [← hj, List.getElem?_drop])
theorem Rd.of_blk {g : Nat} {t : TypeId} (h : Blk w g t cs) (hS : S g) (hl : cs.length = n * k) (hc : n ≤ c) (hm : c ≤ CapMax) : Rd w S (some ⟨g, 0, none⟩) n c k cs :=
  ⟨hl, hc, hm, fun _ => ⟨g, 0, rfl, hS, h.lt, fun j v hj => by rw [Nat.zero_add]; exact h.at_ hj⟩⟩
end rd
def u32 (d : Nat) : Value := .int .u32 (d : Int)
def NatR (w : World) (S : Nat → Prop) (A : Option Addr) (n c : Nat) (ds : List Nat) : Prop := Rd w S A n c 1 (ds.map u32) ∧ ∀ d ∈ ds, d < BS
section natr
variable {w w' : World} {S S' G : Nat → Prop} {A : Option Addr} {n c : Nat} {ds : List Nat}
theorem NatR.frm (h : NatR w S A n c ds) (f : Frm G w w') (hd : ∀ b, S b → ¬ G b) : NatR w' S A n c ds := ⟨h.1.frm f hd, h.2⟩
theorem NatR.frmB (h : NatR w S A n c ds) (f : Frm G w w') (hd : ∀ b, b < w.heap.size → S b → ¬ G b) : NatR w' S A n c ds := ⟨h.1.frmB f hd, h.2⟩
theorem NatR.ext (h : NatR w S A n c ds) (f : Ext w w') : NatR w' S A n c ds := ⟨h.1.ext f, h.2⟩
theorem NatR.sub (h : NatR w S A n c ds) (hs : ∀ b, b < w.heap.size → S b → S' b) : NatR w S' A n c ds := ⟨h.1.sub hs, h.2⟩
theorem NatR.low (h : NatR w S A n c ds) : NatR w (· < w.heap.size) A n c ds := ⟨h.1.low, h.2⟩
theorem NatR.nil : NatR w S none 0 0 [] := ⟨Rd.nil, by simp⟩
theorem NatR.len (h : NatR w S A n c ds) : ds.length = n := by have := h.1.1; simpa using this
theorem NatR.cap (h : NatR w S A n c ds) : n ≤ c := h.1.2.1
theorem NatR.max (h : NatR w S A n c ds) : c ≤ 9223372036854775807 := h.1.2.2.1
theorem NatR.lkm (h : NatR w S A n c ds) : ds.length = n ∧ n ≤ c ∧ c ≤ 9223372036854775807 := ⟨h.len, h.cap, h.max⟩
theorem NatR.base (h : NatR w S A n c ds) (hn : 0 < n) : ∃ b off, A = some ⟨b, off, none⟩ := h.1.base hn
theorem NatR.lt (h : NatR w S A n c ds) (i : Nat) : ds.getD i 0 < 4294967296 := by
  rcases Nat.lt_or_ge i ds.length with hi | hi
  · simp only [List.getD, List.getElem?_eq_getElem hi, Option.getD_some]; exact h.2 _ (List.getElem_mem hi)
  · simp [List.getD, List.getElem?_eq_none hi]
theorem NatR.cell {b off : Nat} (h : NatR w S (some ⟨b, off, none⟩) n c ds) {i : Nat} (hi : i < n) : w.cell? ⟨b, off + i, none⟩ = some (.int .u32 ((ds.getD i 0 : Nat) : Int)) := by
  refine h.1.cell ?_
  have hl : i < ds.length := by rw [h.len]; exact hi
  simp [List.getElem?_map, List.getElem?_eq_getElem hl, u32]
theorem NatR.take {m : Nat} (h : NatR w S A n c ds) (hm : m ≤ n) : NatR w S A m c (ds.take m) := by
  refine ⟨?_, fun d hd => h.2 d (List.mem_of_mem_take hd)⟩
  have := h.1.take hm
  rw [Nat.mul_one, ← List.map_take] at this
  exact this
theorem NatR.drop {m : Nat} (h : NatR w S A n c ds) (hm : m ≤ n) : NatR w S (if c = m then A else A.map (·.add (m * 1))) (n - m) (c - m) (ds.drop m) := by
  refine ⟨?_, fun d hd => h.2 d (List.mem_of_mem_drop hd)⟩
  have := h.1.drop hm
  rw [Nat.mul_one, ← List.map_drop] at this
  rw [Nat.mul_one]
  exact this
theorem NatR.of_blk {g : Nat} {t : TypeId} (h : Blk w g t (ds.map u32)) (hS : S g) (hd : ∀ d ∈ ds, d < BS) (hl : ds.length = n) (hc : n ≤ c) (hm : c ≤ CapMax) : NatR w S (some ⟨g, 0, none⟩) n c ds :=
  ⟨Rd.of_blk h hS (by simpa using hl) hc hm, hd⟩
end natr
def zval (neg : Bool) (ds : List Nat) : Int := if neg then -(val ds : Int) else (val ds : Int)
end Go.Gx
namespace Go.Gx
variable {dfs : List Deferred}
theorem getD_ge {ds : List Nat} {n : Nat} (h : ds.length ≤ n) : ∀ j, n ≤ j → ds.getD j 0 = 0 := by
  intro j hj; simp [List.getD, List.getElem?_eq_none (by omega : ds.length ≤ j)]
theorem zeros_down {ds : List Nat} {k : Nat} (h : ∀ j, k ≤ j → ds.getD j 0 = 0) (h1 : ds.getD (k - 1) 0 = 0) : ∀ j, k - 1 ≤ j → ds.getD j 0 = 0 := by
  intro j hj
  rcases Nat.lt_or_ge j k with hl | hl
  · have : j = k - 1 := by omega
    subst this; exact h1
  · exact h j hl
theorem trimN_of {ds : List Nat} {k : Nat} (hk : k ≤ ds.length) (hz : ∀ j, k ≤ j → ds.getD j 0 = 0) (hl : k = 0 ∨ ds.getD (k - 1) 0 ≠ 0) : ds.take k = trimN ds := by
  refine (trimB_of isZ (ds.length - k) ds k (by omega) (fun j x hj hx => ?_) ?_).symm
  · have := hz j hj; simp [List.getD, hx] at this; simp [isZ, this]
  · rcases Nat.eq_zero_or_pos k with h0 | h0
    · exact .inl h0
    · right
      rcases hl with hl | hl
      · omega
      · have hlt : k - 1 < ds.length := by omega
        refine ⟨ds[k-1], List.getElem?_eq_getElem hlt, ?_⟩
        simp [List.getD, hlt] at hl
        simpa [isZ] using hl
end Go.Gx
namespace Go.Gx
open Go.RowKit
variable {dfs : List Deferred}
section copy
variable {P : Program} {n : Nat} {e : Nat → Value} {w : World} {K : Act → World → Prop} {Q : Exit → Act → World → Prop} {ty : TypeId} {pos : String} {af : Array Edge} {gd : Option (Nat × Bool)}
theorem oCopy {d : Option Nat} {x y : Operand} {t t' el bt : TypeId} {S : Nat → Prop} {A : Option Addr} {g off dl dc m c : Nat} {cs ds : List Value} (ht : P.underlying t = some (.slice el)) (hs : ∀ w, (sizeOf el).run P w = .ok 1 w)
    (hx : ev n e x = .slice (some ⟨g, off, none⟩) dl dc) (hy : ev n e y = .slice A m c) (hr : Rd w S A m c 1 cs) (h1 : cs.all Value.oneCell' = true) (hb : Blk w g bt ds) (hm : m ≤ dl) (hl : off + m ≤ ds.length)
    (k : ∀ w', Frm (fun b => b = g) w w' → w'.heap.size = w.heap.size → Blk w' g bt (ds.take off ++ cs ++ ds.drop (off + m)) → K ((mkA dfs n e).put d (.int .i64 (m : Int))) w') :
    OpW P ⟨d, .call { callee := .builtin .copy, args := #[x, y], argTypes := #[t, t'] }, ty, pos, af, gd⟩ (mkA dfs n e) w K Q := by
  have hcl : cs.length = m := by have := hr.1; simpa using this
  have hmin : Nat.min m dl = m := Nat.min_eq_left hm
  have hf : (Builtin.firstCells 1 m (.slice A m c)).run P w = .ok cs.toArray w := by
    cases A with
    | none =>
      have h0 : m = 0 := by
        rcases Nat.eq_zero_or_pos m with h | h
        · exact h
        · obtain ⟨b, o, e, _⟩ := hr.2.2.2 h; cases e
      subst h0
      have : cs = [] := List.eq_nil_of_length_eq_zero hcl
      subst this
      simp [Builtin.firstCells]
    | some a =>
      have := run_loadCells_list (P := P) w a cs (fun j v hj => by
        have hpos : 0 < m := by
          rcases Nat.eq_zero_or_pos m with h | h
          · subst h; rw [List.eq_nil_of_length_eq_zero hcl] at hj; cases hj
          · exact h
        obtain ⟨b, o, e, _, _, hc⟩ := hr.2.2.2 hpos
        injection e with e
        subst e
        rw [addr_add]
        exact hc j v hj)
      rw [hcl] at this
      simp [Builtin.firstCells, this]
  have hst := run_storeCells_at P g off bt cs 0 ds.toArray w hb (by simp [hcl]; exact hl) (List.all_eq_true.1 h1)
  simp only [Nat.add_zero] at hst
  have hrun : (Builtin.copy_ #[t, t'] ty #[.slice (some ⟨g, off, none⟩) dl dc, .slice A m c]).run P w = .ok (goInt m) (w.setRow g (ds.take off ++ cs ++ ds.drop (off + m)).toArray) := by
    rw [hcl] at hst
    simp [Builtin.copy_, run_underlying ht, Builtin.lenOf, hmin, hs, hf, hst]
  unfold OpW Oper.wp
  rw [eval_mkA]
  simp only [execOp, resolve, invoke, builtin, Sem.run_bind, Sem.run_pure, Result.andThen_ok, List.map_toArray, List.map_cons, List.map_nil, hx, hy, hrun, Oper.upon]
  refine k _ ⟨rfl, rfl, rfl, by simp [World.setRow], Nat.le_refl _, fun j _ hj => ?_⟩ (by simp [World.setRow]) ?_
  · simp only [World.setRow, Array.getElem?_modify]
    rw [if_neg (fun h => hj h.symm)]
  · exact setRow_heap w g ds.toArray (ds.take off ++ cs ++ ds.drop (off + m)).toArray bt (0, 0) hb
end copy
theorem u32s_one (ds : List Nat) : (ds.map u32).all Value.oneCell' = true := by
  induction ds with
  | nil => rfl
  | cons d ds ih => simp only [List.map_cons, List.all_cons, ih]; rfl
theorem Blk.dig {w : World} {g : Nat} {t : TypeId} {ds : List Nat} (h : Blk w g t (ds.map u32)) {i : Nat} (hi : i < ds.length) : w.cell? ⟨g, i, none⟩ = some (.int .u32 ((ds.getD i 0 : Nat) : Int)) := by
  refine h.at_ ?_
  simp [List.getElem?_map, List.getElem?_eq_getElem hi, u32]
theorem fill_set (P : List Nat) (m s : Nat) (hm : 0 < m) : (P ++ List.replicate m 0).set P.length s = (P ++ [s]) ++ List.replicate (m - 1) 0 := by
  obtain ⟨j, rfl⟩ : ∃ j, m = j + 1 := ⟨m - 1, by omega⟩
  rw [List.replicate_succ]
  simp
end Go.Gx
namespace Go.Gx
variable {dfs : List Deferred}
theorem getD_lt {ds : List Nat} {i : Nat} (h : ∀ d ∈ ds, d < BS) : ds.getD i 0 < 4294967296 := by
  rcases Nat.lt_or_ge i ds.length with hi | hi
  · simp only [List.getD, List.getElem?_eq_getElem hi, Option.getD_some]; exact h _ (List.getElem_mem hi)
  · simp [List.getD, List.getElem?_eq_none hi]
theorem canon_zero {ds : List Nat} (h : val ds = 0) : trimN ds = [] := by
  rcases snoc_cases (trimN ds) with h0 | ⟨k, x, h0⟩
  · exact h0
  · have h1 := trimB_last isZ ds h0
    have h2 : val (trimN ds) = 0 := by rw [val_trim]; exact h
    rw [h0, val_snoc] at h2
    have h3 : x ≠ 0 := by intro e; subst e; simp [isZ] at h1
    have h4 : 0 < BS ^ k.length * x := Nat.mul_pos (Nat.pow_pos (by decide)) (by omega)
    omega
theorem isz_true {ds d' : List Nat} (e : d' = trimN ds) (hn : d'.length = 0) : true = decide (val ds = 0) := by
  have h1 : trimN ds = [] := by rw [← e]; exact List.eq_nil_of_length_eq_zero hn
  have : val ds = 0 := by rw [← val_trim, h1]; rfl
  simp [this]
theorem isz_false {ds d' : List Nat} (e : d' = trimN ds) (hn : d'.length ≠ 0) : false = decide (val ds = 0) := by
  have : val ds ≠ 0 := by
    intro h0
    rw [canon_zero h0] at e
    subst e; simp at hn
  simp [this]
theorem lt_zeros (m : Nat) : ∀ d ∈ List.replicate m 0, d < BS := by
  intro d hd
  have := List.eq_of_mem_replicate hd
  subst this; decide
end Go.Gx

/-
  Digits: sums, differences, products. Plain numbers; no program in sight.
-/
namespace Go.Gx
theorem dig_step {P : List Nat} {k c c' X x s : Nat} (h : val P + BS ^ k * c = X) (hl : P.length = k) (hs : s + BS * c' = x + c) : val (P ++ [s]) + BS ^ (k + 1) * c' = X + BS ^ k * x := by
  rw [val_snoc, hl, Nat.pow_succ, Nat.mul_assoc, Nat.add_assoc, ← Nat.mul_add, hs, Nat.mul_add, ← h]
  omega
theorem val_take_all (ds : List Nat) {k : Nat} (h : ds.length ≤ k) : val (ds.take k) = val ds := by rw [List.take_of_length_le h]
theorem add_step {P a b : List Nat} {k c c' s : Nat} (h : val P + BS ^ k * c = val (a.take k) + val (b.take k)) (hl : P.length = k) (hs : s + 4294967296 * c' = a.getD k 0 + b.getD k 0 + c) :
    val (P ++ [s]) + BS ^ (k + 1) * c' = val (a.take (k + 1)) + val (b.take (k + 1)) := by
  replace hs : s + BS * c' = a.getD k 0 + b.getD k 0 + c := hs
  rw [dig_step h hl hs, val_getD, val_getD, Nat.mul_add]
  omega
theorem lt_snoc {P : List Nat} {s : Nat} (h : ∀ d ∈ P, d < BS) (hs : s < 4294967296) : ∀ d ∈ P ++ [s], d < BS := by
  intro d hd
  rcases List.mem_append.1 hd with h1 | h1
  · exact h d h1
  · simp at h1; subst h1; exact hs
theorem lt_fill {P : List Nat} {m : Nat} (h : ∀ d ∈ P, d < BS) : ∀ d ∈ P ++ List.replicate m 0, d < BS := by
  intro d hd
  rcases List.mem_append.1 hd with h1 | h1
  · exact h d h1
  · have := List.eq_of_mem_replicate h1; subst this; decide
theorem add_end {P a b : List Nat} {c : Nat} {n : Nat} (h : val P + BS ^ n * c = val (a.take n) + val (b.take n)) (hl : P.length = n) (ha : a.length ≤ n) (hb : b.length ≤ n) : val (P ++ [c]) = val a + val b := by
  rw [val_snoc, hl, h, val_take_all a ha, val_take_all b hb]
theorem sub_step {P a b : List Nat} {k c c' s : Nat} (h : val P + val (b.take k) = val (a.take k) + BS ^ k * c) (hl : P.length = k) (hs : s + b.getD k 0 + c = a.getD k 0 + 4294967296 * c') :
    val (P ++ [s]) + val (b.take (k + 1)) = val (a.take (k + 1)) + BS ^ (k + 1) * c' := by
  replace hs : s + b.getD k 0 + c = a.getD k 0 + BS * c' := hs
  rw [val_snoc, hl, val_getD, val_getD, Nat.pow_succ, Nat.mul_assoc]
  have e : BS ^ k * (s + b.getD k 0 + c) = BS ^ k * (a.getD k 0 + BS * c') := by rw [hs]
  rw [Nat.mul_add, Nat.mul_add, Nat.mul_add] at e
  omega
theorem sub_end {P a b : List Nat} {c n : Nat} (h : val P + val (b.take n) = val (a.take n) + BS ^ n * c) (hl : P.length = n) (hlt : ∀ d ∈ P, d < BS) (ha : a.length ≤ n) (hb : b.length ≤ n) (hle : val b ≤ val a) : val P = val a - val b := by
  rw [val_take_all a ha, val_take_all b hb] at h
  have h1 := val_lt P hlt
  rw [hl] at h1
  rcases Nat.eq_zero_or_pos c with h0 | h0
  · subst h0; simp at h; omega
  · have : BS ^ n * 1 ≤ BS ^ n * c := Nat.mul_le_mul_left _ h0
    omega
theorem fill_set2 {P : List Nat} {m m' k s : Nat} (hk : P.length = k) (hm : m = m' + 1) : (P ++ List.replicate m 0).set k s = (P ++ [s]) ++ List.replicate m' 0 := by
  subst hk hm
  rw [fill_set P (m' + 1) s (by omega)]
  simp
theorem last_set {P : List Nat} {m k s : Nat} (hk : P.length = k) (hm : m = 1) : (P ++ List.replicate m 0).set k s = P ++ [s] := by
  subst hm
  rw [fill_set2 (m' := 0) hk rfl]; simp
theorem mul32_le {x y : Nat} (hx : x < 4294967296) (hy : y < 4294967296) : x * y ≤ 18446744065119617025 := by
  have := Nat.mul_le_mul (Nat.le_sub_one_of_lt hx) (Nat.le_sub_one_of_lt hy)
  simpa using this
theorem mulU64 {x y : Nat} (h : x * y ≤ 18446744065119617025) : IntKind.u64.wrap ((x : Int) * (y : Int)) = ((x * y : Nat) : Int) := by
  rw [← Int.natCast_mul]
  exact wU64 (by omega)
theorem of_val {x : Nat} {d : List Nat} (e : d = trimN [x % 4294967296, x / 4294967296 % 4294967296]) (h : x < 18446744073709551616) : val d = x := by
  rw [e, val_trim]
  simp only [val, BS]
  omega
theorem add_fin {r D a b a' b' : List Nat} {X : Nat} (e : r = trimN D) (h : val D = val a' + val b') (ea : a' = trimN a) (eb : b' = trimN b) (hX : val a + val b = X) : val r = X := by
  rw [e, val_trim, h, ea, eb, val_trim, val_trim, hX]
def cmpN (a b : Nat) : Int := if a < b then -1 else if b < a then 1 else 0
theorem getD_ext {a b : List Nat} (hl : a.length = b.length) (h : ∀ j, a.getD j 0 = b.getD j 0) : a = b := by
  apply List.ext_getElem hl
  intro i h1 h2
  have := h i
  simpa [List.getD, h1, h2] using this
theorem val_split (a : List Nat) {k : Nat} (hk : k ≤ a.length) : val a = val (a.take k) + BS ^ k * val (a.drop k) := by
  have := val_append (a.take k) (a.drop k)
  rw [List.take_append_drop, List.length_take, Nat.min_eq_left hk] at this
  exact this
theorem val_lt_top {a b : List Nat} {k : Nat} (hl : a.length = b.length) (ha : ∀ d ∈ a, d < BS) (heq : ∀ j, k ≤ j → a.getD j 0 = b.getD j 0) (hk : 0 < k) (hkl : k ≤ a.length) (hlt : a.getD (k - 1) 0 < b.getD (k - 1) 0) : val a < val b := by
  obtain ⟨i, rfl⟩ : ∃ i, k = i + 1 := ⟨k - 1, by omega⟩
  simp only [Nat.add_sub_cancel] at hlt
  have hd : a.drop (i + 1) = b.drop (i + 1) := by
    apply getD_ext (by simp [hl])
    intro j
    have := heq (i + 1 + j) (by omega)
    simpa [List.getD, List.getElem?_drop] using this
  rw [val_split a hkl, val_split b (k := i + 1) (by omega), hd, val_getD, val_getD]
  have h1 : val (a.take i) < BS ^ (a.take i).length := val_lt _ fun d hd => ha d (List.mem_of_mem_take hd)
  rw [List.length_take, Nat.min_eq_left (by omega)] at h1
  have h2 : BS ^ i * (a.getD i 0 + 1) ≤ BS ^ i * b.getD i 0 := Nat.mul_le_mul_left _ hlt
  rw [Nat.mul_add, Nat.mul_one] at h2
  omega
theorem canon_len_lt {a b : List Nat} (ha : ∀ d ∈ a, d < BS) (hb : Canon isZ b) (h : a.length < b.length) : val a < val b := by
  rcases snoc_cases b with h0 | ⟨k, x, rfl⟩
  · subst h0; simp at h
  · have hx : isZ x = false := canon_snoc.1 hb
    have h1 := val_lt a ha
    rw [val_snoc]
    simp at h
    have h2 : BS ^ a.length ≤ BS ^ k.length := Nat.pow_le_pow_right (by decide) (by omega)
    have h3 : x ≠ 0 := by intro e; subst e; simp [isZ] at hx
    have h4 : BS ^ k.length * 1 ≤ BS ^ k.length * x := Nat.mul_le_mul_left _ (by omega)
    omega
theorem cmp_lt {a b a' b' : List Nat} (ea : a' = trimN a) (eb : b' = trimN b) (h : val a' < val b') : (-1 : Int) = cmpN (val a) (val b) := by
  rw [ea, eb, val_trim, val_trim] at h
  simp [cmpN, h]
theorem cmp_gt {a b a' b' : List Nat} (ea : a' = trimN a) (eb : b' = trimN b) (h : val b' < val a') : (1 : Int) = cmpN (val a) (val b) := by
  rw [ea, eb, val_trim, val_trim] at h
  simp [cmpN, h, Nat.lt_asymm h]
theorem cmp_eq {a b a' b' : List Nat} (ea : a' = trimN a) (eb : b' = trimN b) (h : a' = b') : (0 : Int) = cmpN (val a) (val b) := by
  have : val a = val b := by rw [← val_trim a, ← val_trim b, ← ea, ← eb, h]
  simp [cmpN, this]
theorem eq_down {a b : List Nat} {k : Nat} (h : ∀ j, k ≤ j → a.getD j 0 = b.getD j 0) (h1 : a.getD (k - 1) 0 = b.getD (k - 1) 0) : ∀ j, k - 1 ≤ j → a.getD j 0 = b.getD j 0 := by
  intro j hj
  rcases Nat.lt_or_ge j k with hl | hl
  · have : j = k - 1 := by omega
    subst this; exact h1
  · exact h j hl
theorem eq_top {a b : List Nat} {n : Nat} (ha : a.length ≤ n) (hb : b.length ≤ n) : ∀ j, n ≤ j → a.getD j 0 = b.getD j 0 := by
  intro j hj
  rw [getD_ge ha j hj, getD_ge hb j hj]
theorem cmpN_neg {x : Int} {a b : Nat} (e : x = cmpN a b) (h : x < 0) : a < b := by
  unfold cmpN at e
  split at e
  · assumption
  · split at e <;> omega
theorem cmpN_nn {x : Int} {a b : Nat} (e : x = cmpN a b) (h : ¬ x < 0) : b ≤ a := by
  unfold cmpN at e
  split at e
  · omega
  · omega
theorem canon_len_le {a b : List Nat} (ha : ∀ d ∈ a, d < BS) (hb : Canon isZ b) (h : val b ≤ val a) : b.length ≤ a.length := by
  rcases Nat.lt_or_ge a.length b.length with h1 | h1
  · have := canon_len_lt ha hb h1; omega
  · exact h1
theorem val_fill (P : List Nat) (m : Nat) : val (P ++ List.replicate m 0) = val P := by
  induction m with
  | zero => simp
  | succ m ih =>
    rw [List.replicate_succ', ← List.append_assoc, val_snoc_zero, ih]
theorem sub_fin {r P a b a' b' : List Nat} {m c n : Nat} (e : r = trimN (P ++ List.replicate m 0)) (h : val P + val (b'.take n) = val (a'.take n) + BS ^ n * c) (hl : P.length = n) (hlt : ∀ d ∈ P, d < BS) (ha : a'.length ≤ n) (hb : b'.length ≤ n) (hle : val b' ≤ val a')
    (ea : a' = trimN a) (eb : b' = trimN b) : val r = val a - val b := by
  rw [e, val_trim, val_fill, sub_end h hl hlt ha hb hle, ea, eb, val_trim, val_trim]
theorem le_trims {a b a' b' : List Nat} (ea : a' = trimN a) (eb : b' = trimN b) (h : val b' ≤ val a') : val b ≤ val a := by
  rw [ea, eb, val_trim, val_trim] at h; exact h
theorem lt_trims {a b a' b' : List Nat} (ea : a' = trimN a) (eb : b' = trimN b) (h : val a' < val b') : val a < val b := by
  rw [ea, eb, val_trim, val_trim] at h; exact h
theorem mid_get {R Q Z : List Nat} {k : Nat} (hR : R.length = k) (hk : k < Q.length) : (R ++ Q.drop k ++ Z).getD k 0 = Q.getD k 0 := by
  subst hR
  simp only [List.getD, List.append_assoc]
  rw [List.getElem?_append_right (Nat.le_refl _), Nat.sub_self, List.getElem?_append_left (by simp; omega), List.getElem?_drop]
  simp
theorem mid_set {R Q Z : List Nat} {k s : Nat} (hR : R.length = k) (hk : k < Q.length) : (R ++ Q.drop k ++ Z).set k s = (R ++ [s]) ++ Q.drop (k + 1) ++ Z := by
  subst hR
  rw [List.append_assoc, List.set_append_right _ _ (Nat.le_refl _), Nat.sub_self, List.drop_eq_getElem_cons hk, List.cons_append, List.set_cons_zero]
  simp
theorem mul_step {R Q b : List Nat} {i j c c' x s : Nat} (h : val R + BS ^ (i + j) * c = val (Q.take (i + j)) + BS ^ i * (x * val (b.take j))) (hR : R.length = i + j) (hs : s + 4294967296 * c' = Q.getD (i + j) 0 + x * b.getD j 0 + c) :
    val (R ++ [s]) + BS ^ (i + j + 1) * c' = val (Q.take (i + j + 1)) + BS ^ i * (x * val (b.take (j + 1))) := by
  have e := dig_step (x := Q.getD (i + j) 0 + x * b.getD j 0) h hR (by rw [show BS * c' = 4294967296 * c' from rfl]; omega)
  rw [e, val_getD, val_getD, Nat.mul_add, Nat.mul_add x, Nat.mul_add (BS ^ i)]
  have e2 : BS ^ (i + j) * (x * b.getD j 0) = BS ^ i * (x * (BS ^ j * b.getD j 0)) := by
    rw [Nat.pow_add]
    rw [Nat.mul_assoc, Nat.mul_left_comm (BS ^ j) x]
  omega
theorem mul_carry {q x y c s c' : Nat} (hq : q < 4294967296) (hx : x < 4294967296) (hy : y < 4294967296) (hc : c < 4294967296) (h : s + 4294967296 * c' = q + x * y + c) : c' < 4294967296 := by
  have := mul32_le hx hy
  omega
theorem mul_row {R Q a b : List Nat} {i nb c : Nat} (h : val R + BS ^ (i + nb) * c = val (Q.take (i + nb)) + BS ^ i * (a.getD i 0 * val (b.take nb))) (hR : R.length = i + nb) (hQ : Q.length ≤ i + nb) (hb : b.length ≤ nb) (hv : val Q = val (a.take i) * val b) :
    val (R ++ [c]) = val (a.take (i + 1)) * val b := by
  rw [val_snoc, hR, h, val_take_all Q hQ, val_take_all b hb, hv, val_getD, Nat.add_mul, Nat.mul_assoc]
theorem mul_skip {Q a b : List Nat} {i : Nat} (hx : a.getD i 0 = 0) (hv : val Q = val (a.take i) * val b) : val (Q ++ [0]) = val (a.take (i + 1)) * val b := by
  rw [val_snoc_zero, hv, val_getD, hx]; simp
theorem lt_mid {R Q : List Nat} {k m : Nat} (hR : ∀ d ∈ R, d < BS) (hQ : ∀ d ∈ Q, d < BS) : ∀ d ∈ R ++ Q.drop k ++ List.replicate m 0, d < BS := by
  intro d hd
  rcases List.mem_append.1 hd with h1 | h1
  · rcases List.mem_append.1 h1 with h2 | h2
    · exact hR d h2
    · exact hQ d (List.mem_of_mem_drop h2)
  · have := List.eq_of_mem_replicate h1; subst this; decide
theorem rep_cons {m m' : Nat} (h : m = m' + 1) : ([0] : List Nat) ++ List.replicate m' 0 = List.replicate m 0 := by subst h; rfl
theorem val_zeros (m : Nat) : val (List.replicate m 0) = 0 := by
  have := val_fill [] m
  simpa [val] using this
theorem row_end {R Q : List Nat} {k t m m' s : Nat} (hR : R.length = k) (hj : k = Q.length) (ht : t = k) (hm : m = m' + 1) : (R ++ Q.drop k ++ List.replicate m 0).set t s = (R ++ [s]) ++ List.replicate m' 0 := by
  subst ht
  rw [List.drop_of_length_le (by omega), List.append_nil]
  exact fill_set2 hR hm
end Go.Gx

/-
  More laws for walks: literals of slices, operations on bits. No program in sight.
-/
namespace Go.Gx
open Go.RowKit
variable {dfs : List Deferred}
theorem foldl_set_from (c : List Value) : ∀ (off k : Nat) (arr : Array Value), k + c.length ≤ arr.size - off → off ≤ arr.size →
    ((c.zipIdx k).foldl (fun cs (p : Value × Nat) => cs.setIfInBounds (off + p.2) p.1) arr) = (arr.toList.take (off + k) ++ c ++ arr.toList.drop (off + k + c.length)).toArray := by
  induction c with
  | nil => intro off k arr _ _; simp
  | cons v c ih =>
    intro off k arr h1 h2
    simp only [List.zipIdx_cons, List.foldl_cons]
    simp only [List.length_cons] at h1
    rw [ih off (k + 1) _ (by simp; omega) (by simp; omega)]
    congr 1
    apply List.ext_getElem?
    intro i
    simp only [Array.toList_setIfInBounds, List.getElem?_append, List.length_take, List.length_append, List.length_set, Array.length_toList, List.getElem?_take, List.getElem?_set, List.getElem?_drop, List.length_cons]
    by_cases hi : i < off + k
    · have c1 : i < min (off + (k + 1)) arr.size := by omega
      have c2 : i < min (off + k) arr.size := by omega
      have c3 : i < min (off + (k + 1)) arr.size + c.length := by omega
      have c4 : i < min (off + k) arr.size + (c.length + 1) := by omega
      simp [c1, c2, c3, c4, show ¬ off + k = i by omega, show i < off + (k + 1) by omega, hi]
    · by_cases hi2 : i = off + k
      · subst hi2
        have c1 : off + k < min (off + (k + 1)) arr.size := by omega
        have c2 : ¬ off + k < min (off + k) arr.size := by omega
        have c3 : off + k < min (off + (k + 1)) arr.size + c.length := by omega
        have c4 : off + k < min (off + k) arr.size + (c.length + 1) := by omega
        simp [c1, c2, c3, c4, show off + k < off + (k + 1) by omega, show off + k < arr.size by omega, show off + k - min (off + k) arr.size = 0 by omega]
      · have m1 : min (off + (k + 1)) arr.size = off + (k + 1) := by omega
        have m2 : min (off + k) arr.size = off + k := by omega
        rw [m1, m2]
        have c1 : ¬ i < off + (k + 1) := by omega
        by_cases hi3 : i < off + k + (c.length + 1)
        · simp [c1, hi, hi3, show i < off + (k + 1) + c.length by omega, show i - (off + k) = (i - (off + (k + 1))) + 1 by omega]
        · simp [c1, hi, hi3, show ¬ i < off + (k + 1) + c.length by omega]
          rw [if_neg (by omega)]
          congr 1
          omega
theorem fill_rows (size : Nat) : ∀ (vs : List Value) (css : List (List Value)) (k : Nat) (arr : Array Value), vs.map Value.cells = css.map List.toArray → css.all (fun c => c.length == size) = true → arr.size = (k + vs.length) * size →
    Instr.fill (fun i => some (i * size, size)) arr ((vs.zipIdx k).map fun (v, i) => (i, v)) = some (arr.toList.take (k * size) ++ css.flatten).toArray
  | [], css, k, arr, h, _, ha => by
    have : css = [] := by cases css with | nil => rfl | cons a b => simp at h
    subst this
    simp [Instr.fill]
    rw [List.take_of_length_le (by simp [ha])]
  | v :: vs, [], k, arr, h, _, _ => by simp at h
  | v :: vs, c :: css, k, arr, h, h2, ha => by
    simp only [List.map_cons, List.cons.injEq] at h
    simp only [List.all_cons, Bool.and_eq_true, beq_iff_eq] at h2
    simp only [List.length_cons] at ha
    have hk : (k + 1) * size ≤ arr.size := by rw [ha]; exact Nat.mul_le_mul_right _ (by omega)
    have hks : k * size + size = (k + 1) * size := by rw [Nat.add_mul, Nat.one_mul]
    have hcs : v.cells.size = size := by rw [h.1]; simp [h2.1]
    simp only [List.zipIdx_cons, List.map_cons, Instr.fill]
    rw [if_neg (by simp [hcs]; omega)]
    have hf : (v.cells.zipIdx.foldl (fun cs x => cs.setIfInBounds (k * size + x.2) x.1) arr) = (arr.toList.take (k * size) ++ c ++ arr.toList.drop (k * size + size)).toArray := by
      rw [h.1]
      have := foldl_set_from c (k * size) 0 arr (by omega) (by omega)
      simpa [h2.1] using this
    have hf' : (v.cells.zipIdx.foldl (fun cs (x : Value × Nat) => match x with | (c, j) => cs.setIfInBounds (k * size + j) c) arr) = (arr.toList.take (k * size) ++ c ++ arr.toList.drop (k * size + size)).toArray := hf
    rw [hf']
    rw [fill_rows size vs css (k + 1) _ h.2 h2.2 (by
      simp [h2.1]
      rw [ha] at hk ⊢
      have : (k + (vs.length + 1)) * size = (k + 1 + vs.length) * size := by congr 1; omega
      omega)]
    congr 2
    rw [← hks]
    simp only [List.flatten_cons]
    rw [← List.append_assoc]
    congr 1
    rw [List.take_append_of_le_length (by simp [h2.1]; omega)]
    rw [List.take_of_length_le (by simp [h2.1]; omega)]
section
variable {P : Program} {n : Nat} {e : Nat → Value} {w : World} {K : Act → World → Prop} {Q : Exit → Act → World → Prop} {ty : TypeId} {pos : String} {af : Array Edge} {gd : Option (Nat × Bool)}
theorem oBuildSlice {d : Nat} {t el : TypeId} {size bytes : Nat} {z : Value} {len : Nat} {ps : List (Nat × Operand)} (vs : List Value) (css : List (List Value)) (ht : P.underlying t = some (.slice el))
    (hi : (P.info? el).map (fun i => (i.zero, i.size, i.bytes)) = some (some z, size, bytes)) (hp : ps.map (fun p => (p.1, ev n e p.2)) = vs.zipIdx.map (fun p => (p.2, p.1))) (hc : vs.map Value.cells = css.map List.toArray)
    (hs : css.all (fun c => c.length == size) = true) (hl : vs.length = len) (hm : Nat.ble (len * size) 16777216 = true)
    (k : ∀ g w', g = w.heap.size → Ext w w' → w'.heap.size = g + 1 → Blk w' g el css.flatten → K (mkA dfs n (upd e d (.slice (some ⟨g, 0, none⟩) len len))) w') :
    OpW P ⟨some d, .buildSlice t len ps.toArray, ty, pos, af, gd⟩ (mkA dfs n e) w K Q := by
  obtain ⟨i, hi', hz, hsz, hby⟩ := info_parts hi
  have hle : ¬ len * size > 2 ^ 24 := by have := Nat.le_of_ble_eq_true hm; omega
  have hsize : (sizeOf el).run P w = .ok size w := by simp [sizeOf, typeInfo, program, Sem.run, hi', hsz]
  have hzero : (zeroValue el).run P w = .ok z w := by simp [zeroValue, typeInfo, program, Sem.run, hi', hz]
  have hfill : ∀ arr : Array Value, arr.size = len * size → Instr.fill (fun i => some (i * size, size)) arr (ps.map fun p => (p.1, ev n e p.2)) = some css.flatten.toArray := by
    intro arr ha
    rw [hp]
    have := fill_rows size vs css 0 arr hc hs (by rw [ha, ← hl]; simp)
    simpa using this
  have hmap : (ps.toArray.map fun (x : Nat × Operand) => match x with | (i, x) => (i, ev n e x)).toList = ps.map fun p => (p.1, ev n e p.2) := by simp
  unfold OpW Oper.wp
  rw [eval_mkA]
  have hk := k w.heap.size (w.alloc (.cells css.flatten.toArray el)) rfl (alloc_ext _ _) (by simp) (Blk.new _ _ _)
  simp only [execOp, Instr.buildSlice, Sem.run_bind, run_underlying ht, Result.andThen_ok, hsize, hle, if_false, Sem.run_pure]
  by_cases h0 : len * size = 0
  · rw [if_pos h0]
    simp only [Sem.run_bind, Sem.run_pure, Result.andThen_ok]
    rw [hmap, hfill _ (by simp)]
    simp only [newRow, newObj, Sem.run_bind, Sem.run, Result.andThen_ok, Sem.run_pure, Oper.upon, put_mkA]
    exact hk
  · rw [if_neg h0]
    simp only [Sem.run_bind, hzero, Sem.run_pure, Result.andThen_ok]
    rw [hmap, hfill _ (by simp)]
    simp only [newRow, newObj, Sem.run_bind, Sem.run, Result.andThen_ok, Sem.run_pure, Oper.upon, put_mkA]
    exact hk
end
end Go.Gx
namespace Go.Gx
variable {dfs : List Deferred}
section bits
variable {P : Program} {n : Nat} {e : Nat → Value} {w : World} {ty : TypeId} {pos : String} {af : Array Edge} {gd : Option (Nat × Bool)}
theorem wrap_bv (r : BitVec 32) : IntKind.u32.wrap (r.toNat : Int) = (r.toNat : Int) := wU32 ⟨rfl, by omega, by have := r.isLt; omega⟩
theorem ofInt_nat (a : Nat) : BitVec.ofInt 32 (a : Int) = BitVec.ofNat 32 a := by simp
theorem evAnd32 {d : Option Nat} {t t' : TypeId} {x y : Operand} {a b : Nat} (hx : ev n e x = .int .u32 (a : Int)) (hy : ev n e y = .int .u32 (b : Int)) :
    Ev P n e ⟨d, .binOp .and t x y t', ty, pos, af, gd⟩ w (.int .u32 (((BitVec.ofNat 32 a &&& BitVec.ofNat 32 b).toNat : Nat) : Int)) := by
  have h := wrap_bv (BitVec.ofNat 32 a &&& BitVec.ofNat 32 b)
  have e1 : (Op.intBits .and .u32 (a : Int) (b : Int)) = pure (.int .u32 (IntKind.u32.wrap ((BitVec.ofInt 32 (a : Int) &&& BitVec.ofInt 32 (b : Int)).toNat : Int))) := rfl
  rw [ofInt_nat, ofInt_nat, h] at e1
  simp only [Ev, execOp, hx, hy, eqGuard, binOp, e1]
  simp
theorem evOr32 {d : Option Nat} {t t' : TypeId} {x y : Operand} {a b : Nat} (hx : ev n e x = .int .u32 (a : Int)) (hy : ev n e y = .int .u32 (b : Int)) :
    Ev P n e ⟨d, .binOp .or t x y t', ty, pos, af, gd⟩ w (.int .u32 (((BitVec.ofNat 32 a ||| BitVec.ofNat 32 b).toNat : Nat) : Int)) := by
  have h := wrap_bv (BitVec.ofNat 32 a ||| BitVec.ofNat 32 b)
  have e1 : (Op.intBits .or .u32 (a : Int) (b : Int)) = pure (.int .u32 (IntKind.u32.wrap ((BitVec.ofInt 32 (a : Int) ||| BitVec.ofInt 32 (b : Int)).toNat : Int))) := rfl
  rw [ofInt_nat, ofInt_nat, h] at e1
  simp only [Ev, execOp, hx, hy, eqGuard, binOp, e1]
  simp
theorem evXor32 {d : Option Nat} {t t' : TypeId} {x y : Operand} {a b : Nat} (hx : ev n e x = .int .u32 (a : Int)) (hy : ev n e y = .int .u32 (b : Int)) :
    Ev P n e ⟨d, .binOp .xor t x y t', ty, pos, af, gd⟩ w (.int .u32 (((BitVec.ofNat 32 a ^^^ BitVec.ofNat 32 b).toNat : Nat) : Int)) := by
  have h := wrap_bv (BitVec.ofNat 32 a ^^^ BitVec.ofNat 32 b)
  have e1 : (Op.intBits .xor .u32 (a : Int) (b : Int)) = pure (.int .u32 (IntKind.u32.wrap ((BitVec.ofInt 32 (a : Int) ^^^ BitVec.ofInt 32 (b : Int)).toNat : Int))) := rfl
  rw [ofInt_nat, ofInt_nat, h] at e1
  simp only [Ev, execOp, hx, hy, eqGuard, binOp, e1]
  simp
theorem evNot32 {d : Option Nat} {t : TypeId} {x : Operand} {a : Nat} (hx : ev n e x = .int .u32 (a : Int)) :
    Ev P n e ⟨d, .unOp .xor t x, ty, pos, af, gd⟩ w (.int .u32 (((~~~ BitVec.ofNat 32 a).toNat : Nat) : Int)) := by
  have h := wrap_bv (~~~ BitVec.ofNat 32 a)
  have e0 : IntKind.u32.max = ((4294967295 : Nat) : Int) := by decide
  have e1 : (Op.unary .xor (.int .u32 (a : Int))) = pure (.int .u32 (IntKind.u32.wrap ((BitVec.ofInt 32 IntKind.u32.max ^^^ BitVec.ofInt 32 (a : Int)).toNat : Int))) := rfl
  have e2 : (BitVec.ofNat 32 4294967295 ^^^ BitVec.ofNat 32 a) = ~~~ BitVec.ofNat 32 a := by
    rw [show BitVec.ofNat 32 4294967295 = BitVec.allOnes 32 by decide]
    rw [BitVec.xor_comm, BitVec.xor_allOnes]
  rw [e0, ofInt_nat, ofInt_nat, e2, h] at e1
  simp only [Ev, execOp, hx, e1]
  simp
end bits
theorem borrow32 {x y b d : Nat} (hx : x < 4294967296) (hy : y < 4294967296) (hb : b ≤ 1) (hd : d = (x + 8589934592 - y - b) % 4294967296) (t : Nat)
    (ht : t = ((BitVec.ofNat 32 (BitVec.ofNat 32 ((~~~ BitVec.ofNat 32 x).toNat) &&& BitVec.ofNat 32 y).toNat ||| BitVec.ofNat 32 (BitVec.ofNat 32 (~~~ BitVec.ofNat 32 (BitVec.ofNat 32 x ^^^ BitVec.ofNat 32 y).toNat).toNat &&& BitVec.ofNat 32 d).toNat)).toNat) :
    d + y + b = x + 4294967296 * (t / 2147483648) ∧ t / 2147483648 ≤ 1 := by
  simp only [BitVec.ofNat_toNat, BitVec.setWidth_eq] at ht
  have hdl : d < 4294967296 := by omega
  have hm : t / 2147483648 = if ((~~~ BitVec.ofNat 32 x &&& BitVec.ofNat 32 y) ||| (~~~ (BitVec.ofNat 32 x ^^^ BitVec.ofNat 32 y) &&& BitVec.ofNat 32 d)).msb then 1 else 0 := by
    rw [BitVec.msb_eq_decide, ← ht]
    have : t < 4294967296 := by rw [ht]; exact BitVec.isLt _
    split <;> rename_i h <;> simp at h <;> omega
  rw [hm]
  have mx : ∀ z, z < 4294967296 → (BitVec.ofNat 32 z).msb = decide (2147483648 ≤ z) := by
    intro z hz
    rw [BitVec.msb_eq_decide]
    simp [Nat.mod_eq_of_lt hz]
  simp only [BitVec.msb_or, BitVec.msb_and, BitVec.msb_not, BitVec.msb_xor, mx x hx, mx y hy, mx d hdl]
  by_cases c1 : 2147483648 ≤ x <;> by_cases c2 : 2147483648 ≤ y <;> by_cases c3 : 2147483648 ≤ d <;> simp [c1, c2, c3] <;> omega
end Go.Gx
namespace Go.Gx
variable {dfs : List Deferred}
section
variable {P : Program} {n : Nat} {e : Nat → Value} {w : World} {ty : TypeId} {pos : String} {af : Array Edge} {gd : Option (Nat × Bool)}
theorem evSliceLoAt {d : Option Nat} {t el : TypeId} {x y : Operand} {g off len cap size : Nat} {k : IntKind} {z : Int} (l : Nat) (ht : P.underlying t = some (.slice el)) (hs : ∀ w, (sizeOf el).run P w = .ok size w)
    (hx : ev n e x = .slice (some ⟨g, off, none⟩) len cap) (hy : ev n e y = .int k z) (hz : z = (l : Int)) (h1 : l ≤ len) (h2 : len ≤ cap) (h3 : l < cap) (p : Nat) (hp : off + l * size = p) :
    Ev P n e ⟨d, .slice t x (some y) none none, ty, pos, af, gd⟩ w (.slice (some ⟨g, p, none⟩) (len - l) (cap - l)) := by
  have := evSliceLo (P := P) (w := w) (d := d) (ty := ty) (pos := pos) (af := af) (gd := gd) l ht hs hx hy hz h1 h2
  rw [if_neg (by omega)] at this
  simp only [Option.map_some, addr_add, hp] at this
  exact this
end
end Go.Gx

/-
  Digits: adding in place; Karatsuba's product. Plain numbers; no program in sight.
-/
namespace Go.Gx
theorem seg_get {U P Z : List Nat} {o k t : Nat} (hU : U.length = o) (hP : P.length = k) (hk : k < Z.length) (ht : t = o + k) : (U ++ (P ++ Z.drop k)).getD t 0 = Z.getD k 0 := by
  subst hU hP ht
  simp only [List.getD]
  rw [List.getElem?_append_right (by omega), Nat.add_sub_cancel_left, List.getElem?_append_right (Nat.le_refl _), Nat.sub_self, List.getElem?_drop, Nat.add_zero]
theorem seg_set {U P Z : List Nat} {o k t s : Nat} (hU : U.length = o) (hP : P.length = k) (hk : k < Z.length) (ht : t = o + k) : (U ++ (P ++ Z.drop k)).set t s = U ++ ((P ++ [s]) ++ Z.drop (k + 1)) := by
  subst hU hP ht
  rw [List.set_append_right _ _ (by omega), Nat.add_sub_cancel_left, List.set_append_right _ _ (Nat.le_refl _), Nat.sub_self, List.drop_eq_getElem_cons hk, List.set_cons_zero]
  simp
theorem lt_seg {U P Z : List Nat} {k : Nat} (h : ∀ d ∈ U ++ Z, d < BS) (hP : ∀ d ∈ P, d < BS) : ∀ d ∈ U ++ (P ++ Z.drop k), d < BS := by
  intro d hd
  rcases List.mem_append.1 hd with h1 | h1
  · exact h d (by simp [h1])
  · rcases List.mem_append.1 h1 with h2 | h2
    · exact hP d h2
    · exact h d (by simp [List.mem_of_mem_drop h2])
theorem addin_zero {P Z x : List Nat} {k n : Nat} (h : val P + BS ^ k * 0 = val (Z.take k) + val (x.take k)) (hP : P.length = k) (hZ : Z.length = n) (hk : k ≤ n) (hx : x.length ≤ k) : val (P ++ Z.drop k) + BS ^ n * 0 = val Z + val x := by
  rw [val_append, hP, val_split Z (k := k) (by omega)]
  rw [val_take_all x hx] at h
  omega
theorem addin_full {P Z x : List Nat} {k n c : Nat} (h : val P + BS ^ k * c = val (Z.take k) + val (x.take k)) (hP : P.length = k) (hZ : Z.length = n) (hk : k = n) (hx : x.length ≤ k) : val (P ++ Z.drop k) + BS ^ n * c = val Z + val x := by
  subst hk
  rw [List.drop_of_length_le (by omega), List.append_nil, h, val_take_all x hx, val_take_all Z (by omega)]
theorem quoI {a b z : Int} (ha : 0 ≤ a) (h : z = a / b ∧ -9223372036854775808 ≤ z ∧ z ≤ 9223372036854775807) : IntKind.i64.wrap (a.tdiv b) = z := by
  rw [Int.tdiv_eq_ediv_of_nonneg ha]
  exact wI64 ⟨h.1.symm, h.2.1, h.2.2⟩
theorem lt_val_len {a : List Nat} (ca : Canon isZ a) {k : Nat} (h : val a < BS ^ k) : a.length ≤ k := by
  rcases Nat.lt_or_ge k a.length with h1 | h1
  · rcases snoc_cases a with h0 | ⟨l, x, rfl⟩
    · subst h0; simp at h1
    · have hx : isZ x = false := canon_snoc.1 ca
      have h3 : x ≠ 0 := by intro e; subst e; simp [isZ] at hx
      rw [val_snoc] at h
      simp at h1
      have h2 : BS ^ k ≤ BS ^ l.length := Nat.pow_le_pow_right (by decide) (by omega)
      have h4 : BS ^ l.length * 1 ≤ BS ^ l.length * x := Nat.mul_le_mul_left _ (by omega)
      omega
  · exact h1
theorem mul_lt_pow {a b : List Nat} (ha : ∀ d ∈ a, d < BS) (hb : ∀ d ∈ b, d < BS) : val a * val b < BS ^ (a.length + b.length) := by
  rw [Nat.pow_add]
  exact Nat.mul_lt_mul'' (val_lt a ha) (val_lt b hb)
theorem kara_short {a b lo hi r : List Nat} {h c n z : Nat} (ha : h ≤ a.length) (hlt : ∀ d ∈ a, d < BS) (hbt : ∀ d ∈ b, d < BS) (hn : n = a.length + b.length) (hlo : val lo = val (a.take h) * val b) (hhi : val hi = val (a.drop h) * val b)
    (hll : h ≤ lo.length) (hz : lo.length + z = n) (hr : r.length = n - h) (he : val r + BS ^ (n - h) * c = val ((lo ++ List.replicate z 0).drop h) + val hi) : val ((lo ++ List.replicate z 0).take h ++ r) = val a * val b := by
  have hlen : (lo ++ List.replicate z 0).length = n := by simp; omega
  have hs := val_split (lo ++ List.replicate z 0) (k := h) (by omega)
  rw [val_fill] at hs
  have hab : val a * val b = val lo + BS ^ h * val hi := by
    rw [val_split a ha, Nat.add_mul, hlo, hhi, Nat.mul_assoc]
  have hlt2 := mul_lt_pow hlt hbt
  rw [← hn] at hlt2
  rw [val_append, List.length_take, Nat.min_eq_left (by omega)]
  generalize val ((lo ++ List.replicate z 0).take h) = L at *
  generalize val ((lo ++ List.replicate z 0).drop h) = H at *
  have hp : BS ^ n = BS ^ h * BS ^ (n - h) := by rw [← Nat.pow_add]; congr 1; omega
  rcases Nat.eq_zero_or_pos c with h0 | h0
  · subst h0
    have : val r = H + val hi := by simpa using he
    rw [this, Nat.mul_add, hab]
    omega
  · exfalso
    have h1 : BS ^ (n - h) * 1 ≤ BS ^ (n - h) * c := Nat.mul_le_mul_left _ h0
    have h2 : BS ^ h * BS ^ (n - h) ≤ BS ^ h * (H + val hi) := Nat.mul_le_mul_left _ (by omega)
    rw [Nat.mul_add] at h2
    omega
theorem kara_mid {a0 a1 b0 b1 m s lo hi : Nat} (hm : m = (a0 + a1) * (b0 + b1)) (hlo : lo = a0 * b0) (hhi : hi = a1 * b1) (hs : s = m - (lo + hi)) : s = a0 * b1 + a1 * b0 := by
  subst hm hlo hhi
  rw [hs, Nat.add_mul, Nat.mul_add, Nat.mul_add]
  omega
theorem kara_sum {a b X a0 a1 b0 b1 : Nat} (ha : a = a0 + X * a1) (hb : b = b0 + X * b1) : a * b = a0 * b0 + X * (a0 * b1 + a1 * b0) + X * X * (a1 * b1) := by
  subst ha hb
  simp only [Nat.add_mul, Nat.mul_add, Nat.mul_assoc, Nat.mul_left_comm, Nat.mul_comm]
  omega
theorem kara_mid_lt {a b : List Nat} {h n m : Nat} (ha : h ≤ a.length) (hb : h ≤ b.length) (hlt : ∀ d ∈ a, d < BS) (hbt : ∀ d ∈ b, d < BS) (hn : n = a.length + b.length)
    (hm : m = val (a.take h) * val (b.drop h) + val (a.drop h) * val (b.take h)) : m < BS ^ (n - h) := by
  have h1 := kara_sum (val_split a ha) (val_split b hb)
  have h2 := mul_lt_pow hlt hbt
  rw [← hn, h1, ← hm] at h2
  have hp : BS ^ n = BS ^ h * BS ^ (n - h) := by rw [← Nat.pow_add]; congr 1; omega
  rw [hp] at h2
  rcases Nat.lt_or_ge m (BS ^ (n - h)) with h3 | h3
  · exact h3
  · exfalso
    have h4 : BS ^ h * BS ^ (n - h) ≤ BS ^ h * m := Nat.mul_le_mul_left _ h3
    omega
theorem kara_full {a b lo hi r : List Nat} {h c n m : Nat} (ha : h ≤ a.length) (hb : h ≤ b.length) (hlt : ∀ d ∈ a, d < BS) (hbt : ∀ d ∈ b, d < BS) (hn : n = a.length + b.length)
    (hlo : val lo = val (a.take h) * val (b.take h)) (hhi : val hi = val (a.drop h) * val (b.drop h)) (hm : m = val (a.take h) * val (b.drop h) + val (a.drop h) * val (b.take h))
    (hll : lo.length = h + h) (hhl : hi.length = n - (h + h)) (hr : r.length = n - h) (he : val r + BS ^ (n - h) * c = val ((lo ++ hi).drop h) + m) : val ((lo ++ hi).take h ++ r) = val a * val b := by
  have h2n : h + h ≤ n := by omega
  have hs := val_split (lo ++ hi) (k := h) (by simp; omega)
  rw [val_append, hll, Nat.pow_add] at hs
  have hab := kara_sum (val_split a ha) (val_split b hb)
  rw [← hm, ← hlo, ← hhi] at hab
  have hlt2 := mul_lt_pow hlt hbt
  rw [← hn] at hlt2
  rw [val_append, List.length_take, Nat.min_eq_left (by simp; omega)]
  generalize val ((lo ++ hi).take h) = L at *
  generalize val ((lo ++ hi).drop h) = H at *
  have hp : BS ^ n = BS ^ h * BS ^ (n - h) := by rw [← Nat.pow_add]; congr 1; omega
  rcases Nat.eq_zero_or_pos c with h0 | h0
  · subst h0
    have : val r = H + m := by simpa using he
    rw [this, Nat.mul_add, hab]
    omega
  · exfalso
    have h1 : BS ^ (n - h) * 1 ≤ BS ^ (n - h) * c := Nat.mul_le_mul_left _ h0
    have h2 : BS ^ h * BS ^ (n - h) ≤ BS ^ h * (H + m) := Nat.mul_le_mul_left _ (by omega)
    rw [Nat.mul_add] at h2
    omega
theorem copy_first {lo : List Nat} {n m : Nat} (h : lo.length = m) (hm : m ≤ n) : (List.replicate n 0).take 0 ++ lo ++ (List.replicate n 0).drop (0 + m) = lo ++ List.replicate (n - m) 0 := by
  simp
theorem copy_second {lo hi : List Nat} {k m t : Nat} (hk : lo.length = k) (hh : hi.length = m) (ht : t = k) : (lo ++ List.replicate m 0).take t ++ hi ++ (lo ++ List.replicate m 0).drop (t + m) = lo ++ hi := by
  subst ht hk hh
  simp
theorem lt_app {a b : List Nat} (ha : ∀ d ∈ a, d < BS) (hb : ∀ d ∈ b, d < BS) : ∀ d ∈ a ++ b, d < BS := by
  intro d hd
  rcases List.mem_append.1 hd with h | h
  · exact ha d h
  · exact hb d h
theorem zmul1 {a b : Nat} (h : a = 0) : a * b = 0 := by rw [h, Nat.zero_mul]
theorem zmul2 {a b : Nat} (h : b = 0) : a * b = 0 := by rw [h, Nat.mul_zero]
end Go.Gx

/-
  Signs and digits. Plain numbers; no program in sight.
-/
namespace Go.Gx
def ICan (g : Bool) (d : List Nat) : Prop := Canon isZ d ∧ (g = true → d ≠ [])
def cmpZ (x y : Int) : Int := if x < y then -1 else if y < x then 1 else 0
theorem zval_false (d : List Nat) : zval false d = val d := by simp [zval]
theorem zval_true (d : List Nat) : zval true d = -(val d : Int) := by simp [zval]
theorem zval_nil (g : Bool) : zval g [] = 0 := by cases g <;> simp [zval, val]
theorem zval_trim (g : Bool) (d : List Nat) : zval g (trimN d) = zval g d := by unfold zval; rw [val_trim]
theorem val_pos {d : List Nat} (cn : Canon isZ d) (h : d ≠ []) : 0 < val d := by
  rcases snoc_cases d with h0 | ⟨k, x, rfl⟩
  · exact absurd h0 h
  · have hx : isZ x = false := canon_snoc.1 cn
    have h3 : x ≠ 0 := by intro e; subst e; simp [isZ] at hx
    rw [val_snoc]
    have h4 : 0 < BS ^ k.length * x := Nat.mul_pos (Nat.pow_pos (by decide)) (by omega)
    omega
theorem signed_val {g g' : Bool} {d d' : List Nat} {n : Nat} (e : g' = (g && decide (0 < n))) (ed : d' = d) (ln : d.length = n) : zval g' d' = zval g d := by
  subst e ed
  rcases Nat.eq_zero_or_pos n with h | h
  · subst h; have : d' = [] := List.eq_nil_of_length_eq_zero ln
    subst this; rw [zval_nil, zval_nil]
  · simp [h]
theorem signed_can {g g' : Bool} {d d' : List Nat} {n : Nat} (e : g' = (g && decide (0 < n))) (ed : d' = d) (ln : d.length = n) (cn : Canon isZ d) : ICan g' d' := by
  subst e ed
  refine ⟨cn, fun h => ?_⟩
  simp at h
  intro h0; subst h0; simp at ln; omega
theorem of_neg {x : Int} {d : List Nat} (h : val d = (-x).toNat) (hx : x < 0) : zval true d = x := by rw [zval_true, h]; omega
theorem of_pos {x : Int} {d : List Nat} (h : val d = x.toNat) (hx : ¬ x < 0) : zval false d = x := by rw [zval_false, h]; omega
theorem can_neg {x : Int} {d : List Nat} (h : val d = (-x).toNat) (hx : x < 0) (cn : Canon isZ d) : ICan true d := ⟨cn, fun _ h0 => by subst h0; simp [val] at h; omega⟩
theorem can_pos {d : List Nat} (cn : Canon isZ d) : ICan false d := ⟨cn, fun h => by cases h⟩
theorem sign_zero {g : Bool} {d : List Nat} (h : true = decide (val d = 0)) : (0 : Int) = (zval g d).sign := by
  have : val d = 0 := by simpa using h
  cases g <;> simp [zval, this]
theorem sign_neg {d : List Nat} (h : false = decide (val d = 0)) : (-1 : Int) = (zval true d).sign := by
  have : val d ≠ 0 := by simpa using h
  rw [zval_true, Int.sign_eq_neg_one_of_neg (by omega)]
theorem sign_pos {d : List Nat} (h : false = decide (val d = 0)) : (1 : Int) = (zval false d).sign := by
  have : val d ≠ 0 := by simpa using h
  rw [zval_false, Int.sign_eq_one_of_pos (by omega)]
theorem sign_cases (x : Int) : (x.sign = -1 ∧ x < 0) ∨ (x.sign = 0 ∧ x = 0) ∨ (x.sign = 1 ∧ 0 < x) := by
  rcases Int.lt_trichotomy x 0 with h | h | h
  · exact .inl ⟨Int.sign_eq_neg_one_of_neg h, h⟩
  · exact .inr (.inl ⟨by subst h; rfl, h⟩)
  · exact .inr (.inr ⟨Int.sign_eq_one_of_pos h, h⟩)
theorem zval_cases (g : Bool) (d : List Nat) : (zval g d = val d) ∨ (zval g d = -(val d : Int)) := by cases g <;> simp [zval]
theorem icmp_lt {s t x y : Int} (hs : s = x.sign) (ht : t = y.sign) (h : s < t) : (-1 : Int) = cmpZ x y := by
  have : x < y := by rcases sign_cases x with h1 | h1 | h1 <;> rcases sign_cases y with h2 | h2 | h2 <;> omega
  simp [cmpZ, this]
theorem icmp_gt {s t x y : Int} (hs : s = x.sign) (ht : t = y.sign) (h : s > t) : (1 : Int) = cmpZ x y := by
  have : y < x := by rcases sign_cases x with h1 | h1 | h1 <;> rcases sign_cases y with h2 | h2 | h2 <;> omega
  simp [cmpZ, this, Int.not_lt.2 (Int.le_of_lt this)]
theorem cmpN_cases (a b : Nat) : (cmpN a b = -1 ∧ a < b) ∨ (cmpN a b = 0 ∧ a = b) ∨ (cmpN a b = 1 ∧ b < a) := by
  unfold cmpN
  rcases Nat.lt_trichotomy a b with h | h | h
  · simp [h]
  · simp [h]
  · simp [h, Nat.lt_asymm h]
theorem cmpZ_cases (x y : Int) : (cmpZ x y = -1 ∧ x < y) ∨ (cmpZ x y = 0 ∧ x = y) ∨ (cmpZ x y = 1 ∧ y < x) := by
  unfold cmpZ
  rcases Int.lt_trichotomy x y with h | h | h
  · simp [h]
  · simp [h]
  · simp [h, Int.not_lt.2 (Int.le_of_lt h)]
theorem icmp_neg {s t c : Int} {g g' : Bool} {d d' : List Nat} (hs : s = (zval g d).sign) (ht : t = (zval g' d').sign) (h1 : ¬ s < t) (h2 : ¬ s > t) (h : s < 0) (hc : c = cmpN (val d') (val d)) : c = cmpZ (zval g d) (zval g' d') := by
  have e1 := zval_cases g d
  have e2 := zval_cases g' d'
  have s1 := sign_cases (zval g d)
  have s2 := sign_cases (zval g' d')
  have c1 := cmpN_cases (val d') (val d)
  have c2 := cmpZ_cases (zval g d) (zval g' d')
  omega
theorem icmp_pos {s t c : Int} {g g' : Bool} {d d' : List Nat} (hs : s = (zval g d).sign) (ht : t = (zval g' d').sign) (h1 : ¬ s < t) (h2 : ¬ s > t) (h : ¬ s < 0) (hc : c = cmpN (val d) (val d')) : c = cmpZ (zval g d) (zval g' d') := by
  have e1 := zval_cases g d
  have e2 := zval_cases g' d'
  have s1 := sign_cases (zval g d)
  have s2 := sign_cases (zval g' d')
  have c1 := cmpN_cases (val d) (val d')
  have c2 := cmpZ_cases (zval g d) (zval g' d')
  omega
theorem iadd_same {g g' : Bool} {a b d : List Nat} (h : (g == g') = true) (hv : val d = val a + val b) : zval g d = zval g a + zval g' b := by
  have : g = g' := by simpa using h
  subst this
  cases g <;> simp [zval, hv] <;> omega
theorem iadd_ge {g g' : Bool} {a b d : List Nat} {c : Int} (h : (g == g') = false) (hc : c = cmpN (val a) (val b)) (h0 : c ≥ 0) (hv : val d = val a - val b) : zval g d = zval g a + zval g' b := by
  have c1 := cmpN_cases (val a) (val b)
  cases g <;> cases g' <;> simp at h <;> simp [zval, hv] <;> omega
theorem iadd_lt {g g' : Bool} {a b d : List Nat} {c : Int} (h : (g == g') = false) (hc : c = cmpN (val a) (val b)) (h0 : ¬ c ≥ 0) (hv : val d = val b - val a) : zval g' d = zval g a + zval g' b := by
  have c1 := cmpN_cases (val a) (val b)
  cases g <;> cases g' <;> simp at h <;> simp [zval, hv] <;> omega
theorem imul_val {g g' : Bool} {a b d : List Nat} (hv : val d = val a * val b) : zval (g != g') d = zval g a * zval g' b := by
  cases g <;> cases g' <;> simp [zval, hv, Int.natCast_mul, Int.neg_mul, Int.mul_neg]
theorem zval_not (g : Bool) (d : List Nat) : zval (!g) d = -zval g d := by cases g <;> simp [zval]
theorem natAbs_val (g : Bool) (d : List Nat) : val d = (zval g d).natAbs := by rcases zval_cases g d with h | h <;> omega
theorem sign0_iff {x z : Int} (e : x = z.sign) : (x = 0 ↔ z = 0) := by
  rcases sign_cases z with h | h | h <;> omega
theorem sgn0 {x z : Int} (e : x = z.sign) : decide (x = 0) = decide (z = 0) := by
  have := sign0_iff e
  by_cases h : z = 0 <;> simp [h, this]
end Go.Gx

/-
  Numbers in any base: sums, differences, products, bits. Plain numbers; no program in sight.
-/
namespace Go.Gx
def vb (b : Nat) : List Nat → Nat
  | [] => 0
  | d :: ds => d + b * vb b ds
theorem vb_val (ds : List Nat) : vb 4294967296 ds = val ds := by
  induction ds with
  | nil => rfl
  | cons d ds ih => simp only [vb, val, ih]
section
variable {B : Nat}
theorem vb_append (a b : List Nat) : vb B (a ++ b) = vb B a + B ^ a.length * vb B b := by
  induction a with
  | nil => simp [vb]
  | cons d a ih => simp only [List.cons_append, vb, ih, List.length_cons, Nat.pow_succ]; rw [Nat.mul_add, ← Nat.mul_assoc, Nat.mul_comm (B ^ a.length) B, Nat.add_assoc]
theorem vb_lt : ∀ (ds : List Nat), (∀ d ∈ ds, d < B) → vb B ds < B ^ ds.length
  | [], _ => by simp [vb]
  | d :: ds, h => by
    have h1 := h d (by simp)
    have h2 := vb_lt ds fun x hx => h x (by simp [hx])
    simp only [vb, List.length_cons, Nat.pow_succ]
    have h3 : B * (vb B ds + 1) ≤ B * B ^ ds.length := Nat.mul_le_mul_left _ h2
    rw [Nat.mul_comm (B ^ ds.length) B]
    have : B * (vb B ds + 1) = B * vb B ds + B := by rw [Nat.mul_add, Nat.mul_one]
    omega
theorem vb_tail (a : List Nat) : vb B a = a.getD 0 0 + B * vb B a.tail := by cases a <;> simp [vb]
theorem vb_div (ds : List Nat) (h : ∀ d ∈ ds, d < B) (q : Nat) : vb B ds / B ^ q = vb B (ds.drop q) := by
  rcases Nat.lt_or_ge q ds.length with hq | hq
  · have e := vb_append (B := B) (ds.take q) (ds.drop q)
    rw [List.take_append_drop, List.length_take, Nat.min_eq_left (by omega)] at e
    have h1 : vb B (ds.take q) < B ^ q := by
      have := vb_lt (ds.take q) fun d hd => h d (List.mem_of_mem_take hd)
      rwa [List.length_take, Nat.min_eq_left (by omega)] at this
    rw [e, Nat.add_mul_div_left _ _ (by omega), Nat.div_eq_of_lt h1, Nat.zero_add]
  · rw [List.drop_of_length_le hq]
    have h1 := vb_lt ds h
    rcases Nat.eq_zero_or_pos B with h0 | h0
    · subst h0
      have : ds = [] := by
        cases ds with
        | nil => rfl
        | cons d ds => have := h d (by simp); omega
      subst this; simp [vb]
    · exact Nat.div_eq_of_lt (Nat.lt_of_lt_of_le h1 (Nat.pow_le_pow_right h0 hq))
end
end Go.Gx
namespace Go.Gx
theorem quoEi64 {a b : Int} {x c : Nat} (ha : a = (x : Int)) (hb : b = (c : Int)) (hx : x ≤ 9223372036854775807) : IntKind.i64.wrap (a.tdiv b) = ((x / c : Nat) : Int) := by
  subst ha hb
  have := Nat.div_le_self x c
  rw [← Int.ofNat_tdiv]
  generalize x / c = y at *
  exact wI64 ⟨rfl, by omega, by omega⟩
theorem quoEu64 {a b : Int} {x c : Nat} (ha : a = (x : Int)) (hb : b = (c : Int)) (hx : x < 18446744073709551616) : IntKind.u64.wrap (a.tdiv b) = ((x / c : Nat) : Int) := by
  subst ha hb
  have := Nat.div_le_self x c
  rw [← Int.ofNat_tdiv]
  generalize x / c = y at *
  exact wU64 ⟨rfl, by omega, by omega⟩
theorem remE {a b : Int} {x c : Nat} (ha : a = (x : Int)) (hb : b = (c : Int)) : a.tmod b = ((x % c : Nat) : Int) := by
  subst ha hb; rw [Int.ofNat_tmod]
theorem shrE {a b : Int} {k : IntKind} {x s : Nat} (ha : a = (x : Int)) (hb : b = (s : Int)) (hs : s ≤ k.bits) : a.fdiv (2 ^ (min b.toNat k.bits)) = ((x / 2 ^ s : Nat) : Int) := by
  subst ha hb
  rw [Int.toNat_natCast, Nat.min_eq_left hs, Int.fdiv_eq_ediv_of_nonneg _ (by exact Int.pow_nonneg (by omega))]
  simp
end Go.Gx
namespace Go.Gx
end Go.Gx
namespace Go.Gx
end Go.Gx

/-
  More laws for walks: bits of words, tables in strings. No program in sight.
-/
namespace Go.Gx
open Go.RowKit
def bl8 (x : Nat) : Nat := if x = 0 then 0 else if x < 2 then 1 else if x < 4 then 2 else if x < 8 then 3 else if x < 16 then 4 else if x < 32 then 5 else if x < 64 then 6 else if x < 128 then 7 else 8
def tabB (s : ByteArray) : Bool := s.size == 256 && (List.range 256).all fun i => (s.data.getD i 0).toNat == bl8 i
section
variable {P : Program} {n : Nat} {e : Nat → Value} {w : World} {ty : TypeId} {pos : String} {af : Array Edge} {gd : Option (Nat × Bool)}
theorem evTab {d : Option Nat} {t : TypeId} {x y : Operand} {s : ByteArray} {k : IntKind} {z : Int} (i : Nat) (ht : P.underlying t = some .string) (hx : ev n e x = .string s) (hs : tabB s = true) (hy : ev n e y = .int k z) (hz : z = (i : Int)) (hi : i < 256) :
    Ev P n e ⟨d, .index t x y, ty, pos, af, gd⟩ w (.int .u8 ((bl8 i : Nat) : Int)) := by
  unfold tabB at hs
  simp only [Bool.and_eq_true, beq_iff_eq, List.all_eq_true, List.mem_range] at hs
  have h1 := hs.2 i hi
  have hlt : i < s.size := by rw [hs.1]; exact hi
  have h2 : (s[i]'hlt).toNat = bl8 i := by
    rw [← h1]
    show (s.data[i]'hlt).toNat = _
    have : i < s.data.size := hlt
    have e0 : s.data.getD i 0 = s.data[i] := by unfold Array.getD; rw [dif_pos this]; rfl
    rw [e0]
  have hr := run_index_string (P := P) w t s k z ht
  rw [dif_pos ⟨by omega, by rw [hz]; exact_mod_cast hlt⟩] at hr
  have e3 : z.toNat = i := by omega
  simp only [Ev, execOp, hx, hy, hr, Sem.run_bind, Result.andThen_ok]
  subst hz
  simp [h2]
theorem or_nat (a b s : Nat) (hb : b < 2 ^ s) : 2 ^ s * a ||| b = 2 ^ s * a + b := (Nat.two_pow_add_eq_or_of_lt hb a).symm
theorem evOr64 {d : Option Nat} {t t' : TypeId} {x y : Operand} {a b c : Nat} (hx : ev n e x = .int .u64 (a : Int)) (hy : ev n e y = .int .u64 (b : Int)) (ha : a < 18446744073709551616) (hb : b < 18446744073709551616) (hc : a ||| b = c) :
    Ev P n e ⟨d, .binOp .or t x y t', ty, pos, af, gd⟩ w (.int .u64 (c : Int)) := by
  have e1 : (Op.intBits .or .u64 (a : Int) (b : Int)) = pure (.int .u64 (IntKind.u64.wrap ((BitVec.ofInt 64 (a : Int) ||| BitVec.ofInt 64 (b : Int)).toNat : Int))) := rfl
  have e2 : (BitVec.ofInt 64 (a : Int) ||| BitVec.ofInt 64 (b : Int)).toNat = c := by
    have h1 : BitVec.ofInt 64 (a : Int) = BitVec.ofNat 64 a := by simp
    have h2 : BitVec.ofInt 64 (b : Int) = BitVec.ofNat 64 b := by simp
    rw [h1, h2, BitVec.toNat_or, BitVec.toNat_ofNat, BitVec.toNat_ofNat, Nat.mod_eq_of_lt ha, Nat.mod_eq_of_lt hb, hc]
  have hlt : c < 18446744073709551616 := by rw [← e2]; exact BitVec.isLt _
  rw [e2, wU64 (z := (c : Int)) ⟨rfl, by omega, by omega⟩] at e1
  simp only [Ev, execOp, hx, hy, eqGuard, binOp, e1]
  simp
theorem evOr32n {d : Option Nat} {t t' : TypeId} {x y : Operand} {a b c : Nat} (hx : ev n e x = .int .u32 (a : Int)) (hy : ev n e y = .int .u32 (b : Int)) (ha : a < 4294967296) (hb : b < 4294967296) (hc : a ||| b = c) :
    Ev P n e ⟨d, .binOp .or t x y t', ty, pos, af, gd⟩ w (.int .u32 (c : Int)) := by
  have h := evOr32 (P := P) (w := w) (d := d) (t := t) (t' := t') (ty := ty) (pos := pos) (af := af) (gd := gd) hx hy
  have e2 : (BitVec.ofNat 32 a ||| BitVec.ofNat 32 b).toNat = c := by
    rw [BitVec.toNat_or, BitVec.toNat_ofNat, BitVec.toNat_ofNat, Nat.mod_eq_of_lt ha, Nat.mod_eq_of_lt hb, hc]
  rw [e2] at h
  exact h
end
theorem shlE64u {a b : Int} {x s : Nat} (ha : a = (x : Int)) (hb : b = (s : Int)) (hs : s ≤ 64) (hx : x * 2 ^ s < 18446744073709551616) : IntKind.u64.wrap (a * 2 ^ (min b.toNat IntKind.u64.bits)) = ((x * 2 ^ s : Nat) : Int) := by
  subst ha hb
  have e : min (s : Int).toNat IntKind.u64.bits = s := by rw [Int.toNat_natCast]; exact Nat.min_eq_left hs
  rw [e]
  exact wU64 ⟨by simp, by omega, by omega⟩
end Go.Gx
namespace Go.Gx
section
variable {Q : Exit → Act → World → Prop} {a : Act} {w : World}
theorem nR (h : Q .ret a w) : Exit.noGoto Q .ret a w := h
end
end Go.Gx
namespace Go.Gx
section
variable {P : Program} {n : Nat} {e : Nat → Value} {w : World} {ty : TypeId} {pos : String} {af : Array Edge} {gd : Option (Nat × Bool)}
theorem evSliceLH {d : Option Nat} {t el : TypeId} {x y y2 : Operand} {g off len cap size : Nat} {k k2 : IntKind} {z z2 : Int} (l h : Nat) (ht : P.underlying t = some (.slice el)) (hs : ∀ w, (sizeOf el).run P w = .ok size w)
    (hx : ev n e x = .slice (some ⟨g, off, none⟩) len cap) (hy : ev n e y = .int k z) (hy2 : ev n e y2 = .int k2 z2) (hz : z = (l : Int)) (hz2 : z2 = (h : Int)) (h1 : l ≤ h) (h2 : h ≤ cap) (h3 : l < cap) (p : Nat) (hp : off + l * size = p) :
    Ev P n e ⟨d, .slice t x (some y) (some y2) none, ty, pos, af, gd⟩ w (.slice (some ⟨g, p, none⟩) (h - l) (cap - l)) := by
  have := evSlice (P := P) (w := w) (d := d) (ty := ty) (pos := pos) (af := af) (gd := gd) l h ht hs hx (lo := some y) (hi := some y2) ⟨k, z, hy, hz⟩ ⟨k2, z2, hy2, hz2⟩ h1 h2
  rw [if_neg (by omega)] at this
  simp only [Option.map_some, addr_add, hp] at this
  exact this
end
end Go.Gx

/-
  Division of digits. Plain numbers; no program in sight.
-/
namespace Go.Gx
theorem wU8 {x z : Int} (h : x = z ∧ 0 ≤ z ∧ z < 256) : IntKind.u8.wrap x = z := by
  obtain ⟨rfl, h1, h2⟩ := h
  simp only [IntKind.wrap, IntKind.bits, IntKind.signed]
  simp
  omega
theorem div32_lt {x y z : Nat} (h : x < z) (hy : y < 4294967296) : (x * 4294967296 + y) / z < 4294967296 := by
  refine Nat.div_lt_of_lt_mul ?_
  have : (x + 1) * 4294967296 ≤ z * 4294967296 := Nat.mul_le_mul_right _ h
  omega
theorem div32_e {X z q m : Nat} (hz : 0 < z) (hzz : z < 4294967296) (hq : X / z < 4294967296) (eq : q = X / z % 4294967296) (em : m = X % z % 4294967296) : q * z + m = X ∧ m < z := by
  have h1 := Nat.mod_lt X hz
  rw [Nat.mod_eq_of_lt hq] at eq
  rw [Nat.mod_eq_of_lt (by omega)] at em
  subst eq em
  refine ⟨?_, h1⟩
  have := Nat.div_add_mod X z
  rw [Nat.mul_comm] at this
  exact this
theorem bl8_spec {x : Nat} (h : x < 256) : x < 2 ^ bl8 x ∧ (x = 0 ∨ 2 ^ (bl8 x - 1) ≤ x) ∧ bl8 x ≤ 8 ∧ (x = 0 ∨ 1 ≤ bl8 x) := by
  unfold bl8
  repeat' split
  all_goals simp
  all_goals omega
theorem len_sh {x s y n : Nat} (hy : y = x / 2 ^ s) (hlt : y < 256) (h0 : s = 0 ∨ y ≠ 0) (hn : n = s + bl8 y) : x < 2 ^ n ∧ (x = 0 ∨ 2 ^ (n - 1) ≤ x) ∧ n ≤ s + 8 := by
  obtain ⟨h1, h2, h3, h4⟩ := bl8_spec hlt
  subst hn
  refine ⟨?_, ?_, by omega⟩
  · rw [Nat.pow_add]
    have : x / 2 ^ s < 2 ^ bl8 y := by rw [← hy]; exact h1
    have h5 := (Nat.div_lt_iff_lt_mul (Nat.pow_pos (by decide))).1 this
    rw [Nat.mul_comm]
    exact h5
  · rcases h2 with h2 | h2
    · rcases h0 with h0 | h0
      · subst h0
        left
        rw [h2] at hy
        simpa using hy.symm
      · exact absurd h2 h0
    · right
      have hb : 1 ≤ bl8 y := by
        rcases h4 with h4 | h4
        · rw [h4] at h2; simp [bl8] at h2
        · exact h4
      have e : 2 ^ (s + bl8 y - 1) = 2 ^ (bl8 y - 1) * 2 ^ s := by rw [← Nat.pow_add]; congr 1; omega
      rw [e]
      have h5 : 2 ^ (bl8 y - 1) ≤ x / 2 ^ s := by rw [← hy]; exact h2
      exact (Nat.le_div_iff_mul_le (Nat.pow_pos (by decide))).1 h5
theorem lead_zeros {x n r : Nat} (h0 : x ≠ 0) (h1 : x < 2 ^ n) (h2 : x = 0 ∨ 2 ^ (n - 1) ≤ x) (h3 : n ≤ 32) (hr : r = 32 - n) : x * 2 ^ r < 4294967296 ∧ 2147483648 ≤ x * 2 ^ r ∧ r ≤ 31 := by
  have hn : 1 ≤ n := by
    rcases Nat.eq_zero_or_pos n with h | h
    · subst h; simp at h1; omega
    · exact h
  have h4 : 2 ^ (n - 1) ≤ x := by rcases h2 with h | h; exact absurd h h0; exact h
  have e1 : (4294967296 : Nat) = 2 ^ n * 2 ^ r := by rw [← Nat.pow_add, hr, show n + (32 - n) = 32 by omega]
  have e2 : (2147483648 : Nat) = 2 ^ (n - 1) * 2 ^ r := by rw [← Nat.pow_add, hr, show n - 1 + (32 - n) = 31 by omega]
  refine ⟨?_, ?_, by omega⟩
  · rw [e1]; exact Nat.mul_lt_mul_of_pos_right h1 (Nat.pow_pos (by decide))
  · rw [e2]; exact Nat.mul_le_mul_right _ h4
theorem val2 {d : List Nat} {n : Nat} (hl : d.length = n) : (n = 0 → val d = 0) ∧ (n = 1 → val d = d.getD 0 0) ∧ (n = 2 → val d = d.getD 1 0 * 4294967296 + d.getD 0 0) := by
  match d, hl with
  | [], h => simp at h; subst h; simp [val]
  | [a], h => simp at h; subst h; simp [val]
  | [a, b], h => simp at h; subst h; simp [val, BS]; omega
  | a :: b :: c :: d, h => simp at h; refine ⟨by omega, by omega, by omega⟩
theorem drop_val {a : List Nat} {k : Nat} (hk : 0 < k) (hl : k ≤ a.length) : val (a.drop (k - 1)) = a.getD (k - 1) 0 + 4294967296 * val (a.drop k) := by
  rw [List.drop_eq_getElem_cons (show k - 1 < a.length by omega), show k - 1 + 1 = k by omega]
  simp [val, List.getD, show k - 1 < a.length by omega]
theorem divs_step {a Q : List Nat} {k d r q r' : Nat} (hk : 0 < k) (hl : k ≤ a.length) (h : val (a.drop k) = d * val Q + r) (he : q * d + r' = r * 4294967296 + a.getD (k - 1) 0) : val (a.drop (k - 1)) = d * val (q :: Q) + r' := by
  rw [drop_val hk hl, h]
  simp only [val]
  rw [Nat.mul_add, Nat.mul_add]
  have e1 : d * (BS * val Q) = 4294967296 * (d * val Q) := by rw [Nat.mul_left_comm]
  rw [e1]
  have e2 : q * d = d * q := Nat.mul_comm _ _
  omega
theorem revN_set {L : List Nat} {m m' k r : Nat} (hm : m = m' + 1) (hk : k = m') : (List.replicate m 0 ++ L).set k r = List.replicate m' 0 ++ (r :: L) := by
  subst hm hk
  rw [List.replicate_succ', List.append_assoc, List.set_append_right _ _ (by simp)]
  simp
theorem lt_revfill {P : List Nat} {m : Nat} (h : ∀ d ∈ P, d < BS) : ∀ d ∈ List.replicate m 0 ++ P, d < BS := by
  intro d hd
  rcases List.mem_append.1 hd with h1 | h1
  · have := List.eq_of_mem_replicate h1; subst this; decide
  · exact h d h1
theorem lt_cons {P : List Nat} {s : Nat} (h : ∀ d ∈ P, d < BS) (hs : s < 4294967296) : ∀ d ∈ s :: P, d < BS := by
  intro d hd
  rcases List.mem_cons.1 hd with h1 | h1
  · subst h1; exact hs
  · exact h d h1
end Go.Gx
namespace Go.Gx
def estU (a b c : Nat) : Nat := (a * 4294967296 + b) * 4294967296 + c
def estV (d e : Nat) : Nat := d * 4294967296 + e
theorem est_mul (g d e : Nat) : g * estV d e = g * d * 4294967296 + g * e := by unfold estV; rw [Nat.mul_add, Nat.mul_assoc]
def EstI (a b d g r : Nat) : Prop := g * d + r = a * 4294967296 + b
theorem EstI.start1 {a b d s c : Nat} (ha : a = d) (hs : s + 4294967296 * c = b + d) : EstI a b d 4294967295 (s + 4294967296 * c) := by
  unfold EstI; subst ha; omega
theorem EstI.start2 {a b d q r : Nat} (h : q * d + r = a * 4294967296 + b) : EstI a b d q (r + 4294967296 * 0) := by unfold EstI; omega
theorem EstI.next {a b d g r s c : Nat} (h : EstI a b d g r) (hg : 0 < g) (hs : s + 4294967296 * c = r + d) : EstI a b d (g - 1) (s + 4294967296 * c) := by
  unfold EstI at *
  obtain ⟨j, rfl⟩ : ∃ j, g = j + 1 := ⟨g - 1, by omega⟩
  rw [Nat.add_mul, Nat.one_mul] at h
  simp only [Nat.add_sub_cancel]
  omega
theorem EstI.big {a b d g r : Nat} (h : EstI a b d g r) : (a * 4294967296 + b) * 4294967296 = g * d * 4294967296 + r * 4294967296 := by
  unfold EstI at h
  omega
theorem est_ok {a b c d e g r : Nat} (h : EstI a b d g r) (hle : g * e ≤ r * 4294967296 + c) : g * estV d e ≤ estU a b c := by
  have e := EstI.big h
  rw [est_mul]
  unfold estU
  omega
theorem est_over {a b c d e g s : Nat} (h : EstI a b d g (s + 4294967296 * 1)) (hg : g < 4294967296) (he : e < 4294967296) : g * estV d e ≤ estU a b c := by
  have h1 := mul32_le hg he
  have h2 : g * e ≤ (s + 4294967296 * 1) * 4294967296 + c := by omega
  exact est_ok h h2
theorem est_no {a b c d e g r : Nat} (h : EstI a b d g r) (hgt : r * 4294967296 + c < g * e) : estU a b c < g * estV d e := by
  have hb := EstI.big h
  rw [est_mul]
  unfold estU
  rw [hb, Nat.add_assoc]
  exact Nat.add_lt_add_left hgt _
def EstM (a b c d e g : Nat) : Prop := ∀ q, q ≤ 4294967295 → q * estV d e ≤ estU a b c → q ≤ g
theorem EstM.start1 (a b c d e : Nat) : EstM a b c d e 4294967295 := fun _ h _ => h
theorem EstM.start2 {a b c d e q r : Nat} (h : q * d + r = a * 4294967296 + b) (hr : r < d) (hc : c < 4294967296) : EstM a b c d e q := by
  intro p _ hp
  rw [est_mul] at hp
  unfold estU at hp
  rcases Nat.lt_or_ge q p with h1 | h1
  · exfalso
    have h2 : (q + 1) * d ≤ p * d := Nat.mul_le_mul_right _ h1
    rw [Nat.add_mul, Nat.one_mul] at h2
    omega
  · exact h1
theorem EstM.next {a b c d e g : Nat} (h : EstM a b c d e g) (hn : estU a b c < g * estV d e) : EstM a b c d e (g - 1) := by
  intro q hq hp
  have h1 := h q hq hp
  rcases Nat.eq_or_lt_of_le h1 with h2 | h2
  · subst h2; omega
  · omega
theorem est_pos {a b c d e g : Nat} (hn : estU a b c < g * estV d e) : 0 < g := by
  rcases Nat.eq_zero_or_pos g with h | h
  · subst h; simp at hn
  · exact h
theorem est_test {g e h l r c : Nat} (hm : l + 4294967296 * h = g * e) (hl : l < 4294967296) (hc : c < 4294967296) : ((h < r ∨ h = r ∧ l ≤ c) → g * e ≤ r * 4294967296 + c) ∧ (¬ (h < r ∨ h = r ∧ l ≤ c) → r * 4294967296 + c < g * e) := by
  constructor <;> intro hh <;> omega
theorem sm_step {P Z v : List Nat} {k d bo cy bo' cy' s : Nat} (h : val P + d * val (v.take k) = val (Z.take k) + BS ^ k * (bo + cy)) (hl : P.length = k) (hs : bo + cy + s + d * v.getD k 0 = Z.getD k 0 + 4294967296 * (bo' + cy')) :
    val (P ++ [s]) + d * val (v.take (k + 1)) = val (Z.take (k + 1)) + BS ^ (k + 1) * (bo' + cy') := by
  rw [val_snoc, hl, val_getD, val_getD, Nat.mul_add d, Nat.pow_succ, Nat.mul_assoc]
  have e1 : d * (BS ^ k * v.getD k 0) = BS ^ k * (d * v.getD k 0) := Nat.mul_left_comm _ _ _
  have e2 : BS ^ k * (bo + cy + s + d * v.getD k 0) = BS ^ k * (Z.getD k 0 + BS * (bo' + cy')) := by rw [hs]
  rw [Nat.mul_add, Nat.mul_add (BS ^ k) (bo + cy), Nat.mul_add (BS ^ k) (Z.getD k 0)] at e2
  rw [e1]
  omega
theorem sm_last {P Z v : List Nat} {k d bo cy bo' s : Nat} (h : val P + d * val (v.take k) = val (Z.take k) + BS ^ k * (bo + cy)) (hl : P.length = k) (hv : v.length ≤ k) (hs : bo + cy + s = Z.getD k 0 + 4294967296 * bo') :
    val (P ++ [s]) + d * val v = val (Z.take (k + 1)) + BS ^ (k + 1) * bo' := by
  have h0 : v.getD k 0 = 0 := getD_ge (n := k) hv k (Nat.le_refl _)
  have := sm_step (bo' := bo') (cy' := 0) h hl (by rw [h0]; omega)
  rw [List.take_of_length_le (show v.length ≤ k + 1 by omega)] at this
  simpa using this
end Go.Gx
namespace Go.Gx
theorem part_take {P Z : List Nat} {s k : Nat} (h : P.length = k) : ((P ++ [s]) ++ Z.drop (k + 1)).take (k + 1) = P ++ [s] := by
  rw [List.take_append_of_le_length (by simp [h])]
  rw [List.take_of_length_le (by simp [h])]
theorem part_drop {P Z : List Nat} {s k : Nat} (h : P.length = k) : ((P ++ [s]) ++ Z.drop (k + 1)).drop (k + 1) = Z.drop (k + 1) := by
  rw [List.drop_append_of_le_length (by simp [h]), List.drop_of_length_le (by simp [h])]; rfl
theorem natne (x : Nat) : decide (((x : Nat) : Int) ≠ 0) = decide (x ≠ 0) := by
  by_cases h : x = 0 <;> simp [h]
end Go.Gx
namespace Go.Gx
theorem est_ok0 {a b c d e g r o h l : Nat} (hI : EstI a b d g (r + 4294967296 * o)) (ho : o = 0) (hm : l + 4294967296 * h = g * e) (hl : l < 4294967296) (hc : c < 4294967296) (ht : h < r ∨ h = r ∧ l ≤ c) : g * estV d e ≤ estU a b c := by
  subst ho
  simp only [Nat.mul_zero, Nat.add_zero] at hI
  exact est_ok hI ((est_test hm hl hc).1 ht)
theorem est_no0 {a b c d e g r o h l : Nat} (hI : EstI a b d g (r + 4294967296 * o)) (ho : o = 0) (hm : l + 4294967296 * h = g * e) (hl : l < 4294967296) (hc : c < 4294967296) (ht : ¬ (h < r ∨ h = r ∧ l ≤ c)) : estU a b c < g * estV d e := by
  subst ho
  simp only [Nat.mul_zero, Nat.add_zero] at hI
  exact est_no hI ((est_test hm hl hc).2 ht)
theorem est_over1 {a b c d e g s o : Nat} (h : EstI a b d g (s + 4294967296 * o)) (ho : o = 1) (hg : g < 4294967296) (he : e < 4294967296) : g * estV d e ≤ estU a b c := by
  subst ho; exact est_over h hg he
theorem EstI.next0 {a b d g r s c o : Nat} (h : EstI a b d g (r + 4294967296 * o)) (ho : o = 0) (hg : 0 < g) (hs : s + 4294967296 * c = r + d) : EstI a b d (g - 1) (s + 4294967296 * c) := by
  subst ho
  simp only [Nat.mul_zero, Nat.add_zero] at h
  exact h.next hg hs
end Go.Gx
namespace Go.Gx
theorem low_mul {x s : Nat} (hs : s ≤ 31) : x * 2 ^ s % 4294967296 = 2 ^ s * (x % 2 ^ (32 - s)) := by
  have e : (4294967296 : Nat) = 2 ^ s * 2 ^ (32 - s) := by rw [← Nat.pow_add, show s + (32 - s) = 32 by omega]
  rw [e, Nat.mul_comm x, Nat.mul_mod_mul_left]
theorem shl_parts {x s c : Nat} (hx : x < 4294967296) (hs : s ≤ 31) (hc : c < 2 ^ s) :
    x * 2 ^ s < 9223372036854775808 ∧ c ||| x * 2 ^ s % 4294967296 = c + x * 2 ^ s % 4294967296 ∧ c + x * 2 ^ s % 4294967296 < 4294967296 ∧ x * 2 ^ s / 4294967296 < 2 ^ s ∧ 2 ^ s ≤ 2147483648 := by
  have hp : (2 : Nat) ^ s ≤ 2147483648 := Nat.pow_le_pow_right (by decide) hs
  have h0 : 0 < (2 : Nat) ^ s := Nat.pow_pos (by decide)
  have h1 : x * 2 ^ s ≤ 4294967295 * 2147483648 := Nat.mul_le_mul (by omega) hp
  refine ⟨by omega, ?_, ?_, ?_, hp⟩
  · rw [low_mul hs, Nat.or_comm, or_nat _ _ _ hc, Nat.add_comm]
  · rw [low_mul hs]
    have e : (4294967296 : Nat) = 2 ^ s * 2 ^ (32 - s) := by rw [← Nat.pow_add, show s + (32 - s) = 32 by omega]
    have h2 : x % 2 ^ (32 - s) < 2 ^ (32 - s) := Nat.mod_lt _ (Nat.pow_pos (by decide))
    have h3 : 2 ^ s * (x % 2 ^ (32 - s) + 1) ≤ 2 ^ s * 2 ^ (32 - s) := Nat.mul_le_mul_left _ h2
    rw [← e, Nat.mul_add, Nat.mul_one] at h3
    omega
  · refine Nat.div_lt_of_lt_mul ?_
    exact Nat.mul_lt_mul_of_pos_right hx h0
theorem shl_get {P Z : List Nat} {w k c t : Nat} (hP : P.length = k) (ht : t = w + k) : (List.replicate w 0 ++ (P ++ (c :: Z))).getD t 0 = c := by
  subst ht
  simp only [List.getD]
  rw [List.getElem?_append_right (by simp), List.length_replicate, Nat.add_sub_cancel_left, List.getElem?_append_right (by omega), hP, Nat.sub_self]
  rfl
theorem shl_set1 {P Z : List Nat} {w k c t v : Nat} (hP : P.length = k) (ht : t = w + k) : (List.replicate w 0 ++ (P ++ (c :: Z))).set t v = List.replicate w 0 ++ (P ++ (v :: Z)) := by
  subst ht
  rw [List.set_append_right _ _ (by simp), List.length_replicate, Nat.add_sub_cancel_left, List.set_append_right _ _ (by omega), hP, Nat.sub_self, List.set_cons_zero]
theorem shl_set2 {P : List Nat} {w k t m m' v h : Nat} (hP : P.length = k) (ht : t = w + (k + 1)) (hm : m = m' + 1) : (List.replicate w 0 ++ (P ++ (v :: List.replicate m 0))).set t h = List.replicate w 0 ++ ((P ++ [v]) ++ (h :: List.replicate m' 0)) := by
  subst ht hm
  rw [List.set_append_right _ _ (by simp), List.length_replicate, Nat.add_sub_cancel_left, List.set_append_right _ _ (by omega), hP, show k + 1 - k = 1 by omega, List.replicate_succ]
  simp
theorem shl_step {P a : List Nat} {k c c' s v : Nat} (h : val P + BS ^ k * c = val (a.take k) * 2 ^ s) (hl : P.length = k) (hv : v + 4294967296 * c' = a.getD k 0 * 2 ^ s + c) : val (P ++ [v]) + BS ^ (k + 1) * c' = val (a.take (k + 1)) * 2 ^ s := by
  rw [dig_step h hl hv, val_getD, Nat.add_mul, Nat.mul_assoc]
theorem shl_end {P a : List Nat} {k c s w m n : Nat} (h : val P + BS ^ k * c = val (a.take k) * 2 ^ s) (hl : P.length = k) (ha : a.length ≤ k) (hm : m = 0) (hn : n = 32 * w + s) : val (List.replicate w 0 ++ (P ++ (c :: List.replicate m 0))) = val a * 2 ^ n := by
  subst hm hn
  rw [val_append, val_zeros, List.length_replicate, List.replicate_zero, val_snoc, hl, h, val_take_all a ha, Nat.pow_add, Nat.pow_mul, Nat.zero_add]
  show (2 ^ 32) ^ w * (val a * 2 ^ s) = _
  rw [Nat.mul_left_comm]
theorem lt_shl {P : List Nat} {w m c : Nat} (h : ∀ d ∈ P, d < BS) (hc : c < 4294967296) : ∀ d ∈ List.replicate w 0 ++ (P ++ (c :: List.replicate m 0)), d < BS := by
  intro d hd
  rcases List.mem_append.1 hd with h1 | h1
  · have := List.eq_of_mem_replicate h1; subst this; decide
  · rcases List.mem_append.1 h1 with h2 | h2
    · exact h d h2
    · rcases List.mem_cons.1 h2 with h3 | h3
      · subst h3; exact hc
      · have := List.eq_of_mem_replicate h3; subst this; decide
theorem shr_digit {T : List Nat} {k s : Nat} (hT : ∀ d ∈ T, d < BS) (hs : s ≤ 31) : val T / 2 ^ s / BS ^ k % BS = (T.getD k 0 + T.getD (k + 1) 0 * 4294967296) / 2 ^ s % 4294967296 := by
  rw [Nat.div_div_eq_div_mul, Nat.mul_comm, ← Nat.div_div_eq_div_mul, ← vb_val]
  rw [show vb 4294967296 T / BS ^ k = vb 4294967296 (T.drop k) from vb_div T hT k]
  rw [vb_tail, vb_tail (T.drop k).tail]
  have e0 : (T.drop k).getD 0 0 = T.getD k 0 := by simp [List.getD, List.getElem?_drop]
  have e1 : (T.drop k).tail.getD 0 0 = T.getD (k + 1) 0 := by simp [List.getD, List.getElem?_drop]
  rw [e0, e1, Nat.mul_add]
  have hp : (4294967296 : Nat) = 2 ^ s * 2 ^ (32 - s) := by rw [← Nat.pow_add, show s + (32 - s) = 32 by omega]
  have e2 : ∀ r : Nat, (T.getD k 0 + (4294967296 * T.getD (k + 1) 0 + 4294967296 * (4294967296 * r))) = (T.getD k 0 + T.getD (k + 1) 0 * 4294967296) + 2 ^ s * (4294967296 * (2 ^ (32 - s) * r)) := by
    intro r
    have e3 : 2 ^ s * (4294967296 * (2 ^ (32 - s) * r)) = 4294967296 * (4294967296 * r) := by
      rw [Nat.mul_left_comm, ← Nat.mul_assoc (2 ^ s), ← hp]
    rw [e3]
    omega
  rw [e2, Nat.add_mul_div_left _ _ (Nat.pow_pos (by decide)), Nat.add_mul_mod_self_left]
theorem shr_step {T P : List Nat} {k s t : Nat} (hT : ∀ d ∈ T, d < BS) (hs : s ≤ 31) (h : val P = val T / 2 ^ s % BS ^ k) (hl : P.length = k) (ht : t = (T.getD k 0 + T.getD (k + 1) 0 * 4294967296) / 2 ^ s % 4294967296) : val (P ++ [t]) = val T / 2 ^ s % BS ^ (k + 1) := by
  rw [val_snoc, hl, h, ht, ← shr_digit hT hs, ← Nat.mod_pow_succ]
theorem shr_end {a T P : List Nat} {k w s n m : Nat} (ha : ∀ d ∈ a, d < BS) (hT : T = a.drop w) (h : val P = val T / 2 ^ s % BS ^ k) (hk : T.length ≤ k) (hn : n = 32 * w + s) : val (P ++ List.replicate m 0) = val a / 2 ^ n := by
  have hTd : ∀ d ∈ T, d < BS := fun d hd => by rw [hT] at hd; exact ha d (List.mem_of_mem_drop hd)
  have h1 : val T < BS ^ k := Nat.lt_of_lt_of_le (val_lt T hTd) (Nat.pow_le_pow_right (by decide) hk)
  have h2 : val T / 2 ^ s < BS ^ k := Nat.lt_of_le_of_lt (Nat.div_le_self _ _) h1
  rw [val_fill, h, Nat.mod_eq_of_lt h2, hn, Nat.pow_add, ← Nat.div_div_eq_div_mul, Nat.pow_mul]
  have h3 : val a / (2 ^ 32) ^ w = val (a.drop w) := by rw [← vb_val, ← vb_val]; exact vb_div a ha w
  rw [h3, ← hT]
theorem shr_zero {a : List Nat} {w n l : Nat} (ha : ∀ d ∈ a, d < BS) (hl : a.length = l) (hw : l ≤ w) (hn : 32 * w ≤ n) : (0 : Nat) = val a / 2 ^ n := by
  have h1 := val_lt a ha
  refine (Nat.div_eq_of_lt (Nat.lt_of_lt_of_le h1 ?_)).symm
  rw [hl, show (BS : Nat) = 2 ^ 32 from rfl, ← Nat.pow_mul]
  exact Nat.pow_le_pow_right (by decide) (by omega)
theorem or_high {x t : Nat} (hx : x < 4294967296) : x ||| t * 4294967296 = x + t * 4294967296 := by
  rw [Nat.or_comm, Nat.mul_comm t]
  have := or_nat t x 32 hx
  rw [show (2 : Nat) ^ 32 = 4294967296 from rfl] at this
  omega
end Go.Gx
namespace Go.Gx
theorem rep_shl {w n : Nat} : List.replicate w 0 ++ ((0 : Nat) :: List.replicate (n - 0) 0) = List.replicate (w + n + 1) 0 := by
  rw [← List.replicate_succ, List.replicate_append_replicate]
  congr 1
end Go.Gx

/-
  Long division of digits. Plain numbers; no program in sight.
-/
namespace Go.Gx
theorem drop_two {d : List Nat} {n : Nat} (hn : 2 ≤ n) (hl : d.length = n) : val (d.drop (n - 2)) = estV (d.getD (n - 1) 0) (d.getD (n - 2) 0) := by
  have e1 := drop_val (a := d) (k := n - 1) (by omega) (by omega)
  have e2 := drop_val (a := d) (k := n) (by omega) (by omega)
  rw [List.drop_of_length_le (show d.length ≤ n by omega)] at e2
  rw [show n - 2 = n - 1 - 1 by omega, e1, e2]
  simp only [estV, val]
  omega
theorem drop_three {d : List Nat} {n : Nat} (hn : 2 ≤ n) (hl : d.length = n + 1) : val (d.drop (n - 2)) = estU (d.getD n 0) (d.getD (n - 1) 0) (d.getD (n - 2) 0) := by
  have e1 := drop_val (a := d) (k := n - 1) (by omega) (by omega)
  have e2 := drop_val (a := d) (k := n) (by omega) (by omega)
  have e3 := drop_val (a := d) (k := n + 1) (by omega) (by omega)
  rw [List.drop_of_length_le (show d.length ≤ n + 1 by omega), Nat.add_sub_cancel] at e3
  rw [show n - 2 = n - 1 - 1 by omega, e1, e2, e3]
  simp only [estU, val]
  omega
theorem tops {d : List Nat} {n k X : Nat} (hd : ∀ x ∈ d, x < BS) (hn : 2 ≤ n) (hl : n - 2 ≤ d.length) (hX : val (d.drop (n - 2)) = X) : BS ^ (n - 2) * X ≤ val d ∧ val d < BS ^ (n - 2) * (X + 1) := by
  have h1 := val_split d (k := n - 2) hl
  have h2 := val_lt (d.take (n - 2)) fun x hx => hd x (List.mem_of_mem_take hx)
  rw [List.length_take, Nat.min_eq_left hl] at h2
  rw [hX] at h1
  rw [Nat.mul_add, Nat.mul_one]
  omega
theorem est_bound {E V U v P g : Nat} (hE : 0 < E) (hv1 : E * V ≤ v) (hv2 : v < E * (V + 1)) (hp1 : E * U ≤ P) (hp2 : P < E * (U + 1)) (hok : g * V ≤ U) (hmx : ∀ q, q ≤ 4294967295 → q * V ≤ U → q ≤ g) (hg : g ≤ 4294967295) (hPv : P < v * 4294967296) (hV : 4294967296 ≤ V) :
    P / v ≤ g ∧ (0 < g → (g - 1) * v ≤ P) ∧ (g * v ≤ P → P - g * v < v) := by
  have hv0 : 0 < v := by
    have : E * 1 ≤ E * V := Nat.mul_le_mul_left _ (by omega)
    omega
  have hq : P / v ≤ g := by
    refine hmx _ ?_ ?_
    · have : P / v < 4294967296 := Nat.div_lt_of_lt_mul hPv
      omega
    · have h1 : P / v * v ≤ P := Nat.div_mul_le_self _ _
      have h2 : P / v * (E * V) ≤ P / v * v := Nat.mul_le_mul_left _ hv1
      have h3 : E * (P / v * V) < E * (U + 1) := by rw [Nat.mul_left_comm]; omega
      have := Nat.lt_of_mul_lt_mul_left h3
      omega
  refine ⟨hq, fun h0 => ?_, fun hle => ?_⟩
  · obtain ⟨j, rfl⟩ : ∃ j, g = j + 1 := ⟨g - 1, by omega⟩
    rw [Nat.add_sub_cancel]
    have h1 : E * ((j + 1) * V) ≤ E * U := Nat.mul_le_mul_left _ hok
    have h2 : (j + 1) * v ≤ (j + 1) * (E * (V + 1)) := Nat.mul_le_mul_left _ (by omega)
    have h3 : (j + 1) * (E * (V + 1)) = E * ((j + 1) * V) + E * (j + 1) := by
      rw [Nat.mul_left_comm, Nat.mul_add (j + 1), Nat.mul_one, Nat.mul_add]
    have h4 : E * (j + 1) ≤ E * V := Nat.mul_le_mul_left _ (by omega)
    rw [Nat.add_mul, Nat.one_mul] at h2
    omega
  · have h1 : g ≤ P / v := (Nat.le_div_iff_mul_le hv0).2 hle
    have h2 : g = P / v := by omega
    have h3 := Nat.div_add_mod P v
    have h4 := Nat.mod_lt P hv0
    rw [Nat.mul_comm, ← h2] at h3
    omega
theorem top_le {E V U v P a b c d e : Nat} (hE : 0 < E) (hv2 : v < E * (V + 1)) (hp1 : E * U ≤ P) (hPv : P < v * 4294967296) (hU : U = estU a b c) (hV : V = estV d e) (he : e < 4294967296) : a ≤ d := by
  have h1 : v * 4294967296 ≤ E * (V + 1) * 4294967296 := Nat.mul_le_mul_right _ (by omega)
  have h2 : E * U < E * ((V + 1) * 4294967296) := by rw [← Nat.mul_assoc]; omega
  have h3 := Nat.lt_of_mul_lt_mul_left h2
  subst hU hV
  unfold estU estV at h3
  omega
structure DivI (D v Q : List Nat) (k N : Nat) : Prop where
  eq : val D + val v * (BS ^ k * val Q) = N
  lt : val D < val v * BS ^ k
theorem DivI.part {D v Q : List Nat} {k N n : Nat} (h : DivI D v Q k N) (hk : 0 < k) (hl : k - 1 + n + 1 ≤ D.length) (hv : val v < BS ^ n) :
    val D = val (D.take (k - 1)) + BS ^ (k - 1) * val ((D.drop (k - 1)).take (n + 1)) ∧ val ((D.drop (k - 1)).take (n + 1)) < val v * 4294967296 ∧ val ((D.drop (k - 1)).drop (n + 1)) = 0 := by
  have e1 := val_split D (k := k - 1) (by omega)
  have e2 := val_split (D.drop (k - 1)) (k := n + 1) (by simp; omega)
  have hk1 : BS ^ k = BS ^ (k - 1) * 4294967296 := by rw [← Nat.pow_succ]; congr 1; omega
  have h1 := h.lt
  rw [hk1, ← Nat.mul_assoc, Nat.mul_comm (val v) (BS ^ (k - 1)), Nat.mul_assoc] at h1
  have h2 : BS ^ (k - 1) * val (D.drop (k - 1)) < BS ^ (k - 1) * (val v * 4294967296) := by omega
  have h3 := Nat.lt_of_mul_lt_mul_left h2
  have h4 : val ((D.drop (k - 1)).drop (n + 1)) = 0 := by
    rcases Nat.eq_zero_or_pos (val ((D.drop (k - 1)).drop (n + 1))) with h0 | h0
    · exact h0
    · exfalso
      have h5 : BS ^ (n + 1) * 1 ≤ BS ^ (n + 1) * val ((D.drop (k - 1)).drop (n + 1)) := Nat.mul_le_mul_left _ h0
      have h6 : (val v + 1) * 4294967296 ≤ BS ^ n * 4294967296 := Nat.mul_le_mul_right _ hv
      have h7 : BS ^ (n + 1) = BS ^ n * 4294967296 := Nat.pow_succ _ _
      rw [Nat.mul_one] at h5
      omega
  rw [h4, Nat.mul_zero, Nat.add_zero] at e2
  refine ⟨by rw [← e2]; exact e1, by rw [← e2]; exact h3, h4⟩
theorem DivI.step {D v Q Zr : List Nat} {k N n q : Nat} (h : DivI D v Q k N) (hk : 0 < k) (hl : k - 1 + n + 1 ≤ D.length) (hv : val v < BS ^ n) (hDt : ∀ d ∈ D, d < BS) (hZ : Zr.length = (D.drop (k - 1)).length)
    (hd : Zr.drop (n + 1) = (D.drop (k - 1)).drop (n + 1)) (he : val (Zr.take (n + 1)) + q * val v = val ((D.drop (k - 1)).take (n + 1))) (hlt : val (Zr.take (n + 1)) < val v) : DivI (D.take (k - 1) ++ Zr) v (q :: Q) (k - 1) N := by
  obtain ⟨h1, h2, h3⟩ := h.part hk hl hv
  have e2 := val_split Zr (k := n + 1) (by rw [hZ]; simp; omega)
  rw [hd, h3, Nat.mul_zero, Nat.add_zero] at e2
  have e3 : val (D.take (k - 1) ++ Zr) = val (D.take (k - 1)) + BS ^ (k - 1) * val (Zr.take (n + 1)) := by
    rw [val_append, List.length_take, Nat.min_eq_left (by omega), e2]
  have hk1 : BS ^ k = BS ^ (k - 1) * BS := by rw [← Nat.pow_succ]; congr 1; omega
  have hU : val (D.take (k - 1)) < BS ^ (k - 1) := by
    have := val_lt (D.take (k - 1)) fun d hd' => hDt d (List.mem_of_mem_take hd')
    rwa [List.length_take, Nat.min_eq_left (by omega)] at this
  constructor
  · rw [e3, ← h.eq, h1, ← he, hk1]
    simp only [val]
    rw [Nat.mul_add (BS ^ (k - 1)) (val (Zr.take (n + 1))), Nat.mul_add (BS ^ (k - 1)) q, Nat.mul_add (val v), Nat.mul_assoc (BS ^ (k - 1)) BS]
    have : val v * (BS ^ (k - 1) * q) = BS ^ (k - 1) * (q * val v) := by rw [Nat.mul_left_comm, Nat.mul_comm (val v)]
    omega
  · rw [e3]
    have h5 : BS ^ (k - 1) * (val (Zr.take (n + 1)) + 1) ≤ BS ^ (k - 1) * val v := Nat.mul_le_mul_left _ hlt
    rw [Nat.mul_add, Nat.mul_one] at h5
    rw [Nat.mul_comm (val v)]
    omega
theorem addback {Pz Z1 Z2 v B q bo cr : Nat} (he : Z1 + (q + 1) * v = Pz + B * bo) (hb : bo ≠ 0) (hbo : bo ≤ 1) (h2 : Z2 + B * cr = Z1 + v) (hZ2 : Z2 < B) (hle : q * v ≤ Pz) (hnl : Pz < (q + 1) * v) (hvB : v < B) : Z2 + q * v = Pz ∧ Z2 < v := by
  have h1 : bo = 1 := by omega
  subst h1
  rw [Nat.add_mul, Nat.one_mul] at he hnl
  have hcr : cr = 1 := by
    rcases Nat.lt_trichotomy cr 1 with h | h | h
    · have : cr = 0 := by omega
      subst this; simp at h2; omega
    · exact h
    · have : B * 2 ≤ B * cr := Nat.mul_le_mul_left _ h
      omega
  subst hcr
  omega
theorem nonneg_of_borrow {Z1 P q v B bo : Nat} (he : Z1 + q * v = P + B * bo) (hZ : Z1 < B) : (bo = 0 ↔ q * v ≤ P) := by
  constructor
  · intro h; subst h; omega
  · intro h
    rcases Nat.eq_zero_or_pos bo with h0 | h0
    · exact h0
    · have : B * 1 ≤ B * bo := Nat.mul_le_mul_left _ h0
      omega
theorem norm_len {b v : List Nat} {n s : Nat} (hb : ∀ d ∈ b, d < BS) (hl : b.length = n) (hn : 0 < n) (h1 : b.getD (n - 1) 0 * 2 ^ s < 4294967296) (h2 : 2147483648 ≤ b.getD (n - 1) 0 * 2 ^ s) (hs : s ≤ 31) (hv : val v = val b * 2 ^ s) (hvt : ∀ d ∈ v, d < BS) (hc : Canon isZ v) :
    v.length = n ∧ 2147483648 ≤ v.getD (n - 1) 0 := by
  have e1 := val_split b (k := n - 1) (by omega)
  have e2 := drop_val (a := b) (k := n) hn (by omega)
  rw [List.drop_of_length_le (show b.length ≤ n by omega)] at e2
  have h3 := val_lt (b.take (n - 1)) fun d hd => hb d (List.mem_of_mem_take hd)
  rw [List.length_take, Nat.min_eq_left (by omega)] at h3
  have e3 : val b = val (b.take (n - 1)) + BS ^ (n - 1) * b.getD (n - 1) 0 := by rw [e1, e2]; simp [val]
  have hp : 0 < (2 : Nat) ^ s := Nat.pow_pos (by decide)
  have hB : BS ^ n = BS ^ (n - 1) * 4294967296 := by rw [← Nat.pow_succ]; congr 1; omega
  have e4 : (b.getD (n - 1) 0 + 1) * 2 ^ s ≤ 4294967296 := by
    have e : (4294967296 : Nat) = 2 ^ (32 - s) * 2 ^ s := by rw [← Nat.pow_add, show 32 - s + s = 32 by omega]
    have h5 : b.getD (n - 1) 0 * 2 ^ s < 2 ^ (32 - s) * 2 ^ s := by rw [← e]; exact h1
    have h6 := Nat.lt_of_mul_lt_mul_right h5
    have h7 : (b.getD (n - 1) 0 + 1) * 2 ^ s ≤ 2 ^ (32 - s) * 2 ^ s := Nat.mul_le_mul_right _ h6
    rw [← e] at h7
    exact h7
  have hup : val v < BS ^ n := by
    rw [hv, hB]
    have h5 : val b + 1 ≤ BS ^ (n - 1) * (b.getD (n - 1) 0 + 1) := by rw [Nat.mul_add, Nat.mul_one]; omega
    have h6 : (val b + 1) * 2 ^ s ≤ BS ^ (n - 1) * (b.getD (n - 1) 0 + 1) * 2 ^ s := Nat.mul_le_mul_right _ h5
    have h7 : BS ^ (n - 1) * ((b.getD (n - 1) 0 + 1) * 2 ^ s) ≤ BS ^ (n - 1) * 4294967296 := Nat.mul_le_mul_left _ e4
    rw [Nat.mul_assoc] at h6
    rw [Nat.add_mul, Nat.one_mul] at h6
    omega
  have hlo : BS ^ (n - 1) * 2147483648 ≤ val v := by
    rw [hv, e3, Nat.add_mul, Nat.mul_assoc]
    have : BS ^ (n - 1) * 2147483648 ≤ BS ^ (n - 1) * (b.getD (n - 1) 0 * 2 ^ s) := Nat.mul_le_mul_left _ h2
    omega
  have hle : v.length ≤ n := lt_val_len hc hup
  have hge : n ≤ v.length := by
    rcases Nat.lt_or_ge v.length n with h5 | h5
    · exfalso
      have h6 := val_lt v hvt
      have h7 : BS ^ v.length ≤ BS ^ (n - 1) := Nat.pow_le_pow_right (by decide) (by omega)
      have h8 : BS ^ (n - 1) * 1 ≤ BS ^ (n - 1) * 2147483648 := Nat.mul_le_mul_left _ (by decide)
      omega
    · exact h5
  refine ⟨by omega, ?_⟩
  have e5 := val_split v (k := n - 1) (by omega)
  have e6 := drop_val (a := v) (k := n) hn (by omega)
  rw [List.drop_of_length_le (show v.length ≤ n by omega)] at e6
  have h5 := val_lt (v.take (n - 1)) fun d hd => hvt d (List.mem_of_mem_take hd)
  rw [List.length_take, Nat.min_eq_left (by omega)] at h5
  have e7 : val v = val (v.take (n - 1)) + BS ^ (n - 1) * v.getD (n - 1) 0 := by rw [e5, e6]; simp [val]
  have h6 : BS ^ (n - 1) * 2147483648 < BS ^ (n - 1) * (v.getD (n - 1) 0 + 1) := by rw [Nat.mul_add, Nat.mul_one]; omega
  have := Nat.lt_of_mul_lt_mul_left h6
  omega
theorem DivI.start {D v : List Nat} {k N m n s va : Nat} (hD : val D = N) (hN : N = va * 2 ^ s) (hva : va < BS ^ (m - 1)) (hs : s ≤ 31) (hv : BS ^ (n - 1) * 2147483648 ≤ val v) (hn : 0 < n) (hk : k = m - n) (hm : n ≤ m) : DivI D v [] k N := by
  refine ⟨by simp [val, hD], ?_⟩
  rw [hD, hN, hk]
  have h1 : va * 2 ^ s < BS ^ (m - 1) * 2 ^ s := Nat.mul_lt_mul_of_pos_right hva (Nat.pow_pos (by decide))
  have h2 : BS ^ (m - 1) * 2 ^ s ≤ BS ^ (m - 1) * 2147483648 := Nat.mul_le_mul_left _ (Nat.pow_le_pow_right (by decide) hs)
  have h3 : BS ^ (n - 1) * 2147483648 * BS ^ (m - n) ≤ val v * BS ^ (m - n) := Nat.mul_le_mul_right _ hv
  have e : BS ^ (n - 1) * 2147483648 * BS ^ (m - n) = BS ^ (m - 1) * 2147483648 := by
    rw [Nat.mul_right_comm, ← Nat.pow_add]; congr 2; omega
  omega
theorem DivI.fin {D v Q b : List Nat} {N s va r : Nat} (h : DivI D v Q 0 N) (hN : N = va * 2 ^ s) (hv : val v = val b * 2 ^ s) (hr : r = val D / 2 ^ s) : va = val b * val Q + r ∧ r < val b := by
  have h1 := h.eq
  have h2 := h.lt
  simp only [Nat.pow_zero, Nat.one_mul, Nat.mul_one] at h1 h2
  have hp : 0 < (2 : Nat) ^ s := Nat.pow_pos (by decide)
  rw [hv, hN] at h1
  rw [hv] at h2
  have h3 : val b * 2 ^ s * val Q = val b * val Q * 2 ^ s := Nat.mul_right_comm _ _ _
  rw [h3] at h1
  have hle : val b * val Q ≤ va := by
    have : val b * val Q * 2 ^ s ≤ va * 2 ^ s := by omega
    exact Nat.le_of_mul_le_mul_right this hp
  have h4 : val D = (va - val b * val Q) * 2 ^ s := by rw [Nat.sub_mul]; omega
  rw [hr, h4, Nat.mul_div_cancel _ hp]
  refine ⟨by omega, ?_⟩
  rw [h4] at h2
  exact Nat.lt_of_mul_lt_mul_right h2
end Go.Gx
namespace Go.Gx
theorem canon_top {d : List Nat} {n : Nat} (hc : Canon isZ d) (hl : d.length = n) (hn : n ≠ 0) : d.getD (n - 1) 0 ≠ 0 := by
  rcases snoc_cases d with h | ⟨k, x, rfl⟩
  · subst h; simp at hl; omega
  · have h1 := canon_snoc.1 hc
    have h2 : x ≠ 0 := by intro e; subst e; simp [isZ] at h1
    simp at hl
    subst hl
    simpa [List.getD] using h2
theorem shl_len {a d : List Nat} {n s va : Nat} (ha : ∀ x ∈ a, x < BS) (hl : a.length = n) (hva : val a = va) (hd : val d = va * 2 ^ s) (hs : s ≤ 31) : val d < BS ^ (n + 1) := by
  have h1 := val_lt a ha
  rw [hl, hva] at h1
  have h2 : (2 : Nat) ^ s ≤ 2147483648 := Nat.pow_le_pow_right (by decide) hs
  have h3 : va * 2 ^ s ≤ va * 2147483648 := Nat.mul_le_mul_left _ h2
  have h4 : BS ^ (n + 1) = BS ^ n * 4294967296 := Nat.pow_succ _ _
  omega
theorem top_ge {d : List Nat} {n : Nat} (hl : d.length = n) (hn : 0 < n) : BS ^ (n - 1) * d.getD (n - 1) 0 ≤ val d := by
  have e1 := val_split d (k := n - 1) (by omega)
  have e2 := drop_val (a := d) (k := n) hn (by omega)
  rw [e2, Nat.mul_add] at e1
  omega
theorem part_getD {D : List Nat} {j m i : Nat} (h : i < m) : ((D.drop j).take m).getD i 0 = D.getD (j + i) 0 := by
  simp [List.getD, List.getElem?_take, h, List.getElem?_drop]
theorem revN_get {L : List Nat} {m r : Nat} : (List.replicate m 0 ++ (r :: L)).getD m 0 = r := by
  simp only [List.getD]
  rw [List.getElem?_append_right (by simp)]
  simp
theorem val_take_lt {d : List Nat} {k : Nat} (h : ∀ x ∈ d, x < BS) : val (d.take k) < BS ^ k := by
  have h1 := val_lt (d.take k) fun x hx => h x (List.mem_of_mem_take hx)
  exact Nat.lt_of_lt_of_le h1 (Nat.pow_le_pow_right (by decide) (by simp; omega))
end Go.Gx
namespace Go.Gx
theorem take_app {D Z : List Nat} {j : Nat} (h : j ≤ D.length) : (D.take j ++ Z).drop j = Z := by
  rw [List.drop_append_of_le_length (by simp; omega), List.drop_of_length_le (by simp; omega)]; rfl
theorem take_app2 {D Z : List Nat} {j : Nat} (h : j ≤ D.length) : (D.take j ++ Z).take j = D.take j := by
  rw [List.take_append_of_le_length (by simp; omega), List.take_take, Nat.min_self]
theorem rem_len {r b : List Nat} {nr nb : Nat} (cn : Canon isZ r) (hlt : val r < val b) (hb : ∀ d ∈ b, d < BS) (lb : b.length = nb) (lr : r.length = nr) : nr ≤ nb := by
  rw [← lr]
  have h := val_lt b hb
  rw [lb] at h
  exact lt_val_len cn (by omega)
end Go.Gx
namespace Go.Gx
theorem revN_set2 {L : List Nat} {m r x : Nat} : (List.replicate m 0 ++ (x :: L)).set m r = List.replicate m 0 ++ (r :: L) := by
  rw [List.set_append_right _ _ (by simp)]
  simp
end Go.Gx
namespace Go.Gx
theorem gcd_step {x y q r G : Nat} (h : Nat.gcd x y = G) (e : x = y * q + r) (hr : r < y) : Nat.gcd y r = G := by
  have h1 : x % y = r := by rw [e, Nat.mul_add_mod, Nat.mod_eq_of_lt hr]
  rw [← h, Nat.gcd_comm x y, Nat.gcd_rec y x, h1, Nat.gcd_comm]
theorem gcd_stop {x y G : Nat} (h : Nat.gcd x y = G) (hy : y = 0) : x = G := by subst hy; simpa using h
theorem gcd_mod {m n G : Nat} (h : Nat.gcd m n = G) : Nat.gcd n (m % n) = G := by rw [← h, Nat.gcd_comm m n, Nat.gcd_rec n m, Nat.gcd_comm]
theorem canon_pos {d : List Nat} {n : Nat} (hc : Canon isZ d) (hl : d.length = n) (hn : n ≠ 0) : 0 < val d := val_pos hc (by intro e; subst e; simp at hl; omega)
theorem quo_val {g g' : Bool} {a b q : List Nat} {r : Nat} (he : val a = val b * val q + r) (hr : r < val b) : zval (g != g') q = (zval g a).tdiv (zval g' b) := by
  have hq : val q = val a / val b := by
    rw [he, Nat.mul_add_div (by omega), Nat.div_eq_of_lt hr]; omega
  cases g <;> cases g' <;> simp [zval, hq, Int.ofNat_tdiv, Int.neg_tdiv, Int.tdiv_neg]
theorem rem_val {g g' : Bool} {a b d : List Nat} {q : Nat} (he : val a = val b * q + val d) (hr : val d < val b) : zval g d = (zval g a).tmod (zval g' b) := by
  have hq : val d = val a % val b := by rw [he, Nat.mul_add_mod, Nat.mod_eq_of_lt hr]
  have h0 : ((val a : Int)).tmod (val b : Int) = (val a : Int) % (val b : Int) := Int.tmod_eq_emod_of_nonneg (by omega)
  cases g <;> cases g' <;> simp [zval, hq, Int.neg_tmod, Int.tmod_neg, h0]
end Go.Gx

/-
  Fractions. Plain numbers; no program in sight.
-/
namespace Go.Gx
def rnum (z : Int) (v : Nat) : Int := if v = 0 then 0 else z
def rden (v : Nat) : Nat := if v = 0 then 1 else v
theorem rden_pos (v : Nat) : 0 < rden v := by unfold rden; split <;> omega
theorem rden_of {v : Nat} (h : 0 < v) : rden v = v := by unfold rden; rw [if_neg (by omega)]
theorem rnum_of {z : Int} {v : Nat} (h : 0 < v) : rnum z v = z := by unfold rnum; rw [if_neg (by omega)]
theorem tdiv_dvd {z G q : Int} (h : G ∣ z) (hq : q = z.tdiv G) : z = G * q := by rw [hq]; exact (Int.mul_tdiv_cancel' h).symm
theorem reduce_math {zn zd G n d : Int} {a b : Nat} (ha : a = zn.natAbs) (hb : b = zd.natAbs) (hG : G = (Nat.gcd a b : Int)) (hd : 0 < zd) (en : n = zn.tdiv G) (ed : d = zd.tdiv G) :
    n * zd = zn * d ∧ 0 < d ∧ Nat.gcd n.natAbs d.natAbs = 1 := by
  subst ha hb
  have hgp : 0 < Nat.gcd zn.natAbs zd.natAbs := Nat.gcd_pos_of_pos_right _ (by omega)
  have d1 : G ∣ zn := by rw [hG]; exact Int.ofNat_dvd_left.2 (Nat.gcd_dvd_left _ _)
  have d2 : G ∣ zd := by rw [hG]; exact Int.ofNat_dvd_left.2 (Nat.gcd_dvd_right _ _)
  have h1 := tdiv_dvd d1 en
  have h2 := tdiv_dvd d2 ed
  have hG0 : 0 < G := by rw [hG]; omega
  have hd0 : 0 < d := by
    rcases Int.lt_trichotomy d 0 with h | h | h
    · have := Int.mul_neg_of_pos_of_neg hG0 h; omega
    · rw [h] at h2; omega
    · exact h
  refine ⟨?_, hd0, ?_⟩
  · rw [h1, h2, ← Int.mul_assoc, Int.mul_comm n G]
  · have e1 : zn.natAbs = Nat.gcd zn.natAbs zd.natAbs * n.natAbs := by
      have := congrArg Int.natAbs h1
      rw [Int.natAbs_mul, hG] at this
      simpa using this
    have e2 : zd.natAbs = Nat.gcd zn.natAbs zd.natAbs * d.natAbs := by
      have := congrArg Int.natAbs h2
      rw [Int.natAbs_mul, hG] at this
      simpa using this
    have e3 : Nat.gcd (Nat.gcd zn.natAbs zd.natAbs * n.natAbs) (Nat.gcd zn.natAbs zd.natAbs * d.natAbs) = Nat.gcd zn.natAbs zd.natAbs * Nat.gcd n.natAbs d.natAbs := Nat.gcd_mul_left _ _ _
    rw [← e1, ← e2] at e3
    exact Nat.eq_of_mul_eq_mul_left hgp (by rw [← e3, Nat.mul_one])
theorem make_math {zn zd zn' zd' n : Int} {v : Nat} (h : n * zd' = zn' * (v : Int)) (hs : (zn' = zn ∧ zd' = zd) ∨ (zn' = -zn ∧ zd' = -zd)) : n * zd = zn * (v : Int) := by
  rcases hs with ⟨h1, h2⟩ | ⟨h1, h2⟩
  · rw [← h1, ← h2]; exact h
  · rw [h1, h2, Int.mul_neg, Int.neg_mul] at h; omega
end Go.Gx

/-
  Elements of arrays that are values. No program in sight.
-/
namespace Go.Gx
open Go.RowKit
variable {dfs : List Deferred}
section
variable {P : Program} {n : Nat} {e : Nat → Value} {w : World} {ty : TypeId} {pos : String} {af : Array Edge} {gd : Option (Nat × Bool)}
theorem evIdxA {d : Option Nat} {t el : TypeId} {len : Nat} {cs : Array Value} {v : Value} {x y : Operand} {k : IntKind} {z : Int} (i : Nat) (ht : P.underlying t = some (.array len el)) (h1 : oneB P el = true) (hs : ∀ w, (sizeOf el).run P w = .ok 1 w)
    (hx : ev n e x = .agg cs) (hy : ev n e y = .int k z) (hz : z = (i : Int)) (hi : i < len) (hc : cs[i]? = some v) : Ev P n e ⟨d, .index t x y, ty, pos, af, gd⟩ w v := by
  subst hz
  have hn : (0 : Int) ≤ (i : Int) ∧ (i : Int) < (len : Int) := by omega
  simp [Ev, execOp, hx, hy, Instr.index, asIntOf, run_underlying ht, hn, hs, part, run_isAgg_one h1, hc]
  intro h; omega
end
end Go.Gx

/-
  Slices of integers: what they hold. No program in sight.
-/
namespace Go.Gx
open Go.RowKit
variable {dfs : List Deferred}
structure RI where
  neg : Bool
  A : Option Addr
  n : Nat
  c : Nat
  d : List Nat
def RI.cells (r : RI) : List Value := [.bool r.neg, .slice r.A r.n r.c]
def cellsI (l : List RI) : List Value := l.flatMap RI.cells
abbrev co (f : List Int) (i : Nat) : Int := f.getD i 0
def isZI (x : Int) : Bool := decide (x = 0)
abbrev trimZ (l : List Int) : List Int := trimB isZI l
def AllN (w : World) (S : Nat → Prop) (M : Nat) (l : List RI) : Prop := ∀ r ∈ l, NatR w S r.A r.n r.c r.d ∧ r.n ≤ M
section alln
variable {w w' : World} {S S' G : Nat → Prop} {M M' : Nat} {l l' : List RI}
end alln
def PolyR (w : World) (S : Nat → Prop) (A : Option Addr) (n c : Nat) (l : List RI) (M : Nat) : Prop := Rd w S A n c 2 (cellsI l) ∧ AllN w S M l
section polyr
variable {w w' : World} {S S' G : Nat → Prop} {A : Option Addr} {n c M M' : Nat} {l : List RI}
end polyr
section
variable {P : Program} {n : Nat} {e : Nat → Value} {w : World} {K : Act → World → Prop} {Q : Exit → Act → World → Prop} {ty : TypeId} {pos : String} {af : Array Edge} {gd : Option (Nat × Bool)}
end
theorem zget_ge {l : List Int} {n : Nat} (h : l.length ≤ n) : ∀ j, n ≤ j → l.getD j 0 = 0 := by
  intro j hj; simp [List.getD, List.getElem?_eq_none (by omega : l.length ≤ j)]
section intsr
variable {w w' : World} {S S' G : Nat → Prop} {A : Option Addr} {n c : Nat} {xs : List Int}
end intsr
end Go.Gx

/-
  Polynomials as lists of integers. Plain numbers; no program in sight.
-/
namespace Go.Gx
def rsum (F : Nat → Int) : Nat → Int
  | 0 => 0
  | n + 1 => rsum F n + F n
theorem rsum_congr {F G : Nat → Int} : ∀ {n : Nat}, (∀ i, i < n → F i = G i) → rsum F n = rsum G n
  | 0, _ => rfl
  | n + 1, h => by rw [rsum, rsum, rsum_congr fun i hi => h i (by omega), h n (by omega)]
theorem rsum_zero {F : Nat → Int} {n : Nat} (h : ∀ i, i < n → F i = 0) : rsum F n = 0 := by
  induction n with
  | zero => rfl
  | succ n ih => rw [rsum, ih fun i hi => h i (by omega), h n (by omega)]; rfl
theorem rsum_head (F : Nat → Int) (n : Nat) : rsum F (n + 1) = F 0 + rsum (fun i => F (i + 1)) n := by
  induction n with
  | zero => simp [rsum]
  | succ n ih => rw [rsum, ih, rsum]; omega
theorem co_ge {f : List Int} {i : Nat} (h : f.length ≤ i) : co f i = 0 := zget_ge (Nat.le_refl _) i h
def convF (f g : Nat → Int) (k : Nat) : Int := rsum (fun i => f i * g (k - i)) (k + 1)
abbrev conv (f g : List Int) (k : Nat) : Int := convF (co f) (co g) k
def padd (f g : List Int) : List Int := (List.range (max f.length g.length)).map fun i => co f i + co g i
def psub (f g : List Int) : List Int := (List.range (max f.length g.length)).map fun i => co f i - co g i
def pmul (f g : List Int) : List Int := if f.length = 0 ∨ g.length = 0 then [] else (List.range (f.length + g.length - 1)).map fun k => conv f g k
theorem co_map_range {F : Nat → Int} {n i : Nat} : co ((List.range n).map F) i = if i < n then F i else 0 := by
  simp only [co, List.getD, List.getElem?_map, List.getElem?_range']
  by_cases h : i < n
  · rw [List.getElem?_range h]; simp [h]
  · rw [List.getElem?_eq_none (by simp; omega)]; simp [h]
theorem co_padd (f g : List Int) (i : Nat) : co (padd f g) i = co f i + co g i := by
  rw [padd, co_map_range]
  split
  · rfl
  · rw [co_ge (f := f) (by omega), co_ge (f := g) (by omega)]; rfl
theorem co_psub (f g : List Int) (i : Nat) : co (psub f g) i = co f i - co g i := by
  rw [psub, co_map_range]
  split
  · rfl
  · rw [co_ge (f := f) (by omega), co_ge (f := g) (by omega)]; rfl
theorem conv_big {f g : List Int} {k : Nat} (h : f.length + g.length ≤ k + 1) (h0 : f.length ≠ 0 ∨ g.length ≠ 0 ∨ True) : conv f g k = 0 := by
  refine rsum_zero fun i hi => ?_
  rcases Nat.lt_or_ge i f.length with h1 | h1
  · rw [co_ge (f := g) (i := k - i) (by omega), Int.mul_zero]
  · rw [co_ge h1, Int.zero_mul]
theorem co_pmul (f g : List Int) (k : Nat) : co (pmul f g) k = conv f g k := by
  unfold pmul
  split
  · rename_i h
    rcases h with h | h
    · have : f = [] := List.eq_nil_of_length_eq_zero h
      subst this
      refine (rsum_zero fun i _ => ?_).symm
      simp
    · have : g = [] := List.eq_nil_of_length_eq_zero h
      subst this
      refine (rsum_zero fun i _ => ?_).symm
      simp
  · rename_i h
    rw [co_map_range]
    split
    · rfl
    · exact (conv_big (by omega) (.inr (.inr trivial))).symm
end Go.Gx
namespace Go.Gx
end Go.Gx
namespace Go.Gx
end Go.Gx
namespace Go.Gx
end Go.Gx
namespace Go.Gx
theorem ICan.zero : ICan false [] := ⟨canon_nil _, fun h => by cases h⟩
end Go.Gx

/-
  Polynomials as lists of coefficients: multiples, shifts by powers, derivatives, powers, composition. Plain numbers; no program in sight.
-/
namespace Go.Gx
def scaleP (f : List Int) (c : Int) : List Int := f.map (· * c)
theorem co_scaleP (f : List Int) (c : Int) (i : Nat) : co (scaleP f c) i = co f i * c := by
  simp only [co, scaleP, List.getD, List.getElem?_map]
  cases f[i]? <;> simp
def ppow (g : List Int) : Nat → List Int
  | 0 => [1]
  | k + 1 => pmul (ppow g k) g
end Go.Gx
namespace Go.Gx
def coI (f : List Int) (i : Int) : Int := if i < 0 then 0 else co f i.toNat
end Go.Gx
namespace Go.Gx
end Go.Gx
namespace Go.Gx
end Go.Gx
namespace Go.Gx
end Go.Gx
namespace Go.Gx
end Go.Gx
namespace Go.Gx
end Go.Gx
namespace Go.Gx
end Go.Gx
namespace Go.Gx
end Go.Gx
namespace Go.Gx
end Go.Gx
namespace Go.Gx
def hgt : List Int → Nat
  | [] => 0
  | a :: l => max a.natAbs (hgt l)
end Go.Gx
namespace Go.Gx
-- natAbs_val lies in IntMath
end Go.Gx

/-
  Values of polynomials at fractions. Plain numbers; no program in sight.
-/
namespace Go.Gx
def evQ : List Int → Rat → Rat
  | [], _ => 0
  | a :: l, q => (a : Rat) + q * evQ l q
def rv (z : Int) (v : Nat) : Rat := (rnum z v : Rat) / ((rden v : Int) : Rat)
theorem cast_pow (d : Int) (k : Nat) : ((d ^ k : Int) : Rat) = (d : Rat) ^ k := by
  induction k with
  | zero => simp
  | succ k ih => rw [Int.pow_succ, Rat.intCast_mul, ih, Rat.pow_succ]
theorem cast_ne {d : Int} (h : d ≠ 0) : (d : Rat) ≠ 0 := fun e => h (Rat.intCast_inj.1 (by rw [e]; rfl))
theorem evQ_head (f : List Int) (q : Rat) : evQ f q = ((co f 0 : Int) : Rat) + q * evQ f.tail q := by
  cases f with
  | nil => simp [evQ, co]; grind
  | cons a l => simp [evQ, co]
theorem co_tail (f : List Int) (i : Nat) : co f.tail i = co f (i + 1) := by cases f <;> simp [co]
theorem evQ_ext (q : Rat) : ∀ (n : Nat) (f g : List Int), f.length + g.length ≤ n → (∀ i, co f i = co g i) → evQ f q = evQ g q
  | 0, f, g, hn, _ => by
    have h1 : f = [] := List.eq_nil_of_length_eq_zero (by omega)
    have h2 : g = [] := List.eq_nil_of_length_eq_zero (by omega)
    rw [h1, h2]
  | n + 1, f, g, hn, h => by
    rcases Nat.eq_zero_or_pos (f.length + g.length) with h0 | h0
    · have h1 : f = [] := List.eq_nil_of_length_eq_zero (by omega)
      have h2 : g = [] := List.eq_nil_of_length_eq_zero (by omega)
      rw [h1, h2]
    · rw [evQ_head f, evQ_head g, h 0, evQ_ext q n f.tail g.tail (by simp; omega) (fun i => by rw [co_tail, co_tail]; exact h (i + 1))]
theorem evQ_congr {f g : List Int} (q : Rat) (h : ∀ i, co f i = co g i) : evQ f q = evQ g q := evQ_ext q _ f g (Nat.le_refl _) h
theorem evQ_padd (q : Rat) : ∀ f g : List Int, evQ (padd f g) q = evQ f q + evQ g q
  | [], g => by rw [evQ_congr q (g := g) (fun i => by rw [co_padd]; simp [co])]; simp [evQ]; grind
  | a :: f, [] => by rw [evQ_congr q (g := a :: f) (fun i => by rw [co_padd]; simp [co])]; simp [evQ]; grind
  | a :: f, b :: g => by
    rw [evQ_congr q (g := (a + b) :: padd f g) (fun i => by
      rw [co_padd]
      cases i with
      | zero => simp [co]
      | succ i =>
        have := co_padd f g i
        simp only [co, List.getD_cons_succ] at this ⊢
        omega)]
    simp only [evQ, evQ_padd q f g, Rat.intCast_add]
    grind
theorem evQ_scale (q : Rat) (c : Int) : ∀ f : List Int, evQ (scaleP f c) q = (c : Rat) * evQ f q
  | [] => by simp [scaleP, evQ]
  | a :: f => by
    have ih := evQ_scale q c f
    simp only [scaleP, List.map_cons, evQ, Rat.intCast_mul] at ih ⊢
    rw [ih]
    grind
theorem co_pmul_cons (a : Int) (f g : List Int) (k : Nat) : co (pmul (a :: f) g) k = co (padd (scaleP g a) (0 :: pmul f g)) k := by
  rw [co_pmul, co_padd, co_scaleP]
  unfold conv convF
  rw [rsum_head]
  cases k with
  | zero => simp [rsum, co, Int.mul_comm]
  | succ k =>
    have e1 : co (0 :: pmul f g) (k + 1) = conv f g k := by rw [← co_pmul]; simp [co]
    rw [e1]
    unfold conv convF
    have e2 : rsum (fun i => co (a :: f) (i + 1) * co g (k + 1 - (i + 1))) (k + 1) = rsum (fun i => co f i * co g (k - i)) (k + 1) := rsum_congr fun i _ => by simp [co]
    rw [e2]
    simp [co, Int.mul_comm]
theorem evQ_pmul (q : Rat) : ∀ f g : List Int, evQ (pmul f g) q = evQ f q * evQ g q
  | [], g => by simp [pmul, evQ]
  | a :: f, g => by
    rw [evQ_congr q (co_pmul_cons a f g), evQ_padd, evQ_scale]
    simp only [evQ, evQ_pmul q f g]
    simp
    grind
end Go.Gx

/-
  Contents and primitive parts of polynomials. Plain numbers; no program in sight.
-/
namespace Go.Gx
def ldP (F : List Int) : Int := coI (trimZ F) (((trimZ F).length : Int) - 1)
end Go.Gx

/-
  Division of polynomials, step by step. Plain numbers; no program in sight.
-/
namespace Go.Gx
def cs (G : List Int) (low i : Nat) : Int := if low ≤ i then co G (i - low) else 0
theorem evQ_ppow (g : List Int) (x : Rat) : ∀ k, evQ (ppow g k) x = evQ g x ^ k
  | 0 => by
    show evQ [1] x = _
    simp only [evQ]
    have e1 : ((1 : Int) : Rat) = 1 := rfl
    rw [e1, Rat.pow_zero]; grind
  | k + 1 => by
    show evQ (pmul (ppow g k) g) x = _
    rw [evQ_pmul, evQ_ppow g x k, Rat.pow_succ]
end Go.Gx

/-
  Determinants by expansion along columns. Plain numbers; no program in sight.
-/
namespace Go.Gx
abbrev Row := Nat → Int
def lap (D : List Row → Int) (c : Nat) : List Row → List Row → Int
  | _, [] => 0
  | pre, r :: rs => r c * D (pre ++ rs) - lap D c (pre ++ [r]) rs
structure Multi (D : List Row → Int) : Prop where
  add : ∀ (A : List Row) (u v : Row) (B : List Row), D (A ++ (fun c => u c + v c) :: B) = D (A ++ u :: B) + D (A ++ v :: B)
  smul : ∀ (A : List Row) (k : Int) (u : Row) (B : List Row), D (A ++ (fun c => k * u c) :: B) = k * D (A ++ u :: B)
  alt : ∀ (A : List Row) (u : Row) (B : List Row), D (A ++ u :: u :: B) = 0
section
variable {D : List Row → Int} (h : Multi D) (c : Nat)
include h
end
section
variable {D : List Row → Int} (h : Multi D)
include h
end
end Go.Gx

/-
  The subresultant sequence: its divisions are exact. Plain numbers; no program in sight.
-/
namespace Go.Gx
section
variable {a0 b0 a b q R r : List Int} {n0 m0 n m d nr : Nat} {l s D l' s' : Int}
end
end Go.Gx

/-
  Signs of polynomials beyond their roots. Plain numbers; no program in sight.
-/
namespace Go.Gx
end Go.Gx
namespace Go.Gx
end Go.Gx

/-
  Inverses of shifts and reversals; sums of fractions. Plain numbers; no program in sight.
-/
namespace Go.Gx
theorem evQ_psub (q : Rat) (f g : List Int) : evQ (psub f g) q = evQ f q - evQ g q := by
  rw [evQ_congr q (g := padd f (scaleP g (-1))) (fun i => by rw [co_psub, co_padd, co_scaleP]; omega), evQ_padd, evQ_scale]
  show evQ f q + ((-1 : Int) : Rat) * evQ g q = _
  have : ((-1 : Int) : Rat) = -1 := rfl
  rw [this]; grind
end Go.Gx
namespace Go.Gx
end Go.Gx

/-
  Polynomials with rational coefficients: degrees, divisibility, division with rest, common divisors. Plain numbers; no program in sight.
-/
namespace Go.Gx
structure QP where
  v : Rat → Rat
  p : ∃ (c : Int) (l : List Int), c ≠ 0 ∧ ∀ x, (c : Rat) * v x = evQ l x
theorem one_cast : ((1 : Int) : Rat) = 1 := rfl
def P (l : List Int) : QP := ⟨evQ l, 1, l, by decide, fun x => by rw [one_cast]; grind⟩
instance : Add QP := ⟨fun f g => ⟨fun x => f.v x + g.v x, by
  obtain ⟨c, l, hc, h⟩ := f.p
  obtain ⟨d, m, hd, k⟩ := g.p
  exact ⟨c * d, padd (scaleP l d) (scaleP m c), Int.mul_ne_zero hc hd, fun x => by rw [evQ_padd, evQ_scale, evQ_scale, ← h, ← k, Rat.intCast_mul]; grind⟩⟩⟩
instance : Neg QP := ⟨fun f => ⟨fun x => - f.v x, by
  obtain ⟨c, l, hc, h⟩ := f.p
  exact ⟨-c, l, by omega, fun x => by rw [← h, Rat.intCast_neg]; grind⟩⟩⟩
instance : Sub QP := ⟨fun f g => ⟨fun x => f.v x - g.v x, by
  obtain ⟨c, l, hc, h⟩ := f.p
  obtain ⟨d, m, hd, k⟩ := g.p
  exact ⟨c * d, psub (scaleP l d) (scaleP m c), Int.mul_ne_zero hc hd, fun x => by rw [evQ_psub, evQ_scale, evQ_scale, ← h, ← k, Rat.intCast_mul]; grind⟩⟩⟩
instance : Mul QP := ⟨fun f g => ⟨fun x => f.v x * g.v x, by
  obtain ⟨c, l, hc, h⟩ := f.p
  obtain ⟨d, m, hd, k⟩ := g.p
  exact ⟨c * d, pmul l m, Int.mul_ne_zero hc hd, fun x => by rw [evQ_pmul, ← h, ← k, Rat.intCast_mul]; grind⟩⟩⟩
theorem den_ne (r : Rat) : ((r.den : Int) : Rat) ≠ 0 := cast_ne (by have := r.den_nz; omega)
theorem den_mul (r : Rat) : ((r.den : Int) : Rat) * r = (r.num : Rat) := by
  have h : (r.num : Rat) / ((r.den : Int) : Rat) = r := by
    rw [← Rat.divInt_eq_div]; exact Rat.num_divInt_den r
  have := den_ne r
  grind
def K (r : Rat) : QP := ⟨fun _ => r, r.den, [r.num], by have := r.den_nz; omega, fun x => by rw [den_mul]; simp only [evQ]; grind⟩
instance : OfNat QP 0 := ⟨K 0⟩
instance : OfNat QP 1 := ⟨K 1⟩
theorem rat_mul_pow (a b : Rat) : ∀ n : Nat, (a * b) ^ n = a ^ n * b ^ n
  | 0 => by simp only [Rat.pow_zero]; grind
  | n + 1 => by simp only [Rat.pow_succ, rat_mul_pow a b n]; grind
instance : HPow QP Nat QP := ⟨fun f n => ⟨fun x => f.v x ^ n, by
  obtain ⟨c, l, hc, h⟩ := f.p
  refine ⟨c ^ n, ppow l n, Int.pow_ne_zero hc, fun x => ?_⟩
  rw [evQ_ppow, ← h, rat_mul_pow, cast_pow]⟩⟩
noncomputable def dg (f : QP) : Nat := (trimZ (Classical.choose (Classical.choose_spec f.p))).length
instance : Dvd QP := ⟨fun g f => ∃ q, f = q * g⟩
def Mul_ (f g : QP) (k : Nat) : Prop := ∃ r, f = r * g ^ k ∧ ¬ g ∣ r
end Go.Gx

/-
  Primitive polynomials: Gauss' lemma, exact division. Plain numbers; no program in sight.
-/
namespace Go.Gx
end Go.Gx

/-
  Divisibility and multiplicities, as the program finds them. Plain numbers; no program in sight.
-/
namespace Go.Gx
end Go.Gx

/-
  Sizes of coefficients; the law on multiplicities. No program in sight.
-/
namespace Go.Gx
end Go.Gx

/-
  Bounds on subresultants and on divisors of polynomials. Plain numbers; no program in sight.
-/
namespace Go.Gx
end Go.Gx

/-
  Greatest common divisors, as the subresultant sequence finds them. Plain numbers; no program in sight.
-/
namespace Go.Gx
section
variable {a0 b0 a b q R r : List Int} {l s D : Int}
end
end Go.Gx

/-
  Irreducible polynomials over the rationals, their multiplicities, derivatives. Plain numbers; no program in sight.
-/
namespace Go.Gx
noncomputable def va (π f : QP) : Nat := @dite _ (∃ k, Mul_ f π k) (Classical.propDecidable _) (fun h => Classical.choose h) (fun _ => 0)
end Go.Gx

/-
  Sizes of numbers in memory out of their values; greatest common divisors as the program returns them. No program in sight.
-/
namespace Go.Gx
end Go.Gx
namespace Go.Gx
end Go.Gx

/-
  Square-free parts. Plain numbers; no program in sight.
-/
namespace Go.Gx
end Go.Gx

/-
  Lengths of exact quotients. Plain numbers; no program in sight.
-/
namespace Go.Gx
end Go.Gx

/-
  The square-free decomposition. Plain numbers; no program in sight.
-/
namespace Go.Gx
section
variable {p rest other U g r1 o1 : QP} {k : Nat}
end
end Go.Gx

/-
  What the references hold: lists of small numbers, integers as a sign and bits, lists of these; slices that grow by append. No program in sight.
-/
namespace Go.Gx
open Go.RowKit
variable {dfs : List Deferred}
section
variable {b : Nat} {w w' : World} {S S' G : Nat → Prop} {A : Option Addr} {n c : Nat} {ds : List Nat}
end
def Own (w : World) (B : Nat) (e : TypeId) (k : Nat) (A : Option Addr) (n c : Nat) (cs : List Value) : Prop := w.ownsRow B e k (.slice A n c) n cs
def notIn (A : Option Addr) (b : Nat) : Prop := ∀ a, A = some a → a.block ≠ b
section
variable {w w' : World} {B : Nat} {e : TypeId} {k : Nat} {A : Option Addr} {n c : Nat} {cs : List Value}
theorem Own.nil : Own w B e k none 0 0 [] := World.ownsRow_nil w B e k
theorem Own.lt (h : Own w B e k A n c cs) : ∀ a, A = some a → B ≤ a.block ∧ a.block < w.heap.size := fun a ha => by
  subst ha
  exact World.ownsRow.lt h a.block rfl
theorem Own.ext (h : Own w B e k A n c cs) (f : Ext w w') : Own w' B e k A n c cs :=
  World.ownsRow.kept (row := none) h ⟨f.os, f.tape, f.output, f.size, fun i hi _ => f.block i hi fun g => g⟩ (by cases (Value.slice A n c).ownBlock <;> simp)
theorem Own.rd (h : Own w B e k A n c cs) : Rd w (fun b => B ≤ b) A n c k cs := by
  refine ⟨h.1, ?_⟩
  rcases h.2 with ⟨hv, rfl⟩ | ⟨g, cap, cur, hv, hb, hg, hnc, hm, _, _⟩
  · injection hv with h1 h2 h3
    subst h3
    exact ⟨Nat.le_refl _, Nat.zero_le _, fun h0 => absurd h0 (by omega)⟩
  · injection hv with h1 h2 h3
    subst h1 h3
    refine ⟨hnc, by simp only [maxLen, CapMax] at hm ⊢; omega, fun _ => ⟨g, 0, rfl, hb, (Array.getElem?_eq_some_iff.1 hg).1, fun j v hj => ?_⟩⟩
    have := World.ownsRow.cells h (g := g) rfl j v hj
    rw [addr_add] at this
    exact this
theorem Own.cap (h : Own w B e k A n c cs) : n ≤ c := h.rd.2.1
theorem Own.max (h : Own w B e k A n c cs) : c ≤ 9223372036854775807 := h.rd.2.2.1
theorem Own.low {B' : Nat} (h : Own w B e k A n c cs) (hB : B' ≤ B) : Own w B' e k A n c cs := by
  refine ⟨h.1, ?_⟩
  rcases h.2 with h1 | ⟨g, cap, cur, hv, hb, rest⟩
  · exact .inl h1
  · exact .inr ⟨g, cap, cur, hv, Nat.le_trans hB hb, rest⟩
end
theorem append_place {P : Program} {w w' : World} {t ty el : TypeId} {i : TypeInfo} {z : Value} {k bytes B m c g : Nat} {A : Option Addr} {a : Addr} {c' : Nat} {cs vs : List Value} (ht : P.underlying t = some (.slice el)) (hi : P.info? el = some i) (hz : i.zero = some z) (hsize : i.size = k)
    (hby : i.bytes = bytes) (hO : Own w B el k A m c cs) (hl : vs.length = 1 * k) (hnews : ∀ j u, vs[j]? = some u → w.cell? ((⟨g, 0, none⟩ : Addr).add j) = some u) (h1 : ∀ u ∈ vs, u.oneCell' = true) (hm : (m + 1) * bytes ≤ 140737488355328) (hm2 : m + 1 ≤ 9223372036854775807)
    (hr : (Builtin.append_ #[t, t] ty #[.slice A m c, .slice (some ⟨g, 0, none⟩) 1 1]).run P w = .ok (.slice (some a) (m + 1) c') w') : A = some a ∨ w.heap.size ≤ a.block := by
  subst hsize
  subst hby
  rcases hO.2 with ⟨hv, rfl⟩ | ⟨g0, cap, cur, hv, hbg, hg, hnc, hcm, hcs, htake⟩
  · injection hv with e1 e2 e3
    subst e1 e3
    have h := run_append_nil (P := P) w t ty el i z ht hi hz ⟨g, 0, none⟩ 1 1 vs hl hnews (by omega) (by omega) (by omega)
    rw [h] at hr
    injection hr with e4
    injection e4 with e5
    injection e5 with e6
    right; rw [← e6]; exact Nat.le_refl _
  · injection hv with e1 e2 e3
    subst e1 e3
    by_cases hroom : m + 1 ≤ c
    · have hfit : m * i.size + vs.length ≤ cur.size := by rw [hl, hcs, ← Nat.add_mul]; exact Nat.mul_le_mul_right _ hroom
      have h := run_append_room (P := P) w t ty el i ht hi g0 m c cur hg ⟨g, 0, none⟩ 1 1 vs hl hnews h1 hroom hfit
      rw [h] at hr
      injection hr with e4
      injection e4 with e5
      exact .inl e5
    · have holds : ∀ j u, cs[j]? = some u → w.cell? ((⟨g0, 0, none⟩ : Addr).add j) = some u := World.ownsRow.cells hO (g := g0) rfl
      have h := run_append_grow (P := P) w t ty el i z ht hi hz ⟨g0, 0, none⟩ m c cs hO.1 holds ⟨g, 0, none⟩ 1 1 vs hl hnews (by omega) (by omega) (growslice_fits (by omega) hm)
      rw [h] at hr
      injection hr with e4
      injection e4 with e5
      injection e5 with e6
      right; rw [← e6]; exact Nat.le_refl _
section
variable {P : Program} {n : Nat} {e : Nat → Value} {w : World} {K : Act → World → Prop} {Q : Exit → Act → World → Prop} {ty : TypeId} {pos : String} {af : Array Edge} {gd : Option (Nat × Bool)}
theorem oApp {d : Nat} {s x : Operand} {t el bt : TypeId} {z : Value} {k bytes B m c g : Nat} {A : Option Addr} {cs vs : List Value} (ht : P.underlying t = some (.slice el))
    (hi : (P.info? el).map (fun i => (i.zero, i.size, i.bytes)) = some (some z, k, bytes)) (hz : z.cells.size = k) (hk : 0 < k) (hs : ev n e s = .slice A m c) (hx : ev n e x = .slice (some ⟨g, 0, none⟩) 1 1) (hO : Own w B el k A m c cs) (hb : Blk w g bt vs) (hl : vs.length = k)
    (h1 : vs.all Value.oneCell' = true) (hm : (m + 1) * bytes ≤ 140737488355328) (hm2 : m + 1 ≤ 9223372036854775807) (hB : B ≤ w.heap.size)
    (kk : ∀ A' c' w', Own w' B el k A' (m + 1) c' (cs ++ vs) → Frm (fun b => B ≤ b) w w' → (∀ G : Nat → Prop, (∀ b, G b → notIn A b) → Frm (fun b => ¬ G b) w w') → (∀ a, A' = some a → A = some a ∨ w.heap.size ≤ a.block) → K (mkA dfs n (upd e d (.slice A' (m + 1) c'))) w') :
    OpW P ⟨some d, .call { callee := .builtin .append, args := #[s, x], argTypes := #[t, t] }, ty, pos, af, gd⟩ (mkA dfs n e) w K Q := by
  obtain ⟨i, hi', hz', hsz, hby⟩ := info_parts hi
  unfold OpW
  obtain ⟨v', w', hr, h2, h3, h4⟩ := run_append_own (P := P) w B t ty el i z k bytes ht hi' hz' hsz hby hz hk (.slice A m c) m cs hO ⟨g, 0, none⟩ 1 1 vs (by simpa using hl) (fun j u hj => by rw [addr_add, Nat.zero_add]; exact hb.at_ hj) (List.all_eq_true.1 h1) (by simp only [maxLen]; omega) hm hB
  have hkeep : ∀ a, (Value.slice A m c).ownBlock = some a → B ≤ a := fun a ha => (World.ownsRow.lt hO a ha).1
  obtain ⟨A', c', rfl⟩ : ∃ A' c', v' = .slice A' (m + 1) c' := by
    rcases h2.2 with ⟨_, h0⟩ | ⟨g', cap, cur, hv, _⟩
    · omega
    · exact ⟨_, _, hv⟩
  have hF : Frm (fun b => (Value.slice A m c).ownBlock = some b) w w' := ⟨h3.os, h3.tape, h3.output, h3.size, append_drawn ht hi' hz' hsz hby hO (by simpa using hl) (fun j u hj => by rw [addr_add, Nat.zero_add]; exact hb.at_ hj) (List.all_eq_true.1 h1) hm2 hm hr, fun i hi hg => h3.block i hi fun e => hg e.symm⟩
  have hnew : ∀ a, A' = some a → A = some a ∨ w.heap.size ≤ a.block := by
    intro a ha
    subst ha
    exact append_place ht hi' hz' hsz hby hO (by simpa using hl) (fun j u hj => by rw [addr_add, Nat.zero_add]; exact hb.at_ hj) (List.all_eq_true.1 h1) hm hm2 hr
  unfold Oper.wp execOp
  rw [eval_mkA]
  simp only [resolve, invoke, builtin, Sem.run_bind, Sem.run_pure, Result.andThen_ok, List.map_toArray, List.map_cons, List.map_nil, hs, hx, hr, Oper.upon, put_mkA]
  exact kk A' c' w' h2 (hF.mono fun b _ hb => hkeep b hb) (fun G hG => hF.mono fun b _ hb hGb => by
    cases A with
    | none => simp [Value.ownBlock] at hb
    | some a => simp [Value.ownBlock] at hb; exact hG b hGb a rfl hb) hnew
end
end Go.Gx
namespace Go.Gx
variable {dfs : List Deferred}
end Go.Gx
namespace Go.Gx
variable {dfs : List Deferred}
section
variable {P : Program} {n : Nat} {e : Nat → Value} {w : World} {ty : TypeId} {pos : String} {af : Array Edge} {gd : Option (Nat × Bool)}
end
end Go.Gx

/-
  Lists of factors in memory; what a decomposition says. No program in sight.
-/
namespace Go.Gx
open Go.RowKit
structure FE where
  A : Option Addr
  n : Nat
  c : Nat
  l : List RI
  k : Int
section
variable {w w' : World} {S S' G : Nat → Prop} {A : Option Addr} {n c M : Nat} {l : List FE}
end
section
variable {w w' : World} {B : Nat} {el : TypeId} {A : Option Addr} {n c M : Nat} {l : List FE}
end
section
variable {dfs : List Deferred} {P : Program} {n : Nat} {e : Nat → Value} {w : World} {K : Act → World → Prop} {Q : Exit → Act → World → Prop} {ty : TypeId} {pos : String} {af : Array Edge} {gd : Option (Nat × Bool)}
end
end Go.Gx
namespace Go.Gx
end Go.Gx

/-
  Lists of polynomials in memory. No program in sight.
-/
namespace Go.Gx
open Go.RowKit
structure PE where
  A : Option Addr
  n : Nat
  c : Nat
  l : List RI
section
variable {w w' : World} {S S' G : Nat → Prop} {A : Option Addr} {n c M M' : Nat} {l : List PE}
end
section
variable {P : Program} {n : Nat} {e : Nat → Value} {w : World} {ty : TypeId} {pos : String} {af : Array Edge} {gd : Option (Nat × Bool)}
theorem evArr {d : Option Nat} {t el : TypeId} {x ix : Operand} {b off len size : Nat} {k : IntKind} {z : Int} (i : Nat) (ht : P.underlying t = some (.array len el)) (hs : ∀ w, (sizeOf el).run P w = .ok size w)
    (hx : ev n e x = .pointer (some ⟨b, off, none⟩)) (hi : ev n e ix = .int k z) (p : Nat) (hz : z = (i : Int) := by omega) (hlt : i < len := by omega) (hp : off + i * size = p := by omega) :
    Ev P n e ⟨d, .indexAddr t x ix, ty, pos, af, gd⟩ w (.pointer (some ⟨b, p, none⟩)) := by
  subst hz hp
  have h1 : (0 : Int) ≤ (i : Int) ∧ (i : Int) < (len : Int) := ⟨by omega, by omega⟩
  simp [Ev, execOp, hx, hi, Instr.indexAt, Instr.sureAddr, asIntOf, run_underlying ht, hs, hlt, addr_add]
end
end Go.Gx

/-
  Integers of the reference: a sign and bits; lists of these. No program in sight.
-/
namespace Go.Gx
open Go.RowKit
section
variable {w w' : World} {S S' G : Nat → Prop} {s : Int} {A : Option Addr} {n c : Nat} {z : Int}
end
end Go.Gx

/-
  Lists of integers of the reference; such lists that grow. No program in sight.
-/
namespace Go.Gx
open Go.RowKit
variable {dfs : List Deferred}
section
variable {w w' : World} {S S' G : Nat → Prop} {A : Option Addr} {n c M M' : Nat} {f : List Int}
end
section
variable {T : Nat → Prop} {w w' : World} {B : Nat} {el : TypeId} {S G : Nat → Prop} {A : Option Addr} {n c M : Nat} {f : List Int}
end
section
variable {P : Program} {n : Nat} {e : Nat → Value} {w : World} {K : Act → World → Prop} {Q : Exit → Act → World → Prop} {ty : TypeId} {pos : String} {af : Array Edge} {gd : Option (Nat × Bool)}
end
end Go.Gx
namespace Go.Gx
open Go.RowKit
variable {dfs : List Deferred}
section
variable {P : Program} {n : Nat} {e : Nat → Value} {w : World} {K : Act → World → Prop} {Q : Exit → Act → World → Prop} {ty : TypeId} {pos : String} {af : Array Edge} {gd : Option (Nat × Bool)}
end
end Go.Gx

/-
  Slices of int, lists of these, factors of the reference. No program in sight.
-/
namespace Go.Gx
open Go.RowKit
section
variable {w w' : World} {S S' G : Nat → Prop} {A : Option Addr} {n c : Nat} {xs : List Int}
end
structure IE where
  A : Option Addr
  n : Nat
  c : Nat
  x : List Int
  k : Int
section
variable {w w' : World} {S S' G : Nat → Prop} {A : Option Addr} {n c : Nat} {l : List IE}
end
section
variable {T : Nat → Prop} {w w' : World} {B : Nat} {el : TypeId} {A : Option Addr} {n c : Nat} {l : List IE}
end
section
variable {dfs : List Deferred} {P : Program} {n : Nat} {e : Nat → Value} {w : World} {K : Act → World → Prop} {Q : Exit → Act → World → Prop} {ty : TypeId} {pos : String} {af : Array Edge} {gd : Option (Nat × Bool)}
end
end Go.Gx

/-
  Lists whose elements are slices, of any kind: what is read, and what grows. No program in sight.
-/
namespace Go.Gx
open Go.RowKit
structure LK (α : Type) where
  v : α → Value
  R : World → (Nat → Prop) → α → Prop
  one : ∀ a, (v a).oneCell' = true
  frmB : ∀ {w w' : World} {S G : Nat → Prop} {a : α}, R w S a → Frm G w w' → (∀ b, b < w.heap.size → S b → ¬ G b) → R w' S a
  ext : ∀ {w w' : World} {S : Nat → Prop} {a : α}, R w S a → Ext w w' → R w' S a
  sub : ∀ {w : World} {S S' : Nat → Prop} {a : α}, R w S a → (∀ b, b < w.heap.size → S b → S' b) → R w S' a
section
variable {α : Type} {L : LK α} {w w' : World} {S S' G : Nat → Prop} {A : Option Addr} {n c : Nat} {l : List α}
end
section
variable {α : Type} {L : LK α} {w w' : World} {B : Nat} {el : TypeId} {A : Option Addr} {n c : Nat} {l : List α}
end
section
variable {dfs : List Deferred} {P : Program} {n : Nat} {e : Nat → Value} {w : World} {K : Act → World → Prop} {Q : Exit → Act → World → Prop} {ty : TypeId} {pos : String} {af : Array Edge} {gd : Option (Nat × Bool)}
end
section
variable {α β : Type} {L : LK α} {L' : LK β} {w w' : World} {B : Nat} {el el' : TypeId} {A A' : Option Addr} {n c n' c' : Nat} {l : List α} {l' : List β}
end
section
variable {dfs : List Deferred} {P : Program} {n : Nat} {e : Nat → Value} {w : World} {K : Act → World → Prop} {Q : Exit → Act → World → Prop} {ty : TypeId} {pos : String} {af : Array Edge} {gd : Option (Nat × Bool)}
end
end Go.Gx

/-
  Numbers and polynomials modulo a number: what the walks compute. Plain numbers; no program in sight.
-/
namespace Go.Gx
def md (p : Nat) (z : Int) : Nat := (z % (p : Int)).toNat
end Go.Gx
namespace Go.Gx
end Go.Gx
namespace Go.Gx
end Go.Gx

/-
  Numbers and polynomials modulo a number, around 0. Plain numbers; no program in sight.
-/
namespace Go.Gx
end Go.Gx

/-
  What the walks of the lifting want of integers. Plain numbers; no program in sight.
-/
namespace Go.Gx
end Go.Gx
namespace Go.Gx
end Go.Gx

/-
  Polynomials of one coefficient; products of lists of polynomials. No program in sight.
-/
namespace Go.Gx
open Go.RowKit
def foldMul (p : List Int) (gs : List (List Int)) : List Int := gs.foldl (fun p g => trimZ (pmul p g)) p
end Go.Gx

/-
  One step of the lift: the next factors and cofactors. Plain numbers; no program in sight.
-/
namespace Go.Gx
end Go.Gx

/-
  Products of polynomials, cell by cell. Plain numbers; no program in sight.
-/
namespace Go.Gx
end Go.Gx

/-
  Products and quotients of polynomials modulo a number. Plain numbers; no program in sight.
-/
namespace Go.Gx
end Go.Gx

/-
  Division, greatest common divisors and cofactors of polynomials modulo a prime, as the program reckons them. Plain numbers; no program in sight.
-/
namespace Go.Gx
end Go.Gx

/-
  Greatest common divisors and cofactors of polynomials modulo a prime, as the program reckons them. Plain numbers; no program in sight.
-/
namespace Go.Gx
end Go.Gx
namespace Go.Gx
end Go.Gx
namespace Go.Gx
end Go.Gx

/-
  The lift of a factorization: what the rounds reach. Plain numbers; no program in sight.
-/
namespace Go.Gx
def isFac (f : List Int) (L : List (List Int)) : Prop := trimZ f = trimZ (foldMul [ldP f] L)
instance (f : List Int) (L : List (List Int)) : Decidable (isFac f L) := by unfold isFac; infer_instance
end Go.Gx

/-
  Lists of polynomials modulo a number: what is read, what is filled, cofactors. No program in sight.
-/
namespace Go.Gx
open Go.RowKit
structure NE where
  A : Option Addr
  n : Nat
  c : Nat
  d : List Nat
section
variable {α : Type} {L : LK α} {w : World} {S : Nat → Prop} {A : Option Addr} {n c : Nat} {l : List α}
end
section
variable {w w' : World} {S S' G : Nat → Prop} {M M' : Nat} {l l' : List NE}
end
end Go.Gx

/-
  Lists of polynomials modulo a number that grow, by one polynomial or by a list of them. No program in sight.
-/
namespace Go.Gx
open Go.RowKit
def lb : Option Addr → Nat
  | none => 0
  | some a => a.block + 1
theorem notIn_lb {A : Option Addr} {b : Nat} : notIn A b ↔ b + 1 ≠ lb A := by
  unfold notIn lb
  cases A with
  | none => simp
  | some a => simp; omega
theorem NatR.both {w : World} {S T : Nat → Prop} {A : Option Addr} {n c : Nat} {ds : List Nat} (h : NatR w S A n c ds) (g : NatR w T A n c ds) : NatR w (fun b => S b ∧ T b) A n c ds := by
  refine ⟨⟨h.1.1, h.1.2.1, h.1.2.2.1, fun h0 => ?_⟩, h.2⟩
  obtain ⟨b, o, e, hs, hb, hc⟩ := h.1.2.2.2 h0
  obtain ⟨b', o', e', hs', _, _⟩ := g.1.2.2.2 h0
  rw [e] at e'
  injection e' with e'
  injection e' with e1 e2
  subst e1
  exact ⟨b, o, e, ⟨hs, hs'⟩, hb, hc⟩
section
variable {w w' : World} {B : Nat} {el : TypeId} {gN : Nat} {A : Option Addr} {n c : Nat} {l : List NE}
end
section
variable {dfs : List Deferred} {P : Program} {n : Nat} {e : Nat → Value} {w : World} {K : Act → World → Prop} {Q : Exit → Act → World → Prop} {ty : TypeId} {pos : String} {af : Array Edge} {gd : Option (Nat × Bool)}
end
end Go.Gx
namespace Go.Gx
end Go.Gx

/-
  Lists of structs of any kind in memory: what is read, and what grows. No program in sight.
-/
namespace Go.Gx
open Go.RowKit
structure SK (α : Type) where
  k : Nat
  pos : 0 < k
  cells : α → List Value
  len : ∀ a, (cells a).length = k
  one : ∀ a, (cells a).all Value.oneCell' = true
  R : World → (Nat → Prop) → α → Prop
  frmB : ∀ {w w' : World} {S G : Nat → Prop} {a : α}, R w S a → Frm G w w' → (∀ b, b < w.heap.size → S b → ¬ G b) → R w' S a
  ext : ∀ {w w' : World} {S : Nat → Prop} {a : α}, R w S a → Ext w w' → R w' S a
  sub : ∀ {w : World} {S S' : Nat → Prop} {a : α}, R w S a → (∀ b, b < w.heap.size → S b → S' b) → R w S' a
  both : ∀ {w : World} {S S' : Nat → Prop} {a : α}, R w S a → R w S' a → R w (fun b => S b ∧ S' b) a
section
variable {α : Type} (L : SK α)
def SK.flat (l : List α) : List Value := l.flatMap L.cells
theorem SK.flat_len (l : List α) : (L.flat l).length = l.length * L.k := by
  induction l with
  | nil => simp [SK.flat]
  | cons a l ih =>
    have e : L.flat (a :: l) = L.cells a ++ L.flat l := by simp [SK.flat]
    rw [e, List.length_append, ih, L.len, List.length_cons, Nat.add_mul]; omega
theorem SK.flat_append (a b : List α) : L.flat (a ++ b) = L.flat a ++ L.flat b := by simp [SK.flat]
theorem SK.flat_one (a : α) : L.flat [a] = L.cells a := by simp [SK.flat]
theorem SK.flat_get : ∀ {l : List α} {i : Nat} {a : α}, l[i]? = some a → ∀ {j : Nat} {v : Value}, (L.cells a)[j]? = some v → (L.flat l)[i * L.k + j]? = some v
  | [], i, a, h, j, v, _ => by simp at h
  | x :: l, 0, a, h, j, v, hv => by
    have e : L.flat (x :: l) = L.cells x ++ L.flat l := by simp [SK.flat]
    simp at h; subst h
    rw [e, Nat.zero_mul, Nat.zero_add, List.getElem?_append_left (List.getElem?_eq_some_iff.1 hv).1]; exact hv
  | x :: l, i + 1, a, h, j, v, hv => by
    have e : L.flat (x :: l) = L.cells x ++ L.flat l := by simp [SK.flat]
    have h1 : l[i]? = some a := by simpa using h
    rw [e, List.getElem?_append_right (by rw [L.len, Nat.add_mul]; omega), L.len, show (i + 1) * L.k + j - L.k = i * L.k + j by rw [Nat.add_mul]; omega]
    exact SK.flat_get h1 hv
end
def SListR {α : Type} (L : SK α) (w : World) (S : Nat → Prop) (A : Option Addr) (n c : Nat) (l : List α) : Prop := Rd w S A n c L.k (L.flat l) ∧ ∀ f ∈ l, L.R w S f
section
variable {α : Type} {L : SK α} {w w' : World} {S S' G : Nat → Prop} {A : Option Addr} {n c : Nat} {l : List α}
theorem SListR.frmB (h : SListR L w S A n c l) (f : Frm G w w') (hd : ∀ b, b < w.heap.size → S b → ¬ G b) : SListR L w' S A n c l := ⟨h.1.frmB f hd, fun x hx => L.frmB (h.2 x hx) f hd⟩
theorem SListR.ext (h : SListR L w S A n c l) (f : Ext w w') : SListR L w' S A n c l := ⟨h.1.ext f, fun x hx => L.ext (h.2 x hx) f⟩
theorem SListR.sub (h : SListR L w S A n c l) (hs : ∀ b, b < w.heap.size → S b → S' b) : SListR L w S' A n c l := ⟨h.1.sub hs, fun x hx => L.sub (h.2 x hx) hs⟩
theorem SListR.low (h : SListR L w S A n c l) : SListR L w (· < w.heap.size) A n c l := h.sub fun _ hb _ => hb
theorem SListR.nil : SListR L w S none 0 0 [] := ⟨Rd.nil, fun f hf => by cases hf⟩
theorem SListR.len (h : SListR L w S A n c l) : l.length = n := by
  have h1 := h.1.1
  rw [L.flat_len] at h1
  exact Nat.eq_of_mul_eq_mul_right L.pos h1
theorem SListR.lkm (h : SListR L w S A n c l) : l.length = n ∧ n ≤ c ∧ c ≤ 9223372036854775807 := ⟨h.len, h.1.2.1, h.1.2.2.1⟩
theorem SListR.base (h : SListR L w S A n c l) (hn : 0 < n) : ∃ b off, A = some ⟨b, off, none⟩ := h.1.base hn
theorem SListR.at_ {b off i : Nat} (h : SListR L w S (some ⟨b, off, none⟩) n c l) (hi : i < n) :
    ∃ f, l[i]? = some f ∧ (∀ (j : Nat) v, (L.cells f)[j]? = some v → w.cell? ⟨b, off + (i * L.k + j), none⟩ = some v) ∧ L.R w S f ∧ S b ∧ b < w.heap.size := by
  have hl : i < l.length := by rw [h.len]; exact hi
  obtain ⟨b', off', e, hS, hb, _⟩ := h.1.2.2.2 (by omega)
  injection e with e
  injection e with e1 e2
  subst e1 e2
  obtain ⟨r, hr⟩ : ∃ r, l[i]? = some r := ⟨_, List.getElem?_eq_getElem hl⟩
  exact ⟨r, hr, fun j v hv => h.1.cell (L.flat_get hr hv), h.2 _ (List.mem_of_getElem? hr), hS, hb⟩
theorem SListR.of_blk {g : Nat} {t : TypeId} (h : Blk w g t (L.flat l)) (ha : ∀ f ∈ l, L.R w S f) (hS : S g) (hl : l.length = n) (hc : n ≤ c) (hm : c ≤ CapMax) : SListR L w S (some ⟨g, 0, none⟩) n c l :=
  ⟨Rd.of_blk h hS (by rw [L.flat_len, hl]) hc hm, ha⟩
end
structure OwnK {α : Type} (L : SK α) (w : World) (B : Nat) (el : TypeId) (gN : Nat) (A : Option Addr) (n c : Nat) (l : List α) : Prop where
  own : Own w B el L.k A n c (L.flat l)
  el : ∀ f ∈ l, L.R w (fun b => b + 1 ≠ gN) f
  no : lb A = gN
section
variable {α : Type} {L : SK α} {w w' : World} {B : Nat} {el : TypeId} {gN : Nat} {A : Option Addr} {n c : Nat} {l : List α}
theorem OwnK.nil : OwnK L w B el 0 none 0 0 [] := ⟨Own.nil, fun f hf => (by cases hf), rfl⟩
theorem OwnK.ext (h : OwnK L w B el gN A n c l) (k : Ext w w') : OwnK L w' B el gN A n c l := ⟨h.own.ext k, fun f hf => L.ext (h.el f hf) k, h.no⟩
theorem OwnK.len (h : OwnK L w B el gN A n c l) : l.length = n := by
  have h1 := h.own.1
  rw [L.flat_len] at h1
  exact Nat.eq_of_mul_eq_mul_right L.pos h1
theorem OwnK.lkm (h : OwnK L w B el gN A n c l) : l.length = n ∧ n ≤ c ∧ c ≤ 9223372036854775807 := ⟨h.len, h.own.cap, h.own.max⟩
theorem OwnK.lt (h : OwnK L w B el gN A n c l) : gN = 0 ∨ B < gN ∧ gN ≤ w.heap.size := by
  cases A with
  | none => left; rw [← h.no]; rfl
  | some a => right; have h1 := h.own.lt a rfl; rw [← h.no]; simp only [lb]; omega
theorem OwnK.list {S : Nat → Prop} (h : OwnK L w B el gN A n c l) (hs : ∀ x ∈ l, L.R w S x) (hB : ∀ b, B ≤ b → b < w.heap.size → S b) : SListR L w S A n c l := ⟨h.own.rd.sub fun b hb hs => hB b hs hb, hs⟩
theorem OwnK.wide {B' : Nat} (h : OwnK L w B el gN A n c l) (hB : B' ≤ B) : OwnK L w B' el gN A n c l := ⟨h.own.low hB, h.el, h.no⟩
theorem Own.frmG' {B : Nat} {e : TypeId} {k : Nat} {cs : List Value} {G : Nat → Prop} (h : Own w B e k A n c cs) (f : Frm G w w') (hd : ∀ b, b < w.heap.size → B ≤ b → b + 1 = lb A → ¬ G b) : Own w' B e k A n c cs := by
  refine ⟨h.1, ?_⟩
  rcases h.2 with h1 | ⟨g, cap, cur, hv, hb, hg, rest⟩
  · exact .inl h1
  · have hlt := (Array.getElem?_eq_some_iff.1 hg).1
    have hA : A = some ⟨g, 0, none⟩ := by injection hv
    exact .inr ⟨g, cap, cur, hv, hb, (f.block g hlt (hd g hlt hb (by rw [hA]; rfl))).trans hg, rest⟩
theorem OwnK.frmB {G : Nat → Prop} {S : Nat → Prop} (h : OwnK L w B el gN A n c l) (f : Frm G w w') (hg : ∀ b, b < w.heap.size → B ≤ b → b + 1 = gN → ¬ G b) (hs : ∀ x ∈ l, L.R w S x) (hd : ∀ b, b < w.heap.size → S b → ¬ G b) : OwnK L w' B el gN A n c l :=
  ⟨h.own.frmG' f (by rw [h.no]; exact hg), fun x hx => (L.sub (L.frmB (L.both (h.el x hx) (hs x hx)) f fun b hb hh => hd b hb hh.2) fun b _ hh => hh.1), h.no⟩
end
section
variable {dfs : List Deferred} {P : Program} {n : Nat} {e : Nat → Value} {w : World} {K : Act → World → Prop} {Q : Exit → Act → World → Prop} {ty : TypeId} {pos : String} {af : Array Edge} {gd : Option (Nat × Bool)}
theorem oAppK {α : Type} {L : SK α} {d : Nat} {s x : Operand} {t el bt : TypeId} {zv : Value} {bytes B gN m c g : Nat} {A : Option Addr} {l : List α} {f : α} {S S2 : Nat → Prop} (ht : P.underlying t = some (.slice el))
    (hi : (P.info? el).map (fun i => (i.zero, i.size, i.bytes)) = some (some zv, L.k, bytes)) (hzv : zv.cells.size = L.k) (hs : ev n e s = .slice A m c) (hx : ev n e x = .slice (some ⟨g, 0, none⟩) 1 1) (hO : OwnK L w B el gN A m c l) (h1 : ∀ x ∈ l, L.R w S x) (hb : Blk w g bt (L.cells f)) (hf : L.R w S2 f)
    (hS : ∀ b, b < w.heap.size → S2 b → b + 1 ≠ gN) (hm : (m + 1) * bytes ≤ 140737488355328) (hm2 : m + 1 ≤ 9223372036854775807) (hB : B ≤ w.heap.size)
    (kk : ∀ A3 c3 g3 w', OwnK L w' B el g3 A3 (m + 1) c3 (l ++ [f]) → (g3 = gN ∨ w.heap.size < g3 ∧ g3 ≤ w'.heap.size) → Frm (fun b => b + 1 = gN) w w' → (∀ x ∈ l ++ [f], L.R w' (fun b => (S b ∨ S2 b) ∧ b < w.heap.size) x) → K (mkA dfs n (upd e d (.slice A3 (m + 1) c3))) w') :
    OpW P ⟨some d, .call { callee := .builtin .append, args := #[s, x], argTypes := #[t, t] }, ty, pos, af, gd⟩ (mkA dfs n e) w K Q := by
  refine oApp ht hi hzv L.pos hs hx hO.own hb (L.len f) (L.one f) hm hm2 hB fun A2 c2 w' hO' hF hF2 hnew => ?_
  have hk : Frm (fun b => b + 1 = gN) w w' := (hF2 (notIn A) fun _ h => h).mono fun b _ hb => by
    rcases Nat.decEq (b + 1) gN with h | h
    · exact absurd (notIn_lb.2 (by rw [hO.no]; exact h)) hb
    · exact h
  have key : ∀ {T : Nat → Prop} {x : α}, (∀ b, b < w.heap.size → T b → b + 1 ≠ gN) → L.R w T x → L.R w' (fun b => T b ∧ b < w.heap.size) x := fun hT h =>
    L.frmB (L.sub (S' := fun b => _ ∧ b < w.heap.size) h fun b hb hs => ⟨hs, hb⟩) hk fun b hb hs he => hT b hb hs.1 he
  have e1 : ∀ x ∈ l, L.R w' (fun b => (b + 1 ≠ gN ∧ S b) ∧ b < w.heap.size) x := fun x hx => key (fun b _ hs => hs.1) (L.both (hO.el x hx) (h1 x hx))
  have e2 : L.R w' (fun b => S2 b ∧ b < w.heap.size) f := key hS hf
  have hg3 : lb A2 = gN ∨ w.heap.size < lb A2 := by
    cases A2 with
    | none => 
      exfalso
      have := hO'.1
      rcases hO'.2 with ⟨_, h0⟩ | ⟨g', cap, cur, hv, _⟩
      · omega
      · cases hv
    | some a =>
      rcases hnew a rfl with h5 | h5
      · left; rw [← hO.no, h5]
      · right; simp only [lb]; omega
  have hle : lb A2 ≤ w'.heap.size := by
    cases A2 with
    | none => exact Nat.zero_le _
    | some a => have := (hO'.lt a rfl).2; simp only [lb]; omega
  refine kk A2 c2 (lb A2) w' ⟨by rw [L.flat_append, L.flat_one]; exact hO', fun x hx => ?_, rfl⟩ (hg3.imp id fun h => ⟨h, hle⟩) hk fun x hx => ?_
  · rcases List.mem_append.1 hx with h5 | h5
    · exact L.sub (e1 x h5) fun b _ hs => by rcases hg3 with h | h <;> omega
    · rw [List.mem_singleton.1 h5]
      exact L.sub e2 fun b hb hs => by
        have := hS b hs.2 hs.1
        rcases hg3 with h | h <;> omega
  · rcases List.mem_append.1 hx with h5 | h5
    · exact L.sub (e1 x h5) fun b _ hs => ⟨.inl hs.1.2, hs.2⟩
    · rw [List.mem_singleton.1 h5]; exact L.sub e2 fun b _ hs => ⟨.inr hs.1, hs.2⟩
end
end Go.Gx

/-
  Lists of structs that a call makes: with a length, by append, or written element by element. No program in sight.
-/
namespace Go.Gx
open Go.RowKit
section
variable {α : Type} (L : SK α)
theorem SK.flat_cons (a : α) (l : List α) : L.flat (a :: l) = L.cells a ++ L.flat l := by simp [SK.flat]
theorem made_flat {z : Value} {a : α} (m : Nat) (h : z.cells = (L.cells a).toArray) : (madeCells z.cells (m * L.k)).toList = L.flat (List.replicate m a) := by
  have hk := L.len a
  have hp := L.pos
  apply List.ext_getElem?
  intro j
  rcases Nat.lt_or_ge j (m * L.k) with hj | hj
  · have hi : j / L.k < m := (Nat.div_lt_iff_lt_mul hp).2 hj
    have hm : j % L.k < L.k := Nat.mod_lt _ hp
    have h1 : (List.replicate m a)[j / L.k]? = some a := by simp [hi]
    have h2 : (L.cells a)[j % L.k]? = some ((L.cells a)[j % L.k]'(by omega)) := List.getElem?_eq_getElem _
    have h3 := L.flat_get h1 h2
    rw [Nat.mul_comm, Nat.div_add_mod] at h3
    rw [h3]
    simp [madeCells, h, hj, hk, List.getElem?_range, getElem!_pos, hm]
  · rw [List.getElem?_eq_none (by simp [madeCells, hj]), List.getElem?_eq_none (by rw [L.flat_len]; simp [hj])]
theorem SK.flat_part {o : Nat} {vs : List Value} : ∀ {l : List α} {i : Nat} {a a' : α}, l[i]? = some a → L.cells a' = (L.cells a).take o ++ vs ++ (L.cells a).drop (o + vs.length) → o + vs.length ≤ L.k →
    (L.flat l).take (i * L.k + o) ++ vs ++ (L.flat l).drop (i * L.k + o + vs.length) = L.flat (l.set i a')
  | [], i, a, a', h, _, _ => by simp at h
  | x :: l, 0, a, a', h, he, ho => by
    simp at h; subst h
    have hl := L.len x
    rw [L.flat_cons, List.set_cons_zero, L.flat_cons, he, Nat.zero_mul, Nat.zero_add, List.take_append_of_le_length (by omega), List.drop_append_of_le_length (by omega)]
    simp
  | x :: l, i + 1, a, a', h, he, ho => by
    have h1 : l[i]? = some a := by simpa using h
    have hl := L.len x
    have e1 : (i + 1) * L.k + o = L.k + (i * L.k + o) := by rw [Nat.add_mul]; omega
    have t1 : (L.cells x ++ L.flat l).take (L.k + (i * L.k + o)) = L.cells x ++ (L.flat l).take (i * L.k + o) := by
      rw [List.take_append, List.take_of_length_le (by omega), hl]; congr 2; omega
    have t2 : (L.cells x ++ L.flat l).drop (L.k + (i * L.k + o + vs.length)) = (L.flat l).drop (i * L.k + o + vs.length) := by
      rw [List.drop_append, List.drop_of_length_le (by omega), hl, List.nil_append]; congr 1; omega
    rw [L.flat_cons, List.set_cons_succ, L.flat_cons, ← SK.flat_part h1 he ho, e1, t1, show L.k + (i * L.k + o) + vs.length = L.k + (i * L.k + o + vs.length) by omega, t2]
    simp
end
def FillK {α : Type} (L : SK α) (w : World) (g : Nat) (t : TypeId) (S : Nat → Prop) (l : List α) : Prop := Blk w g t (L.flat l) ∧ ∀ f ∈ l, L.R w S f
section
variable {α : Type} {L : SK α} {w w' : World} {g : Nat} {t : TypeId} {S S' G : Nat → Prop} {l : List α}
theorem FillK.list {n : Nat} (h : FillK L w g t S l) (hs : ∀ b, b < w.heap.size → S b → S' b) (hg : S' g) (hl : l.length = n) (hm : n ≤ CapMax) : SListR L w S' (some ⟨g, 0, none⟩) n n l :=
  SListR.of_blk h.1 (fun x hx => L.sub (h.2 x hx) hs) hg hl (Nat.le_refl _) hm
end
section
variable {dfs : List Deferred} {P : Program} {n : Nat} {e : Nat → Value} {w : World} {K : Act → World → Prop} {Q : Exit → Act → World → Prop} {ty : TypeId} {pos : String} {af : Array Edge} {gd : Option (Nat × Bool)}
theorem oMakeK {α : Type} {L : SK α} {d : Nat} {t el : TypeId} {l c : Operand} {k1 k2 : IntKind} {z : Value} {bytes : Nat} (a : α) (m : Nat) (ht : P.underlying t = some (.slice el))
    (hi : (P.info? el).map (fun i => (i.zero, i.size, i.bytes)) = some (some z, L.k, bytes)) (hz : z.cells = (L.cells a).toArray) (hl : ev n e l = .int k1 (m : Int)) (hc : ev n e c = .int k2 (m : Int))
    (hb : bytes * m ≤ 281474976710656) (hm : m ≤ 9223372036854775807)
    (k : ∀ g w', g = w.heap.size → Ext w w' → w'.heap.size = g + 1 → Blk w' g el (L.flat (List.replicate m a)) → K (mkA dfs n (upd e d (.slice (some ⟨g, 0, none⟩) m m))) w') :
    OpW P ⟨some d, .makeSlice t l c, ty, pos, af, gd⟩ (mkA dfs n e) w K Q := by
  refine oMake m ht hi hl hc hb hm fun g w' h1 h2 h3 h4 => k g w' h1 h2 h3 ?_
  rw [made_flat L m hz] at h4
  exact h4
theorem oSetK {α : Type} {L : SK α} {t t' : TypeId} {a x : Operand} {g i off : Nat} {v : Value} {l : List α} (f : α) (ha : ev n e a = .pointer (some ⟨g, off, none⟩)) (ho : off = i * L.k) (hx : ev n e x = v)
    (hv : v.cells = (L.cells f).toArray) (hs : ∀ w, (sizeOf t).run P w = .ok L.k w) (hb : Blk w g t' (L.flat l)) (hi : i < l.length)
    (k : ∀ w', Frm (fun b => b = g) w w' → w'.heap.size = w.heap.size → Blk w' g t' (L.flat (l.set i f)) → K (mkA dfs n e) w') :
    OpW P ⟨none, .store t a x, ty, pos, af, gd⟩ (mkA dfs n e) w K Q := by
  subst ho
  have hf := L.len f
  have hle : i * L.k + L.k ≤ l.length * L.k := by have := Nat.mul_le_mul_right L.k (show i + 1 ≤ l.length from hi); rw [Nat.add_mul] at this; omega
  refine oStore (L.cells f) ha hx hv (by rw [hf]; exact hs) (L.one f) hb (by rw [L.flat_len, hf]; exact hle) fun w' h2 h3 h4 => k w' h2 h3 ?_
  have h5 := L.flat_part (o := 0) (vs := L.cells f) (List.getElem?_eq_getElem hi) (a' := f) (by rw [List.take_zero, List.nil_append, Nat.zero_add, hf, List.drop_of_length_le (by rw [L.len]; exact Nat.le_refl _), List.append_nil]) (by omega)
  rw [Nat.add_zero] at h5
  rw [h5] at h4
  exact h4
end
structure OwnN {α : Type} (L : SK α) (w : World) (B : Nat) (el : TypeId) (gN : Nat) (A : Option Addr) (n c : Nat) (l : List α) (S : Nat → Prop) : Prop where
  k : OwnK L w B el gN A n c l
  s : ∀ x ∈ l, L.R w S x
section
variable {α : Type} {L : SK α} {w w' : World} {B : Nat} {el : TypeId} {gN : Nat} {A : Option Addr} {n c : Nat} {l : List α} {S S' : Nat → Prop}
theorem OwnN.nil : OwnN L w B el 0 none 0 0 [] S := ⟨OwnK.nil, fun f hf => by cases hf⟩
theorem OwnN.ext (h : OwnN L w B el gN A n c l S) (k : Ext w w') : OwnN L w' B el gN A n c l S := ⟨h.k.ext k, fun f hf => L.ext (h.s f hf) k⟩
theorem OwnN.lkm (h : OwnN L w B el gN A n c l S) : l.length = n ∧ n ≤ c ∧ c ≤ 9223372036854775807 := h.k.lkm
theorem OwnN.lt (h : OwnN L w B el gN A n c l S) : gN = 0 ∨ B < gN ∧ gN ≤ w.heap.size := h.k.lt
theorem OwnN.list (h : OwnN L w B el gN A n c l S) (hB : ∀ b, b < w.heap.size → S b ∨ B ≤ b → S' b) : SListR L w S' A n c l := h.k.list (S := S') (fun x hx => L.sub (h.s x hx) fun b hb hs => hB b hb (.inl hs)) fun b h1 h2 => hB b h2 (.inr h1)
theorem OwnN.low (h : OwnN L w B el gN A n c l S) : SListR L w (fun b => b < w.heap.size) A n c l := h.list fun _ hb _ => hb
theorem OwnN.wide {B' : Nat} (h : OwnN L w B el gN A n c l S) (hB : B' ≤ B) : OwnN L w B' el gN A n c l S := ⟨h.k.wide hB, h.s⟩
theorem OwnN.sub (h : OwnN L w B el gN A n c l S) (hs : ∀ b, b < w.heap.size → S b → S' b) : OwnN L w B el gN A n c l S' := ⟨h.k, fun x hx => L.sub (h.s x hx) hs⟩
theorem OwnN.frmB {G : Nat → Prop} (h : OwnN L w B el gN A n c l S) (f : Frm G w w') (hd : ∀ b, b < w.heap.size → S b ∨ B ≤ b → ¬ G b) : OwnN L w' B el gN A n c l S :=
  ⟨h.k.frmB f (fun b h1 h2 _ => hd b h1 (.inr h2)) h.s fun b h1 h2 => hd b h1 (.inl h2), fun x hx => L.frmB (h.s x hx) f fun b h1 h2 => hd b h1 (.inl h2)⟩
theorem OwnN.elt (h : OwnN L w B el gN A n c l S) {x : α} (hx : x ∈ l) : L.R w (fun b => S b ∧ b + 1 ≠ gN) x := L.sub (L.both (h.s x hx) (h.k.el x hx)) fun _ _ hb => hb
theorem Own.makeK {g c k : Nat} {cs : List Value} (hb : B ≤ g) (h : Blk w g el cs) (hl : cs.length = c * k) (hm : c ≤ CapMax) : Own w B el k (some ⟨g, 0, none⟩) 0 c [] := by
  refine ⟨by simp, .inr ⟨g, c, cs.toArray, rfl, hb, h, Nat.zero_le _, ?_, by simpa using hl, by simp⟩⟩
  simp only [maxLen, CapMax] at hm ⊢; omega
end
section
variable {dfs : List Deferred} {P : Program} {n : Nat} {e : Nat → Value} {w : World} {K : Act → World → Prop} {Q : Exit → Act → World → Prop} {ty : TypeId} {pos : String} {af : Array Edge} {gd : Option (Nat × Bool)}
theorem oAppN {α : Type} {L : SK α} {d : Nat} {s x : Operand} {t el bt : TypeId} {zv : Value} {bytes B gN m c g : Nat} {A : Option Addr} {l : List α} {f : α} {S : Nat → Prop} (ht : P.underlying t = some (.slice el))
    (hi : (P.info? el).map (fun i => (i.zero, i.size, i.bytes)) = some (some zv, L.k, bytes)) (hzv : zv.cells.size = L.k) (hs : ev n e s = .slice A m c) (hx : ev n e x = .slice (some ⟨g, 0, none⟩) 1 1) (hO : OwnN L w B el gN A m c l S) (hb : Blk w g bt (L.cells f)) (hf : L.R w (fun b => S b ∧ b + 1 ≠ gN) f)
    (hm : (m + 1) * bytes ≤ 140737488355328) (hm2 : m + 1 ≤ 9223372036854775807) (hB : B ≤ w.heap.size)
    (kk : ∀ A3 c3 g3 w', OwnN L w' B el g3 A3 (m + 1) c3 (l ++ [f]) S → (g3 = gN ∨ w.heap.size < g3 ∧ g3 ≤ w'.heap.size) → Frm (fun b => b + 1 = gN) w w' → K (mkA dfs n (upd e d (.slice A3 (m + 1) c3))) w') :
    OpW P ⟨some d, .call { callee := .builtin .append, args := #[s, x], argTypes := #[t, t] }, ty, pos, af, gd⟩ (mkA dfs n e) w K Q := by
  refine oAppK ht hi hzv hs hx hO.k hO.s hb hf (fun b _ h => h.2) hm hm2 hB fun A3 c3 g3 w' h1 h2 h3 h4 => kk A3 c3 g3 w' ⟨h1, fun x hx => L.sub (h4 x hx) fun b _ hb => ?_⟩ h2 h3
  rcases hb.1 with h | h
  · exact h
  · exact h.1
theorem oMakeN {α : Type} {L : SK α} {d : Nat} {t el : TypeId} {l c : Operand} {k1 k2 : IntKind} {z : Value} {bytes B : Nat} {S : Nat → Prop} (m : Nat) (ht : P.underlying t = some (.slice el))
    (hi : (P.info? el).map (fun i => (i.zero, i.size, i.bytes)) = some (some z, L.k, bytes)) (hl : ev n e l = .int k1 0) (hc : ev n e c = .int k2 (m : Int))
    (hb : bytes * m ≤ 281474976710656) (hm : m ≤ 9223372036854775807) (hB : B ≤ w.heap.size)
    (k : ∀ g w', g = w.heap.size → Ext w w' → w'.heap.size = g + 1 → OwnN L w' B el (g + 1) (some ⟨g, 0, none⟩) 0 m [] S → K (mkA dfs n (upd e d (.slice (some ⟨g, 0, none⟩) 0 m))) w') :
    OpW P ⟨some d, .makeSlice t l c, ty, pos, af, gd⟩ (mkA dfs n e) w K Q := by
  obtain ⟨i, hi', hz, hs, rfl⟩ := info_parts hi
  have hb' : (i.bytes : Int) * (m : Int) ≤ 281474976710656 := by
    have h : ((i.bytes * m : Nat) : Int) ≤ 281474976710656 := by omega
    rwa [Int.natCast_mul] at h
  have hr := run_make (P := P) w t el i z ht hi' hz k1 k2 0 m (Int.le_refl _) (by omega) hb' (by omega)
  simp only [Int.toNat_natCast] at hr
  unfold OpW Oper.wp
  rw [eval_mkA]
  simp only [execOp, hl, hc, Sem.run_bind, hr, Sem.run_pure, Result.andThen_ok, Oper.upon, put_mkA]
  have hB2 := Blk.new w el (madeCells z.cells (m * i.size)).toList
  refine k _ _ rfl (alloc_ext _ _) (by simp) ⟨⟨?_, fun f hf => (by cases hf), rfl⟩, fun f hf => (by cases hf)⟩
  refine Own.makeK hB (by simpa using hB2) ?_ hm
  rw [hs]; simp [madeCells]
end
end Go.Gx

/-
  Maps that a call makes, keyed by arrays of four ints: the i-th key has the element i. No program in sight.
-/
namespace Go.Gx
open Go.RowKit
structure M4 where
  a : Int
  b : Int
  c : Int
  d : Int
  deriving DecidableEq
def M4.v (m : M4) : Value := .agg #[.int .i64 m.a, .int .i64 m.b, .int .i64 m.c, .int .i64 m.d]
def entriesFrom : Nat → List M4 → List MapEntry
  | _, [] => []
  | i, m :: ms => { key := m.v, val := .int .i64 (i : Int), born := i } :: entriesFrom (i + 1) ms
theorem entries_snoc : ∀ (i : Nat) (ms : List M4) (m : M4), entriesFrom i (ms ++ [m]) = entriesFrom i ms ++ [{ key := m.v, val := .int .i64 ((i + ms.length : Nat) : Int), born := i + ms.length }]
  | i, [], m => by simp [entriesFrom]
  | i, x :: ms, m => by
    simp only [List.cons_append, entriesFrom, entries_snoc (i + 1) ms m, List.length_cons]
    rw [show i + 1 + ms.length = i + (ms.length + 1) by omega]
def MapB (w : World) (b : Nat) (ms : List M4) : Prop := w.heap[b]? = some (.map (entriesFrom 0 ms).toArray ms.length)
theorem MapB.frm {w w' : World} {G : Nat → Prop} {b : Nat} {ms : List M4} (h : MapB w b ms) (f : Frm G w w') (hg : ¬ G b) : MapB w' b ms := by
  have hb : b < w.heap.size := (Array.getElem?_eq_some_iff.1 h).1
  exact (f.block b hb hg).trans h
theorem MapB.lt {w : World} {b : Nat} {ms : List M4} (h : MapB w b ms) : b < w.heap.size := (Array.getElem?_eq_some_iff.1 h).1
def idxM (m : M4) : List M4 → Nat → Option Nat
  | [], _ => none
  | x :: ms, i => if m = x then some i else idxM m ms (i + 1)
section
variable {P : Program} {w : World} {k e : TypeId}
structure Key4 (P : Program) (k e : TypeId) : Prop where
  arr : P.underlying k = some (.array 4 e)
  int : P.underlying e = some (.int .i64)
  info : ∃ i, P.info? e = some i
  one : P.cellsOf e = 1
theorem Key4.part (h : Key4 P k e) {xs : Array Value} {off : Nat} {v : Value} (hx : xs[off]? = some v) : (part e xs off).run P w = .ok v w :=
  run_part_plain w (by unfold Program.plainKey; rw [h.int]) hx
theorem Key4.step (h : Key4 P k e) {n j : Nat} {xs ys : Array Value} {is : List Nat} {a b : Int} (hx : xs[j]? = some (.int .i64 a)) (hy : ys[j]? = some (.int .i64 b)) :
    (Op.eqItems (n + 1) e 1 xs ys (j :: is)).run P w = if a = b then (Op.eqItems (n + 1) e 1 xs ys is).run P w else .ok false w := by
  have eqI : (Op.equalIn (n + 1) e (.int .i64 a) (.int .i64 b)).run P w = .ok (a == b) w := by simp [Op.equalIn, run_underlying h.int]
  have p1 : (Go.part e xs (j * 1)).run P w = .ok (.int .i64 a) w := h.part (by rw [Nat.mul_one]; exact hx)
  have p2 : (Go.part e ys (j * 1)).run P w = .ok (.int .i64 b) w := h.part (by rw [Nat.mul_one]; exact hy)
  rw [Op.eqItems]
  simp only [Sem.run_bind, p1, p2, eqI, Result.andThen_ok]
  by_cases hab : a = b
  · simp [hab]
  · have hbf : (a == b) = false := by simp [hab]
    simp [hbf, hab]
theorem Key4.equal (h : Key4 P k e) (x y : M4) : (Op.equal k x.v y.v).run P w = .ok (decide (x = y)) w := by
  obtain ⟨i, hi⟩ := h.info
  have h1 := run_equalIn_array (P := P) w 9999 #[.int .i64 x.a, .int .i64 x.b, .int .i64 x.c, .int .i64 x.d] #[.int .i64 y.a, .int .i64 y.b, .int .i64 y.c, .int .i64 y.d] h.arr hi
  have h0 : Op.equal k x.v y.v = Op.equalIn (9999 + 1) k x.v y.v := rfl
  rw [h0]
  refine h1.trans ?_
  rw [h.one, show List.range 4 = [0, 1, 2, 3] from rfl]
  obtain ⟨a, b, c, d⟩ := x
  obtain ⟨a', b', c', d'⟩ := y
  dsimp only
  suffices hs : ∀ n, (Op.eqItems (n + 1) e 1 #[.int .i64 a, .int .i64 b, .int .i64 c, .int .i64 d] #[.int .i64 a', .int .i64 b', .int .i64 c', .int .i64 d'] [0, 1, 2, 3]).run P w = .ok (decide ((⟨a, b, c, d⟩ : M4) = ⟨a', b', c', d'⟩)) w from hs 9998
  intro n
  rw [h.step (a := a) (b := a') rfl rfl, h.step (a := b) (b := b') rfl rfl, h.step (a := c) (b := c') rfl rfl, h.step (a := d) (b := d') rfl rfl]
  simp only [Op.eqItems, Sem.run_pure]
  by_cases h1 : a = a'
  · by_cases h2 : b = b'
    · by_cases h3 : c = c'
      · by_cases h4 : d = d' <;> simp [h1, h2, h3, h4, M4.mk.injEq]
      · simp [h1, h2, h3, M4.mk.injEq]
    · simp [h1, h2, M4.mk.injEq]
  · simp [h1, M4.mk.injEq]
theorem Key4.check (h : Key4 P k e) (em : Bool) (m : M4) : (Instr.checkKey em 10000 k m.v).run P w = .ok () w := by
  obtain ⟨i, hi⟩ := h.info
  have hs : (sizeOf e).run P w = .ok 1 w := by rw [run_sizeOf w hi, h.one]
  have cg : ∀ (n : Nat) (a : Int), (Instr.checkKey em (n + 1) e (.int .i64 a)).run P w = .ok () w := fun n a => by simp [Instr.checkKey, run_underlying h.int]
  have p : ∀ (j : Nat) (v : Value), (#[.int .i64 m.a, .int .i64 m.b, .int .i64 m.c, .int .i64 m.d] : Array Value)[j]? = some v → (Go.part e #[.int .i64 m.a, .int .i64 m.b, .int .i64 m.c, .int .i64 m.d] j).run P w = .ok v w := fun j v hv => h.part hv
  suffices ca : ∀ (n : Nat), (Instr.checkKey em (n + 1 + 1) k m.v).run P w = .ok () w from ca 9998
  intro n
  have ck := cg n
  unfold M4.v
  rw [Instr.checkKey.eq_def]
  simp only [Sem.run_bind, run_underlying h.arr, Result.andThen_ok, Std.Legacy.Range.forIn_eq_forIn_range', Std.Legacy.Range.size, Nat.sub_zero, Nat.add_one_sub_one, Nat.div_one]
  rw [show List.range' 0 4 = [0, 1, 2, 3] from rfl]
  simp only [List.forIn_cons, List.forIn_nil, Sem.run_bind, hs, Result.andThen_ok, Nat.mul_one, p 0 (.int .i64 m.a) rfl, p 1 (.int .i64 m.b) rfl, p 2 (.int .i64 m.c) rfl, p 3 (.int .i64 m.d) rfl, ck, Sem.run_pure]
theorem Key4.asking (h : Key4 P k e) (m : M4) : ∀ (ms : List M4) (i : Nat), (Instr.findAsking k m.v (entriesFrom i ms) i).run P w = .ok ((idxM m ms i).map fun j => (j, Value.int .i64 (j : Int))) w
  | [], i => by simp [entriesFrom, Instr.findAsking, idxM]
  | x :: ms, i => by
    simp only [entriesFrom, Instr.findAsking, Sem.run_bind, h.equal m x, Result.andThen_ok, idxM]
    by_cases hx : m = x
    · simp [hx]
    · simp only [hx, decide_false, if_false, Bool.false_eq_true]; exact h.asking m ms (i + 1)
theorem Key4.find (h : Key4 P k e) (m : M4) (ms : List M4) : (Instr.findKey k m.v (entriesFrom 0 ms)).run P w = .ok ((idxM m ms 0).map fun j => (j, Value.int .i64 (j : Int))) w := by
  rw [run_findKey_eq w (by rw [h.arr]) m.v (entriesFrom 0 ms)]
  exact h.asking m ms 0
end
section
variable {dfs : List Deferred} {P : Program} {n : Nat} {e : Nat → Value} {w : World} {K : Act → World → Prop} {Q : Exit → Act → World → Prop} {ty : TypeId} {pos : String} {af : Array Edge} {gd : Option (Nat × Bool)}
theorem evLook {d : Option Nat} {t kt et : TypeId} {x i : Operand} {b : Nat} {ms : List M4} {m : M4} (hm : P.underlying t = some (.map kt et)) (hk : Key4 P kt et) (hx : ev n e x = .map (some b)) (hi : ev n e i = m.v) (hB : MapB w b ms) (hz : (zeroValue et).run P w = .ok (.int .i64 0) w) :
    Ev P n e ⟨d, .lookup t x i true, ty, pos, af, gd⟩ w (.tuple #[.int .i64 (((idxM m ms 0).getD 0 : Nat) : Int), .bool (idxM m ms 0).isSome]) := by
  have hg : (getObj b).run P w = .ok (.map (entriesFrom 0 ms).toArray ms.length) w := by
    have hB' : w.heap[b]? = some (.map (entriesFrom 0 ms).toArray ms.length) := hB
    simp [getObj, Sem.run, hB']
  simp only [Ev, execOp, hx, hi, Instr.lookup, Sem.run_bind, run_underlying hm, Result.andThen_ok, hg, Sem.run_pure, hk.check, hk.find]
  cases h : idxM m ms 0 with
  | none => simp [h, hz]
  | some j => simp [h]
theorem oMakeMap {d : Nat} {t : TypeId} (k : ∀ g w', g = w.heap.size → Ext w w' → w'.heap.size = g + 1 → MapB w' g [] → K (mkA dfs n (upd e d (.map (some g)))) w') :
    OpW P ⟨some d, .makeMap t none, ty, pos, af, gd⟩ (mkA dfs n e) w K Q := by
  unfold OpW Oper.wp
  rw [eval_mkA]
  have := k w.heap.size (w.alloc (.map #[] 0)) rfl (alloc_ext _ _) (by simp) (by show (w.heap.push _)[w.heap.size]? = _; simp [entriesFrom])
  simp only [execOp, Instr.makeMap, newObj, Sem.run_bind, Sem.run_pure, Result.andThen_ok, Sem.run, Oper.upon, put_mkA]
  exact this
theorem oMapNew {t kt et : TypeId} {x i v : Operand} {b : Nat} {ms : List M4} {m : M4} (hm : P.underlying t = some (.map kt et)) (hk : Key4 P kt et) (hx : ev n e x = .map (some b)) (hi : ev n e i = m.v) (hv : ev n e v = .int .i64 ((ms.length : Nat) : Int)) (hB : MapB w b ms) (hn : idxM m ms 0 = none)
    (k : ∀ w', Frm (fun g => g = b) w w' → w'.heap.size = w.heap.size → MapB w' b (ms ++ [m]) → K (mkA dfs n e) w') :
    OpW P ⟨none, .mapUpdate t x i v, ty, pos, af, gd⟩ (mkA dfs n e) w K Q := by
  have hB' : w.heap[b]? = some (.map (entriesFrom 0 ms).toArray ms.length) := hB
  have hlt := MapB.lt hB
  have hg : (getObj b).run P w = .ok (.map (entriesFrom 0 ms).toArray ms.length) w := by simp [getObj, Sem.run, hB']
  unfold OpW Oper.wp
  rw [eval_mkA]
  simp only [execOp, hx, hi, hv, Instr.mapUpdate, Sem.run_bind, run_underlying hm, Result.andThen_ok, hg, hk.check, hk.find, hn, Option.map_none]
  have hs : (setObj b (.map ((entriesFrom 0 ms).toArray.push { key := m.v, val := .int .i64 ((ms.length : Nat) : Int), born := ms.length }) (ms.length + 1))).run P w = .ok () { w with heap := w.heap.set! b (.map ((entriesFrom 0 ms).toArray.push { key := m.v, val := .int .i64 ((ms.length : Nat) : Int), born := ms.length }) (ms.length + 1)) } := by
    simp [setObj, Sem.run, hB']
  rw [hs]
  simp only [Result.andThen_ok, Oper.upon, put_none]
  refine k _ ⟨rfl, rfl, rfl, by simp, Nat.le_refl _, fun j _ hj => ?_⟩ (by simp) ?_
  · simp only [Array.set!_eq_setIfInBounds, Array.getElem?_setIfInBounds]
    rw [if_neg (fun h => hj h.symm)]
  · simp only [MapB, Array.set!_eq_setIfInBounds, Array.getElem?_setIfInBounds, if_true, hlt]
    rw [entries_snoc, List.length_append]
    simp
end
end Go.Gx

/-
  Polynomials in recursive form: trees in memory, and what they stand for. No program in sight.
-/
namespace Go.Gx
open Go.RowKit
inductive TT where
  | mk (lev : Int) (g : Bool) (A : Option Addr) (n c : Nat) (d : List Nat) (Ac : Option Addr) (nc cc : Nat) (kids : List TT)
def TT.cells : TT → List Value
  | .mk lev g A n c _ Ac nc cc _ => [.int .i64 lev, .bool g, .slice A n c, .slice Ac nc cc]
def TT.lev : TT → Int
  | .mk lev _ _ _ _ _ _ _ _ _ => lev
def TT.kids : TT → List TT
  | .mk _ _ _ _ _ _ _ _ _ kids => kids
inductive TreeR (w : World) (S : Nat → Prop) : TT → Prop
  | mk {lev : Int} {g : Bool} {A : Option Addr} {n c : Nat} {d : List Nat} {Ac : Option Addr} {nc cc : Nat} {kids : List TT} (hn : NatR w S A n c d) (hr : Rd w S Ac nc cc 4 (kids.flatMap TT.cells)) (hk : ∀ t ∈ kids, TreeR w S t) :
      TreeR w S (.mk lev g A n c d Ac nc cc kids)
theorem TreeR.frmB {w w' : World} {S G : Nat → Prop} {t : TT} (h : TreeR w S t) (f : Frm G w w') (hd : ∀ b, b < w.heap.size → S b → ¬ G b) : TreeR w' S t := by
  induction h with
  | mk hn hr _ ih => exact .mk (hn.frmB f hd) (hr.frmB f hd) ih
theorem TreeR.ext {w w' : World} {S : Nat → Prop} {t : TT} (h : TreeR w S t) (f : Ext w w') : TreeR w' S t := by
  induction h with
  | mk hn hr _ ih => exact .mk (hn.ext f) (hr.ext f) ih
theorem TreeR.sub {w : World} {S S' : Nat → Prop} {t : TT} (h : TreeR w S t) (hs : ∀ b, b < w.heap.size → S b → S' b) : TreeR w S' t := by
  induction h with
  | mk hn hr _ ih => exact .mk (hn.sub hs) (hr.sub hs) ih
theorem Rd.both {w : World} {S T : Nat → Prop} {A : Option Addr} {n c k : Nat} {cs : List Value} (h : Rd w S A n c k cs) (g : Rd w T A n c k cs) : Rd w (fun b => S b ∧ T b) A n c k cs := by
  refine ⟨h.1, h.2.1, h.2.2.1, fun h0 => ?_⟩
  obtain ⟨b, o, e, hs, hb, hc⟩ := h.2.2.2 h0
  obtain ⟨b', o', e', hs', _, _⟩ := g.2.2.2 h0
  rw [e] at e'
  injection e' with e'
  injection e' with e1 e2
  subst e1
  exact ⟨b, o, e, ⟨hs, hs'⟩, hb, hc⟩
theorem TreeR.both {w : World} {S S' : Nat → Prop} {t : TT} (h : TreeR w S t) (g : TreeR w S' t) : TreeR w (fun b => S b ∧ S' b) t := by
  induction h with
  | mk hn hr _ ih =>
    cases g with
    | mk hn' hr' hk' => exact .mk (hn.both hn') (hr.both hr') fun t ht => ih t ht (hk' t ht)
def TK : SK TT where
  k := 4
  pos := by decide
  cells := TT.cells
  len t := by cases t; rfl
  one t := by cases t; rfl
  R := TreeR
  frmB h f hd := h.frmB f hd
  ext h f := h.ext f
  sub h hs := h.sub hs
  both h g := h.both g
theorem TreeR.nat {w : World} {S : Nat → Prop} {lev : Int} {g : Bool} {A : Option Addr} {n c : Nat} {d : List Nat} {Ac : Option Addr} {nc cc : Nat} {kids : List TT} (h : TreeR w S (.mk lev g A n c d Ac nc cc kids)) : NatR w S A n c d := by cases h with | mk hn _ _ => exact hn
theorem TreeR.list {w : World} {S : Nat → Prop} {lev : Int} {g : Bool} {A : Option Addr} {n c : Nat} {d : List Nat} {Ac : Option Addr} {nc cc : Nat} {kids : List TT} (h : TreeR w S (.mk lev g A n c d Ac nc cc kids)) : SListR TK w S Ac nc cc kids := by cases h with | mk _ hr hk => exact ⟨hr, hk⟩
theorem TreeR.make {w : World} {S : Nat → Prop} {lev : Int} {g : Bool} {A : Option Addr} {n c : Nat} {d : List Nat} {Ac : Option Addr} {nc cc : Nat} {kids : List TT} (hn : NatR w S A n c d) (hl : SListR TK w S Ac nc cc kids) : TreeR w S (.mk lev g A n c d Ac nc cc kids) := .mk hn hl.1 hl.2
inductive RT where
  | mk (lev : Int) (c : Int) (kids : List RT)
mutual
def TT.val : TT → RT
  | .mk lev g _ _ _ d _ _ _ kids => .mk lev (zval g d) (TT.vals kids)
def TT.vals : List TT → List RT
  | [] => []
  | t :: l => TT.val t :: TT.vals l
end
theorem TT.vals_map (l : List TT) : TT.vals l = l.map TT.val := by
  induction l with
  | nil => simp [TT.vals]
  | cons t l ih => simp [TT.vals, ih]
mutual
def TT.depth : TT → Nat
  | .mk _ _ _ _ _ _ _ _ _ kids => 1 + TT.depths kids
def TT.depths : List TT → Nat
  | [] => 0
  | t :: l => max (TT.depth t) (TT.depths l)
end
theorem TT.depth_kid {t : TT} {k : TT} (h : k ∈ t.kids) : k.depth < t.depth := by
  obtain ⟨lev, g, A, n, c, d, Ac, nc, cc, kids⟩ := t
  have key : ∀ l : List TT, k ∈ l → k.depth ≤ TT.depths l := by
    intro l
    induction l with
    | nil => intro h; cases h
    | cons x l ih =>
      intro h
      rw [TT.depths]
      rcases List.mem_cons.1 h with h | h
      · subst h; omega
      · have := ih h; omega
  have := key kids h
  rw [TT.depth]; omega
inductive CanT : TT → Prop
  | const {g : Bool} {A : Option Addr} {n c : Nat} {d : List Nat} {Ac : Option Addr} {cc : Nat} (h : ICan g d ∧ val d < 2 ^ 63) : CanT (.mk 0 g A n c d Ac 0 cc [])
  | node {lev : Int} {A : Option Addr} {c : Nat} {Ac : Option Addr} {nc cc : Nat} {kids : List TT} (h1 : 1 ≤ lev ∧ lev ≤ 4) (h2 : 2 ≤ kids.length ∧ kids.length ≤ 256) (hl : ∀ k ∈ kids, k.lev < lev) (hk : ∀ k ∈ kids, CanT k) (hz : ∀ k, kids.getLast? = some k → k.val ≠ .mk 0 0 []) : CanT (.mk lev false A 0 c [] Ac nc cc kids)
end Go.Gx

/-
  Sums of terms, and their recursive form. Plain numbers; no program in sight.
-/
namespace Go.Gx
structure TM where
  c : Int
  m : M4
def M4.get (m : M4) : Nat → Int
  | 1 => m.a
  | 2 => m.b
  | 3 => m.c
  | 4 => m.d
  | _ => 0
def cmpM (x y : M4) : Int := if x.d ≠ y.d then cmpZ x.d y.d else if x.c ≠ y.c then cmpZ x.c y.c else if x.b ≠ y.b then cmpZ x.b y.b else cmpZ x.a y.a
def M4.lt (x y : M4) : Prop := x.d < y.d ∨ x.d = y.d ∧ (x.c < y.c ∨ x.c = y.c ∧ (x.b < y.b ∨ x.b = y.b ∧ x.a < y.a))
theorem cmpM_lt {x y : M4} : cmpM x y < 0 ↔ x.lt y := by
  unfold cmpM M4.lt cmpZ
  repeat' split
  all_goals omega
theorem M4.ext_ {x y : M4} (h1 : x.a = y.a) (h2 : x.b = y.b) (h3 : x.c = y.c) (h4 : x.d = y.d) : x = y := by
  cases x; cases y; simp_all
theorem cmpM_zero {x y : M4} : cmpM x y = 0 ↔ x = y := by
  constructor
  · intro h
    have h2 : x.d = y.d ∧ x.c = y.c ∧ x.b = y.b ∧ x.a = y.a := by
      unfold cmpM cmpZ at h
      repeat' split at h
      all_goals omega
    exact M4.ext_ h2.2.2.2 h2.2.2.1 h2.2.1 h2.1
  · rintro rfl; unfold cmpM cmpZ; simp
theorem M4.lt_irrefl (x : M4) : ¬ x.lt x := by unfold M4.lt; omega
theorem M4.lt_trans {x y z : M4} (h : x.lt y) (g : y.lt z) : x.lt z := by unfold M4.lt at *; omega
theorem M4.lt_tri (x y : M4) : x.lt y ∨ x = y ∨ y.lt x := by
  by_cases h : x = y
  · exact .inr (.inl h)
  · have h2 : ¬ (x.a = y.a ∧ x.b = y.b ∧ x.c = y.c ∧ x.d = y.d) := fun h3 => h (M4.ext_ h3.1 h3.2.1 h3.2.2.1 h3.2.2.2)
    unfold M4.lt; omega
def cofS : List TM → M4 → Int
  | [], _ => 0
  | t :: l, m => (if t.m = m then t.c else 0) + cofS l m
theorem cofS_perm {a b : List TM} (h : a.Perm b) (m : M4) : cofS a m = cofS b m := by
  induction h with
  | nil => rfl
  | cons t _ ih => simp only [cofS, ih]
  | swap t u l => simp only [cofS]; omega
  | trans _ _ h1 h2 => rw [h1, h2]
def CanS (l : List TM) : Prop := l.Pairwise (fun x y => y.m.lt x.m) ∧ ∀ t ∈ l, t.c ≠ 0
theorem cofS_none {l : List TM} {m : M4} (h : ∀ t ∈ l, t.m ≠ m) : cofS l m = 0 := by
  induction l with
  | nil => rfl
  | cons t l ih =>
    rw [cofS, if_neg (h t (List.mem_cons_self ..)), ih fun u hu => h u (List.mem_cons_of_mem _ hu)]; rfl
theorem CanS.head {t : TM} {l : List TM} (h : CanS (t :: l)) : cofS (t :: l) t.m = t.c ∧ ∀ u ∈ l, u.m.lt t.m := by
  have h1 := (List.pairwise_cons.1 h.1).1
  refine ⟨?_, h1⟩
  rw [cofS, if_pos rfl, cofS_none fun u hu e => ?_]
  · omega
  · have := h1 u hu; rw [e] at this; exact M4.lt_irrefl _ this
theorem CanS.tail {t : TM} {l : List TM} (h : CanS (t :: l)) : CanS l := ⟨(List.pairwise_cons.1 h.1).2, fun u hu => h.2 u (List.mem_cons_of_mem _ hu)⟩
theorem CanS.uniq : ∀ {a b : List TM}, CanS a → CanS b → (∀ m, cofS a m = cofS b m) → a = b
  | [], [], _, _, _ => rfl
  | [], t :: b, _, hb, h => by
    exfalso
    have h1 := h t.m
    rw [hb.head.1] at h1
    exact hb.2 t (List.mem_cons_self ..) h1.symm
  | t :: a, [], ha, _, h => by
    exfalso
    have h1 := h t.m
    rw [ha.head.1] at h1
    exact ha.2 t (List.mem_cons_self ..) h1
  | t :: a, u :: b, ha, hb, h => by
    have key : t.m = u.m := by
      rcases M4.lt_tri t.m u.m with h1 | h1 | h1
      · exfalso
        have h2 := h u.m
        rw [hb.head.1, cofS_none fun x hx e => ?_] at h2
        · exact hb.2 u (List.mem_cons_self ..) h2.symm
        · rcases List.mem_cons.1 hx with rfl | hx
          · rw [e] at h1; exact M4.lt_irrefl _ h1
          · have h3 := ha.head.2 x hx
            rw [e] at h3; exact M4.lt_irrefl _ (M4.lt_trans h3 h1)
      · exact h1
      · exfalso
        have h2 := h t.m
        rw [ha.head.1, cofS_none fun x hx e => ?_] at h2
        · exact ha.2 t (List.mem_cons_self ..) h2
        · rcases List.mem_cons.1 hx with rfl | hx
          · rw [e] at h1; exact M4.lt_irrefl _ h1
          · have h3 := hb.head.2 x hx
            rw [e] at h3; exact M4.lt_irrefl _ (M4.lt_trans h3 h1)
    have hc : t.c = u.c := by
      have h2 := h t.m
      rw [ha.head.1, key, hb.head.1] at h2; exact h2
    have htu : t = u := by cases t; cases u; simp_all
    subst htu
    rw [CanS.uniq ha.tail hb.tail fun m => by have h2 := h m; simp only [cofS] at h2; omega]
def zeroT : RT := .mk 0 0 []
def bldV : Nat → List TM → RT
  | 0, ts => match ts with
    | [] => zeroT
    | t :: _ => .mk 0 t.c []
  | L + 1, ts => match ts with
    | [] => zeroT
    | t :: r => if t.m.get (L + 1) = 0 then bldV L (t :: r) else .mk ((L + 1 : Nat) : Int) 0 ((List.range (t.m.get (L + 1) + 1).toNat).map fun e : Nat => bldV L ((t :: r).filter fun u => u.m.get (L + 1) = (e : Int)))
theorem bldV_nil : ∀ L, bldV L [] = zeroT
  | 0 => rfl
  | _ + 1 => rfl
def addG (l : List TM) (c : Int) (m : M4) : List TM := match l with
  | [] => [⟨c, m⟩]
  | t :: l => if t.m = m then ⟨t.c + c, m⟩ :: l else t :: addG l c m
theorem cofS_addG (l : List TM) (c : Int) (m x : M4) : cofS (addG l c m) x = cofS l x + if m = x then c else 0 := by
  induction l with
  | nil => simp only [addG, cofS]; omega
  | cons t l ih =>
    unfold addG
    split
    · rename_i h
      simp only [cofS, h]
      by_cases hx : m = x <;> simp [hx] <;> omega
    · simp only [cofS, ih]; omega
theorem addG_monos (l : List TM) (c : Int) (m : M4) : (addG l c m).map TM.m = if m ∈ l.map TM.m then l.map TM.m else l.map TM.m ++ [m] := by
  induction l with
  | nil => simp [addG]
  | cons t l ih =>
    unfold addG
    by_cases h : t.m = m
    · rw [if_pos h]; simp [h]
    · rw [if_neg h]
      simp only [List.map_cons, ih, List.mem_cons]
      by_cases h2 : m ∈ l.map TM.m
      · rw [if_pos h2, if_pos (.inr h2)]
      · rw [if_neg h2, if_neg (fun h3 => h3.elim (fun e => h e.symm) h2)]; rfl
end Go.Gx

/-
  Fractions, terms and coordinates in memory. No program in sight.
-/
namespace Go.Gx
open Go.RowKit
structure QE where
  g : Bool
  A : Option Addr
  n : Nat
  c : Nat
  d : List Nat
  Av : Option Addr
  nv : Nat
  cv : Nat
  dv : List Nat
def QE.cells (q : QE) : List Value := [.bool q.g, .slice q.A q.n q.c, .slice q.Av q.nv q.cv]
def QE.red (q : QE) : Prop := ICan q.g q.d ∧ Canon isZ q.dv ∧ 0 < val q.dv ∧ Nat.gcd (val q.d) (val q.dv) = 1
def QE.ok (M : Nat) (q : QE) : Prop := q.red ∧ val q.d < 2 ^ M ∧ val q.dv < 2 ^ M
def QE.num (q : QE) : Int := zval q.g q.d
def QE.den (q : QE) : Nat := val q.dv
def QE.v (q : QE) : Rat := rv q.num q.den
def QR (M : Nat) (w : World) (S : Nat → Prop) (q : QE) : Prop := (NatR w S q.A q.n q.c q.d ∧ NatR w S q.Av q.nv q.cv q.dv) ∧ q.ok M
section
variable {M M' : Nat} {w w' : World} {S S' G : Nat → Prop} {q : QE}
theorem QR.frmB (h : QR M w S q) (f : Frm G w w') (hd : ∀ b, b < w.heap.size → S b → ¬ G b) : QR M w' S q := ⟨⟨h.1.1.frmB f hd, h.1.2.frmB f hd⟩, h.2⟩
theorem QR.ext (h : QR M w S q) (f : Ext w w') : QR M w' S q := ⟨⟨h.1.1.ext f, h.1.2.ext f⟩, h.2⟩
theorem QR.sub (h : QR M w S q) (hs : ∀ b, b < w.heap.size → S b → S' b) : QR M w S' q := ⟨⟨h.1.1.sub hs, h.1.2.sub hs⟩, h.2⟩
theorem QR.both (h : QR M w S q) (g : QR M' w S' q) : QR M w (fun b => S b ∧ S' b) q := ⟨⟨h.1.1.both g.1.1, h.1.2.both g.1.2⟩, h.2⟩
theorem QR.le (h : QR M w S q) (hM : M ≤ M') : QR M' w S q := by
  have h1 : 2 ^ M ≤ 2 ^ M' := Nat.pow_le_pow_right (by decide) hM
  exact ⟨h.1, h.2.1, Nat.lt_of_lt_of_le h.2.2.1 h1, Nat.lt_of_lt_of_le h.2.2.2 h1⟩
theorem pow_bs (M : Nat) : 2 ^ M ≤ BS ^ (M / 32 + 1) := by
  have h : BS = 2 ^ 32 := by decide
  rw [h, ← Nat.pow_mul]
  exact Nat.pow_le_pow_right (by decide) (by omega)
theorem QR.lkm (h : QR M w S q) : q.n ≤ M / 32 + 1 ∧ q.nv ≤ M / 32 + 1 := by
  obtain ⟨⟨h1, h2⟩, ⟨h3, h4, _, _⟩, h5, h6⟩ := h
  have a := lt_val_len h3.1 (Nat.lt_of_lt_of_le h5 (pow_bs M))
  have b := lt_val_len h4 (Nat.lt_of_lt_of_le h6 (pow_bs M))
  rw [h1.len] at a; rw [h2.len] at b
  exact ⟨a, b⟩
end
def QK (M : Nat) : SK QE where
  k := 3
  pos := by decide
  cells := QE.cells
  len _ := rfl
  one _ := rfl
  R := QR M
  frmB h f hd := h.frmB f hd
  ext h f := h.ext f
  sub h hs := h.sub hs
  both h g := h.both g
theorem QE.v_def {q : QE} (h : q.red) : q.v = (q.num : Rat) / ((q.den : Int) : Rat) := by
  have h1 : 0 < q.den := h.2.2.1
  unfold QE.v rv; rw [rnum_of h1, rden_of h1]
theorem QE.den_pos {q : QE} (h : q.red) : (0 : Rat) < ((q.den : Int) : Rat) := by
  have h1 : 0 < q.den := h.2.2.1
  rw [show (0 : Rat) = ((0 : Int) : Rat) from rfl, Rat.intCast_lt_intCast]; omega
theorem div_lt {a b c d : Rat} (hb : 0 < b) (hd : 0 < d) : a / b < c / d ↔ a * d < c * b := by
  rw [Rat.div_lt_iff hb, show c / d * b = c * b / d by grind, Rat.lt_div_iff hd]
theorem div_eq {a b c d : Rat} (hb : 0 < b) (hd : 0 < d) : a / b = c / d ↔ a * d = c * b := by
  constructor
  · intro h; grind
  · intro h; grind
def cmpQ (a b : Rat) : Int := if a < b then -1 else if a = b then 0 else 1
theorem cmpQ_of {a b c d : Int} (hb : 0 < b) (hd : 0 < d) : cmpZ (a * d) (c * b) = cmpQ ((a : Rat) / (b : Rat)) ((c : Rat) / (d : Rat)) := by
  have hb' : (0 : Rat) < (b : Rat) := by rw [show (0 : Rat) = ((0 : Int) : Rat) from rfl, Rat.intCast_lt_intCast]; omega
  have hd' : (0 : Rat) < (d : Rat) := by rw [show (0 : Rat) = ((0 : Int) : Rat) from rfl, Rat.intCast_lt_intCast]; omega
  unfold cmpQ cmpZ
  simp only [div_lt hb' hd', div_eq hb' hd', ← Rat.intCast_mul, Rat.intCast_lt_intCast, Rat.intCast_inj]
  repeat' split
  all_goals omega
theorem QE.cmp {p q : QE} (hp : p.red) (hq : q.red) : cmpZ (rnum p.num p.den * (rden q.den : Int)) (rnum q.num q.den * (rden p.den : Int)) = cmpQ p.v q.v := by
  have h1 : 0 < p.den := hp.2.2.1
  have h2 : 0 < q.den := hq.2.2.1
  rw [QE.v_def hp, QE.v_def hq, ← cmpQ_of (by omega) (by omega), rnum_of h1, rnum_of h2, rden_of h1, rden_of h2]
theorem low_le {n N D : Int} {v : Nat} (hv : 0 < v) (hg : Nat.gcd n.natAbs v = 1) (hD : 0 < D) (h : n * D = N * (v : Int)) : n.natAbs ≤ N.natAbs ∧ v ≤ D.natAbs := by
  have h1 : n.natAbs * D.natAbs = N.natAbs * v := by have := congrArg Int.natAbs h; simpa [Int.natAbs_mul] using this
  have h2 : v ∣ D.natAbs := by
    have h3 : v ∣ n.natAbs * D.natAbs := by rw [h1]; exact Nat.dvd_mul_left _ _
    exact Nat.Coprime.dvd_of_dvd_mul_left (Nat.Coprime.symm hg) h3
  have h3 : v ≤ D.natAbs := Nat.le_of_dvd (by omega) h2
  refine ⟨?_, h3⟩
  obtain ⟨k, hk⟩ := h2
  have hk0 : 0 < k := by rcases Nat.eq_zero_or_pos k with h0 | h0; · subst h0; omega
                         · exact h0
  rw [hk, Nat.mul_left_comm, Nat.mul_comm N.natAbs] at h1
  have h4 : n.natAbs * k = N.natAbs := Nat.eq_of_mul_eq_mul_left hv h1
  rw [← h4]; exact Nat.le_mul_of_pos_right _ hk0
structure TD where
  g : Bool
  A : Option Addr
  n : Nat
  c : Nat
  d : List Nat
  m : M4
def TD.cells (t : TD) : List Value := [.bool t.g, .slice t.A t.n t.c, .int .i64 t.m.a, .int .i64 t.m.b, .int .i64 t.m.c, .int .i64 t.m.d]
def TD.t (x : TD) : TM := ⟨zval x.g x.d, x.m⟩
def TD.ok (x : TD) : Prop := ICan x.g x.d ∧ val x.d < 2 ^ 63 ∧ (0 ≤ x.m.a ∧ x.m.a ≤ 255) ∧ (0 ≤ x.m.b ∧ x.m.b ≤ 255) ∧ (0 ≤ x.m.c ∧ x.m.c ≤ 255) ∧ (0 ≤ x.m.d ∧ x.m.d ≤ 255)
def TMR (w : World) (S : Nat → Prop) (x : TD) : Prop := NatR w S x.A x.n x.c x.d ∧ x.ok
def TMK : SK TD where
  k := 6
  pos := by decide
  cells := TD.cells
  len _ := rfl
  one _ := rfl
  R := TMR
  frmB h f hd := ⟨h.1.frmB f hd, h.2⟩
  ext h f := ⟨h.1.ext f, h.2⟩
  sub h hs := ⟨h.1.sub hs, h.2⟩
  both h g := ⟨h.1.both g.1, h.2⟩
theorem TMR.frmB {w w' : World} {S G : Nat → Prop} {x : TD} (h : TMR w S x) (f : Frm G w w') (hd : ∀ b, b < w.heap.size → S b → ¬ G b) : TMR w' S x := TMK.frmB h f hd
def tms (l : List TD) : List TM := l.map TD.t
structure CE where
  t : TT
  lo : QE
  hi : QE
def CE.cells (x : CE) : List Value := x.t.cells ++ x.lo.cells ++ x.hi.cells
def CR (M : Nat) (w : World) (S : Nat → Prop) (x : CE) : Prop := (TreeR w S x.t ∧ CanT x.t) ∧ QR M w S x.lo ∧ QR M w S x.hi
def CK (M : Nat) : SK CE where
  k := 10
  pos := by decide
  cells := CE.cells
  len x := by obtain ⟨t, lo, hi⟩ := x; cases t; rfl
  one x := by obtain ⟨t, lo, hi⟩ := x; cases t; rfl
  R := CR M
  frmB h f hd := ⟨⟨h.1.1.frmB f hd, h.1.2⟩, h.2.1.frmB f hd, h.2.2.frmB f hd⟩
  ext h f := ⟨⟨h.1.1.ext f, h.1.2⟩, h.2.1.ext f, h.2.2.ext f⟩
  sub h hs := ⟨⟨h.1.1.sub hs, h.1.2⟩, h.2.1.sub hs, h.2.2.sub hs⟩
  both h g := ⟨⟨h.1.1.both g.1.1, h.1.2⟩, h.2.1.both g.2.1, h.2.2.both g.2.2⟩
theorem CR.ext {M : Nat} {w w' : World} {S : Nat → Prop} {x : CE} (h : CR M w S x) (f : Ext w w') : CR M w' S x := (CK M).ext h f
end Go.Gx

namespace Go.Gx
theorem sq2 {e : Nat → Value} {t1 t2 : Nat} {v1 v2 : Value} (h1 : e t1 = v1) (h2 : e t2 = v2) : ∃ r, e = upd (upd r t2 v2) t1 v1 := ⟨e, by rw [upd_id h2, upd_id h1]⟩
theorem sq3 {e : Nat → Value} {t1 t2 t3 : Nat} {v1 v2 v3 : Value} (h1 : e t1 = v1) (h2 : e t2 = v2) (h3 : e t3 = v3) : ∃ r, e = upd (upd (upd r t3 v3) t2 v2) t1 v1 := ⟨e, by rw [upd_id h3, upd_id h2, upd_id h1]⟩
theorem sq4 {e : Nat → Value} {t1 t2 t3 t4 : Nat} {v1 v2 v3 v4 : Value} (h1 : e t1 = v1) (h2 : e t2 = v2) (h3 : e t3 = v3) (h4 : e t4 = v4) : ∃ r, e = upd (upd (upd (upd r t4 v4) t3 v3) t2 v2) t1 v1 := ⟨e, by rw [upd_id h4, upd_id h3, upd_id h2, upd_id h1]⟩
theorem sq5 {e : Nat → Value} {t1 t2 t3 t4 t5 : Nat} {v1 v2 v3 v4 v5 : Value} (h1 : e t1 = v1) (h2 : e t2 = v2) (h3 : e t3 = v3) (h4 : e t4 = v4) (h5 : e t5 = v5) : ∃ r, e = upd (upd (upd (upd (upd r t5 v5) t4 v4) t3 v3) t2 v2) t1 v1 := ⟨e, by rw [upd_id h5, upd_id h4, upd_id h3, upd_id h2, upd_id h1]⟩
theorem sq6 {e : Nat → Value} {t1 t2 t3 t4 t5 t6 : Nat} {v1 v2 v3 v4 v5 v6 : Value} (h1 : e t1 = v1) (h2 : e t2 = v2) (h3 : e t3 = v3) (h4 : e t4 = v4) (h5 : e t5 = v5) (h6 : e t6 = v6) : ∃ r, e = upd (upd (upd (upd (upd (upd r t6 v6) t5 v5) t4 v4) t3 v3) t2 v2) t1 v1 := ⟨e, by rw [upd_id h6, upd_id h5, upd_id h4, upd_id h3, upd_id h2, upd_id h1]⟩
theorem sq7 {e : Nat → Value} {t1 t2 t3 t4 t5 t6 t7 : Nat} {v1 v2 v3 v4 v5 v6 v7 : Value} (h1 : e t1 = v1) (h2 : e t2 = v2) (h3 : e t3 = v3) (h4 : e t4 = v4) (h5 : e t5 = v5) (h6 : e t6 = v6) (h7 : e t7 = v7) : ∃ r, e = upd (upd (upd (upd (upd (upd (upd r t7 v7) t6 v6) t5 v5) t4 v4) t3 v3) t2 v2) t1 v1 := ⟨e, by rw [upd_id h7, upd_id h6, upd_id h5, upd_id h4, upd_id h3, upd_id h2, upd_id h1]⟩
theorem sq8 {e : Nat → Value} {t1 t2 t3 t4 t5 t6 t7 t8 : Nat} {v1 v2 v3 v4 v5 v6 v7 v8 : Value} (h1 : e t1 = v1) (h2 : e t2 = v2) (h3 : e t3 = v3) (h4 : e t4 = v4) (h5 : e t5 = v5) (h6 : e t6 = v6) (h7 : e t7 = v7) (h8 : e t8 = v8) : ∃ r, e = upd (upd (upd (upd (upd (upd (upd (upd r t8 v8) t7 v7) t6 v6) t5 v5) t4 v4) t3 v3) t2 v2) t1 v1 := ⟨e, by rw [upd_id h8, upd_id h7, upd_id h6, upd_id h5, upd_id h4, upd_id h3, upd_id h2, upd_id h1]⟩
theorem sq9 {e : Nat → Value} {t1 t2 t3 t4 t5 t6 t7 t8 t9 : Nat} {v1 v2 v3 v4 v5 v6 v7 v8 v9 : Value} (h1 : e t1 = v1) (h2 : e t2 = v2) (h3 : e t3 = v3) (h4 : e t4 = v4) (h5 : e t5 = v5) (h6 : e t6 = v6) (h7 : e t7 = v7) (h8 : e t8 = v8) (h9 : e t9 = v9) : ∃ r, e = upd (upd (upd (upd (upd (upd (upd (upd (upd r t9 v9) t8 v8) t7 v7) t6 v6) t5 v5) t4 v4) t3 v3) t2 v2) t1 v1 := ⟨e, by rw [upd_id h9, upd_id h8, upd_id h7, upd_id h6, upd_id h5, upd_id h4, upd_id h3, upd_id h2, upd_id h1]⟩
theorem sq10 {e : Nat → Value} {t1 t2 t3 t4 t5 t6 t7 t8 t9 t10 : Nat} {v1 v2 v3 v4 v5 v6 v7 v8 v9 v10 : Value} (h1 : e t1 = v1) (h2 : e t2 = v2) (h3 : e t3 = v3) (h4 : e t4 = v4) (h5 : e t5 = v5) (h6 : e t6 = v6) (h7 : e t7 = v7) (h8 : e t8 = v8) (h9 : e t9 = v9) (h10 : e t10 = v10) : ∃ r, e = upd (upd (upd (upd (upd (upd (upd (upd (upd (upd r t10 v10) t9 v9) t8 v8) t7 v7) t6 v6) t5 v5) t4 v4) t3 v3) t2 v2) t1 v1 := ⟨e, by rw [upd_id h10, upd_id h9, upd_id h8, upd_id h7, upd_id h6, upd_id h5, upd_id h4, upd_id h3, upd_id h2, upd_id h1]⟩
theorem sq11 {e : Nat → Value} {t1 t2 t3 t4 t5 t6 t7 t8 t9 t10 t11 : Nat} {v1 v2 v3 v4 v5 v6 v7 v8 v9 v10 v11 : Value} (h1 : e t1 = v1) (h2 : e t2 = v2) (h3 : e t3 = v3) (h4 : e t4 = v4) (h5 : e t5 = v5) (h6 : e t6 = v6) (h7 : e t7 = v7) (h8 : e t8 = v8) (h9 : e t9 = v9) (h10 : e t10 = v10) (h11 : e t11 = v11) : ∃ r, e = upd (upd (upd (upd (upd (upd (upd (upd (upd (upd (upd r t11 v11) t10 v10) t9 v9) t8 v8) t7 v7) t6 v6) t5 v5) t4 v4) t3 v3) t2 v2) t1 v1 := ⟨e, by rw [upd_id h11, upd_id h10, upd_id h9, upd_id h8, upd_id h7, upd_id h6, upd_id h5, upd_id h4, upd_id h3, upd_id h2, upd_id h1]⟩
theorem sq12 {e : Nat → Value} {t1 t2 t3 t4 t5 t6 t7 t8 t9 t10 t11 t12 : Nat} {v1 v2 v3 v4 v5 v6 v7 v8 v9 v10 v11 v12 : Value} (h1 : e t1 = v1) (h2 : e t2 = v2) (h3 : e t3 = v3) (h4 : e t4 = v4) (h5 : e t5 = v5) (h6 : e t6 = v6) (h7 : e t7 = v7) (h8 : e t8 = v8) (h9 : e t9 = v9) (h10 : e t10 = v10) (h11 : e t11 = v11) (h12 : e t12 = v12) : ∃ r, e = upd (upd (upd (upd (upd (upd (upd (upd (upd (upd (upd (upd r t12 v12) t11 v11) t10 v10) t9 v9) t8 v8) t7 v7) t6 v6) t5 v5) t4 v4) t3 v3) t2 v2) t1 v1 := ⟨e, by rw [upd_id h12, upd_id h11, upd_id h10, upd_id h9, upd_id h8, upd_id h7, upd_id h6, upd_id h5, upd_id h4, upd_id h3, upd_id h2, upd_id h1]⟩
theorem sq13 {e : Nat → Value} {t1 t2 t3 t4 t5 t6 t7 t8 t9 t10 t11 t12 t13 : Nat} {v1 v2 v3 v4 v5 v6 v7 v8 v9 v10 v11 v12 v13 : Value} (h1 : e t1 = v1) (h2 : e t2 = v2) (h3 : e t3 = v3) (h4 : e t4 = v4) (h5 : e t5 = v5) (h6 : e t6 = v6) (h7 : e t7 = v7) (h8 : e t8 = v8) (h9 : e t9 = v9) (h10 : e t10 = v10) (h11 : e t11 = v11) (h12 : e t12 = v12) (h13 : e t13 = v13) : ∃ r, e = upd (upd (upd (upd (upd (upd (upd (upd (upd (upd (upd (upd (upd r t13 v13) t12 v12) t11 v11) t10 v10) t9 v9) t8 v8) t7 v7) t6 v6) t5 v5) t4 v4) t3 v3) t2 v2) t1 v1 := ⟨e, by rw [upd_id h13, upd_id h12, upd_id h11, upd_id h10, upd_id h9, upd_id h8, upd_id h7, upd_id h6, upd_id h5, upd_id h4, upd_id h3, upd_id h2, upd_id h1]⟩
theorem sq14 {e : Nat → Value} {t1 t2 t3 t4 t5 t6 t7 t8 t9 t10 t11 t12 t13 t14 : Nat} {v1 v2 v3 v4 v5 v6 v7 v8 v9 v10 v11 v12 v13 v14 : Value} (h1 : e t1 = v1) (h2 : e t2 = v2) (h3 : e t3 = v3) (h4 : e t4 = v4) (h5 : e t5 = v5) (h6 : e t6 = v6) (h7 : e t7 = v7) (h8 : e t8 = v8) (h9 : e t9 = v9) (h10 : e t10 = v10) (h11 : e t11 = v11) (h12 : e t12 = v12) (h13 : e t13 = v13) (h14 : e t14 = v14) : ∃ r, e = upd (upd (upd (upd (upd (upd (upd (upd (upd (upd (upd (upd (upd (upd r t14 v14) t13 v13) t12 v12) t11 v11) t10 v10) t9 v9) t8 v8) t7 v7) t6 v6) t5 v5) t4 v4) t3 v3) t2 v2) t1 v1 := ⟨e, by rw [upd_id h14, upd_id h13, upd_id h12, upd_id h11, upd_id h10, upd_id h9, upd_id h8, upd_id h7, upd_id h6, upd_id h5, upd_id h4, upd_id h3, upd_id h2, upd_id h1]⟩
theorem sq15 {e : Nat → Value} {t1 t2 t3 t4 t5 t6 t7 t8 t9 t10 t11 t12 t13 t14 t15 : Nat} {v1 v2 v3 v4 v5 v6 v7 v8 v9 v10 v11 v12 v13 v14 v15 : Value} (h1 : e t1 = v1) (h2 : e t2 = v2) (h3 : e t3 = v3) (h4 : e t4 = v4) (h5 : e t5 = v5) (h6 : e t6 = v6) (h7 : e t7 = v7) (h8 : e t8 = v8) (h9 : e t9 = v9) (h10 : e t10 = v10) (h11 : e t11 = v11) (h12 : e t12 = v12) (h13 : e t13 = v13) (h14 : e t14 = v14) (h15 : e t15 = v15) : ∃ r, e = upd (upd (upd (upd (upd (upd (upd (upd (upd (upd (upd (upd (upd (upd (upd r t15 v15) t14 v14) t13 v13) t12 v12) t11 v11) t10 v10) t9 v9) t8 v8) t7 v7) t6 v6) t5 v5) t4 v4) t3 v3) t2 v2) t1 v1 := ⟨e, by rw [upd_id h15, upd_id h14, upd_id h13, upd_id h12, upd_id h11, upd_id h10, upd_id h9, upd_id h8, upd_id h7, upd_id h6, upd_id h5, upd_id h4, upd_id h3, upd_id h2, upd_id h1]⟩
theorem sq16 {e : Nat → Value} {t1 t2 t3 t4 t5 t6 t7 t8 t9 t10 t11 t12 t13 t14 t15 t16 : Nat} {v1 v2 v3 v4 v5 v6 v7 v8 v9 v10 v11 v12 v13 v14 v15 v16 : Value} (h1 : e t1 = v1) (h2 : e t2 = v2) (h3 : e t3 = v3) (h4 : e t4 = v4) (h5 : e t5 = v5) (h6 : e t6 = v6) (h7 : e t7 = v7) (h8 : e t8 = v8) (h9 : e t9 = v9) (h10 : e t10 = v10) (h11 : e t11 = v11) (h12 : e t12 = v12) (h13 : e t13 = v13) (h14 : e t14 = v14) (h15 : e t15 = v15) (h16 : e t16 = v16) : ∃ r, e = upd (upd (upd (upd (upd (upd (upd (upd (upd (upd (upd (upd (upd (upd (upd (upd r t16 v16) t15 v15) t14 v14) t13 v13) t12 v12) t11 v11) t10 v10) t9 v9) t8 v8) t7 v7) t6 v6) t5 v5) t4 v4) t3 v3) t2 v2) t1 v1 := ⟨e, by rw [upd_id h16, upd_id h15, upd_id h14, upd_id h13, upd_id h12, upd_id h11, upd_id h10, upd_id h9, upd_id h8, upd_id h7, upd_id h6, upd_id h5, upd_id h4, upd_id h3, upd_id h2, upd_id h1]⟩
theorem sq17 {e : Nat → Value} {t1 t2 t3 t4 t5 t6 t7 t8 t9 t10 t11 t12 t13 t14 t15 t16 t17 : Nat} {v1 v2 v3 v4 v5 v6 v7 v8 v9 v10 v11 v12 v13 v14 v15 v16 v17 : Value} (h1 : e t1 = v1) (h2 : e t2 = v2) (h3 : e t3 = v3) (h4 : e t4 = v4) (h5 : e t5 = v5) (h6 : e t6 = v6) (h7 : e t7 = v7) (h8 : e t8 = v8) (h9 : e t9 = v9) (h10 : e t10 = v10) (h11 : e t11 = v11) (h12 : e t12 = v12) (h13 : e t13 = v13) (h14 : e t14 = v14) (h15 : e t15 = v15) (h16 : e t16 = v16) (h17 : e t17 = v17) : ∃ r, e = upd (upd (upd (upd (upd (upd (upd (upd (upd (upd (upd (upd (upd (upd (upd (upd (upd r t17 v17) t16 v16) t15 v15) t14 v14) t13 v13) t12 v12) t11 v11) t10 v10) t9 v9) t8 v8) t7 v7) t6 v6) t5 v5) t4 v4) t3 v3) t2 v2) t1 v1 := ⟨e, by rw [upd_id h17, upd_id h16, upd_id h15, upd_id h14, upd_id h13, upd_id h12, upd_id h11, upd_id h10, upd_id h9, upd_id h8, upd_id h7, upd_id h6, upd_id h5, upd_id h4, upd_id h3, upd_id h2, upd_id h1]⟩
theorem sq18 {e : Nat → Value} {t1 t2 t3 t4 t5 t6 t7 t8 t9 t10 t11 t12 t13 t14 t15 t16 t17 t18 : Nat} {v1 v2 v3 v4 v5 v6 v7 v8 v9 v10 v11 v12 v13 v14 v15 v16 v17 v18 : Value} (h1 : e t1 = v1) (h2 : e t2 = v2) (h3 : e t3 = v3) (h4 : e t4 = v4) (h5 : e t5 = v5) (h6 : e t6 = v6) (h7 : e t7 = v7) (h8 : e t8 = v8) (h9 : e t9 = v9) (h10 : e t10 = v10) (h11 : e t11 = v11) (h12 : e t12 = v12) (h13 : e t13 = v13) (h14 : e t14 = v14) (h15 : e t15 = v15) (h16 : e t16 = v16) (h17 : e t17 = v17) (h18 : e t18 = v18) : ∃ r, e = upd (upd (upd (upd (upd (upd (upd (upd (upd (upd (upd (upd (upd (upd (upd (upd (upd (upd r t18 v18) t17 v17) t16 v16) t15 v15) t14 v14) t13 v13) t12 v12) t11 v11) t10 v10) t9 v9) t8 v8) t7 v7) t6 v6) t5 v5) t4 v4) t3 v3) t2 v2) t1 v1 := ⟨e, by rw [upd_id h18, upd_id h17, upd_id h16, upd_id h15, upd_id h14, upd_id h13, upd_id h12, upd_id h11, upd_id h10, upd_id h9, upd_id h8, upd_id h7, upd_id h6, upd_id h5, upd_id h4, upd_id h3, upd_id h2, upd_id h1]⟩
theorem sq19 {e : Nat → Value} {t1 t2 t3 t4 t5 t6 t7 t8 t9 t10 t11 t12 t13 t14 t15 t16 t17 t18 t19 : Nat} {v1 v2 v3 v4 v5 v6 v7 v8 v9 v10 v11 v12 v13 v14 v15 v16 v17 v18 v19 : Value} (h1 : e t1 = v1) (h2 : e t2 = v2) (h3 : e t3 = v3) (h4 : e t4 = v4) (h5 : e t5 = v5) (h6 : e t6 = v6) (h7 : e t7 = v7) (h8 : e t8 = v8) (h9 : e t9 = v9) (h10 : e t10 = v10) (h11 : e t11 = v11) (h12 : e t12 = v12) (h13 : e t13 = v13) (h14 : e t14 = v14) (h15 : e t15 = v15) (h16 : e t16 = v16) (h17 : e t17 = v17) (h18 : e t18 = v18) (h19 : e t19 = v19) : ∃ r, e = upd (upd (upd (upd (upd (upd (upd (upd (upd (upd (upd (upd (upd (upd (upd (upd (upd (upd (upd r t19 v19) t18 v18) t17 v17) t16 v16) t15 v15) t14 v14) t13 v13) t12 v12) t11 v11) t10 v10) t9 v9) t8 v8) t7 v7) t6 v6) t5 v5) t4 v4) t3 v3) t2 v2) t1 v1 := ⟨e, by rw [upd_id h19, upd_id h18, upd_id h17, upd_id h16, upd_id h15, upd_id h14, upd_id h13, upd_id h12, upd_id h11, upd_id h10, upd_id h9, upd_id h8, upd_id h7, upd_id h6, upd_id h5, upd_id h4, upd_id h3, upd_id h2, upd_id h1]⟩
theorem sq20 {e : Nat → Value} {t1 t2 t3 t4 t5 t6 t7 t8 t9 t10 t11 t12 t13 t14 t15 t16 t17 t18 t19 t20 : Nat} {v1 v2 v3 v4 v5 v6 v7 v8 v9 v10 v11 v12 v13 v14 v15 v16 v17 v18 v19 v20 : Value} (h1 : e t1 = v1) (h2 : e t2 = v2) (h3 : e t3 = v3) (h4 : e t4 = v4) (h5 : e t5 = v5) (h6 : e t6 = v6) (h7 : e t7 = v7) (h8 : e t8 = v8) (h9 : e t9 = v9) (h10 : e t10 = v10) (h11 : e t11 = v11) (h12 : e t12 = v12) (h13 : e t13 = v13) (h14 : e t14 = v14) (h15 : e t15 = v15) (h16 : e t16 = v16) (h17 : e t17 = v17) (h18 : e t18 = v18) (h19 : e t19 = v19) (h20 : e t20 = v20) : ∃ r, e = upd (upd (upd (upd (upd (upd (upd (upd (upd (upd (upd (upd (upd (upd (upd (upd (upd (upd (upd (upd r t20 v20) t19 v19) t18 v18) t17 v17) t16 v16) t15 v15) t14 v14) t13 v13) t12 v12) t11 v11) t10 v10) t9 v9) t8 v8) t7 v7) t6 v6) t5 v5) t4 v4) t3 v3) t2 v2) t1 v1 := ⟨e, by rw [upd_id h20, upd_id h19, upd_id h18, upd_id h17, upd_id h16, upd_id h15, upd_id h14, upd_id h13, upd_id h12, upd_id h11, upd_id h10, upd_id h9, upd_id h8, upd_id h7, upd_id h6, upd_id h5, upd_id h4, upd_id h3, upd_id h2, upd_id h1]⟩
end Go.Gx

namespace Go.Gx
theorem Qo {p : Prop} (h : p := by omega) : p := h
theorem Qn {n m : Nat} (h : Nat.ble n m = true := by rfl) : n ≤ m := Nat.le_of_ble_eq_true h
end Go.Gx
