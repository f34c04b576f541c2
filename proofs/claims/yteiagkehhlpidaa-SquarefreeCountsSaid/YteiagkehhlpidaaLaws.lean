/-
  Laws for walks: one law an operation, over the frames and worlds of Core. No program in sight.
-/
import Derived.Test.YteiagkehhlpidaaCore
import Derived.Laws.OwnMore
import Derived.Laws.CopyRow
import Derived.Laws.Cells
import Derived.Laws.Entries
import Derived.Laws.Small
import Derived.OwnWalk
namespace Go.Gx
open Go.RowKit
variable {dfs : List Deferred}

/-! ### control -/
section control
variable {P : Program} {Q : Exit → Act → World → Prop} {n : Nat} {e : Nat → Value} {w : World}

theorem cT {c : Operand} {x y : Code} (hc : ev n e c = .bool true) (h : x.wp P Q (mkA dfs n e) w) : (Code.cond c x y).wp P Q (mkA dfs n e) w :=
  wp_cond_true (by rw [eval_mkA]; exact hc) h
theorem cF {c : Operand} {x y : Code} (hc : ev n e c = .bool false) (h : y.wp P Q (mkA dfs n e) w) : (Code.cond c x y).wp P Q (mkA dfs n e) w :=
  wp_cond_false (by rw [eval_mkA]; exact hc) h
theorem cB {c : Operand} {x y : Code} (b : Bool) (hc : ev n e c = .bool b) (ht : b = true → x.wp P Q (mkA dfs n e) w) (hf : b = false → y.wp P Q (mkA dfs n e) w) :
    (Code.cond c x y).wp P Q (mkA dfs n e) w := by
  cases b
  · exact cF hc (hf rfl)
  · exact cT hc (ht rfl)

theorem xN {K : Act → World → Prop} {a : Act} (h : K a w) : Exit.then K Q .normal a w := h
theorem xE {K : Act → World → Prop} {a : Act} {id : Nat} (h : Q (.exit id) a w) : Exit.then K Q (.exit id) a w := h
theorem xR {K : Act → World → Prop} {a : Act} (h : Q .ret a w) : Exit.then K Q .ret a w := h
theorem sK {ops : Array Oper} {K R : Act → World → Prop} (hK : ∀ a w, R a w → K a w) (h : R (mkA dfs n e) w) : wpList P ops (Exit.then K Q) [] (mkA dfs n e) w := hK _ _ h
theorem rS {a : Act} {id : Nat} {l : List Oper} {y : Code} (h : ∀ K : Act → World → Prop, (∀ a w, y.wp P Q a w → K a w) → wpList P l.toArray (Exit.then K Q) l a w) :
    (Code.seq (.region id l.toArray false) y).wp P Q a w := wp_seq_k fun K hK => wp_region_lit (h K hK)
theorem bN {a : Act} {id : Nat} (h : Q .normal a w) : Exit.inBlock id Q .normal a w := h
theorem bR {a : Act} {id : Nat} (h : Q .ret a w) : Exit.inBlock id Q .ret a w := h
theorem bE {a : Act} {id : Nat} (h : Q .normal a w) : Exit.inBlock id Q (.exit id) a w := by
  show (if id = id then Q .normal a w else Q (.exit id) a w)
  rw [if_pos rfl]; exact h
theorem bO {a : Act} {id j : Nat} (hj : Nat.beq j id = false) (h : Q (.exit j) a w) : Exit.inBlock id Q (.exit j) a w := by
  show (if j = id then Q .normal a w else Q (.exit j) a w)
  rw [if_neg (fun e => by subst e; simp at hj)]; exact h

/-- What a loop owes at a round's end. -/
def Again (n : Nat) (I : Nat → (Nat → Value) → World → Prop) (m : Nat) (a : Act) (w : World) : Prop := ∃ m' e', a = mkA dfs n e' ∧ m' < m ∧ I m' e' w
theorem lLoop {c : Code} (I : Nat → (Nat → Value) → World → Prop) (m0 : Nat) (h0 : I m0 e w)
    (round : ∀ m e w, I m e w → c.wp P (Exit.then (Again (dfs := dfs) n I m) Q) (mkA dfs n e) w) : (Code.loop c).wp P Q (mkA dfs n e) w := by
  intro b k cs
  have key : ∀ m e w, I m e w → ∃ ex a' w', Q ex a' w' ∧ Arrives P (lone (b.at (mkA dfs n e) (.code c :: .inLoop c :: k)) cs w) b k cs ex a' w' := by
    intro m
    induction m using Nat.strongRecOn with
    | _ m ih =>
      intro e w hI
      obtain ⟨ex, a1, w1, hq, harr⟩ := round m e w hI b (.inLoop c :: k) cs
      cases ex with
      | normal =>
        obtain ⟨m', e', rfl, hlt, hi⟩ := hq
        obtain ⟨ex2, a2, w2, hq2, harr2⟩ := ih m' hlt e' w1 hi
        exact ⟨ex2, a2, w2, hq2, .of_steps (Steps.trans harr (.one step_inLoop)) harr2⟩
      | exit id => exact ⟨_, a1, w1, hq, .pass (x := .inLoop c) rfl (fun _ _ => .inl (by simp)) harr⟩
      | goto l => exact ⟨_, a1, w1, hq, .pass (x := .inLoop c) rfl (fun _ _ => .inl (by simp)) harr⟩
      | ret => exact ⟨_, a1, w1, hq, .pass (x := .inLoop c) rfl (fun _ _ => .inl (by simp)) harr⟩
      | panic ch => exact ⟨_, a1, w1, hq, .pass (x := .inLoop c) rfl (fun _ _ => .inl (by simp)) harr⟩
      | outgrown => exact ⟨_, a1, w1, hq, .pass (x := .inLoop c) rfl (fun _ _ => .inl (by simp)) harr⟩
  obtain ⟨ex, a', w', hq, harr⟩ := key _ e w h0
  exact ⟨ex, a', w', hq, .of_steps (.one step_loop) harr⟩
/-- Several ways meet: what holds then. -/
theorem wpJoin {c : Code} {a : Act} (J : (Nat → Value) → World → Prop) (h : c.wp P (fun ex a w => ex = .normal ∧ ∃ e, a = mkA dfs n e ∧ J e w) a w) (k : ∀ e w, J e w → Q .normal (mkA dfs n e) w) : c.wp P Q a w := by
  intro b kk cs
  obtain ⟨ex, a', w', ⟨rfl, e', rfl, hj⟩, harr⟩ := h b kk cs
  exact ⟨.normal, mkA dfs n e', w', k e' w' hj, harr⟩
theorem again {I : Nat → (Nat → Value) → World → Prop} {m : Nat} (m' : Nat) (hm : m' < m) (h : I m' e w) : Exit.then (Again (dfs := dfs) n I m) Q .normal (mkA dfs n e) w := ⟨m', e, rfl, hm, h⟩
theorem again0 {I : Nat → (Nat → Value) → World → Prop} {m : Nat} (m' : Nat) (hm : m' < m) (h : I m' e w) : Again (dfs := dfs) n I m (mkA dfs n e) w := ⟨m', e, rfl, hm, h⟩
end control

/-! ### calls and returns -/
/-- The call returns v, and φ v holds of the world behind it. -/
def Ret (φ : Value → World → Prop) : Ending → World → Prop := fun en w' => ∃ v, en = .returned v ∧ φ v w'
theorem Ret.mono {φ ψ : Value → World → Prop} {P : Program} {f : FuncId} {args : Array Value} {w : World} (h : Calls P f args w (Ret φ)) (k : ∀ v w', φ v w' → ψ v w') : Calls P f args w (Ret ψ) :=
  Calls.mono h fun _ w' ⟨v, he, hv⟩ => ⟨v, he, k v w' hv⟩

theorem enter {P : Program} {f : FuncId} {fn : Func} {c : Code} {n : Nat} {args : Array Value} {w : World} {R : Ending → World → Prop}
    (hf : P.funcs[f]? = some fn) (hb : fn.body = some c) (hn : fn.ntmps = n) (hs : Nat.ble args.size n = true)
    (h : c.wp P (bodyPost P fn R) (mkA [] n fun t => args.getD t undef) w) : Calls P f args w R := by
  refine calls_of_wp hf hb ?_
  rw [hn, enter_mkA n args (Nat.le_of_ble_eq_true hs)]
  exact h

/-- What a result variable holds. -/
def ResIs (P : Program) (n : Nat) (e : Nat → Value) (w : World) : ResultVar → Value → Prop
  | .tmp t, v => ev n e (.tmp t) = v
  | .cell a t, v => ∃ p, ev n e (.tmp a) = .pointer (some p) ∧ (loadVar t p).run P w = .ok v w

theorem getD2 (n : Nat) (e : Nat → Value) (t : Nat) : (mkA dfs n e).tmps[t]?.getD undef = ev n e (.tmp t) := by
  rw [← getD_mkA (dfs := dfs)]; simp
theorem asAddr_ptr (p : Addr) : asAddr (.pointer (some p)) = pure p := rfl
theorem res1 {P : Program} {w : World} (f : ResultVar → Sem Value) {r : ResultVar} {v : Value} (h : (f r).run P w = .ok v w) :
    ((do let vs ← #[r].mapM f; pure (if h : vs.size = 1 then vs[0] else .tuple vs)) : Sem Value).run P w = .ok v w := by
  simp [h]
theorem res2 {P : Program} {w : World} (f : ResultVar → Sem Value) {r s : ResultVar} {v u : Value} (h : (f r).run P w = .ok v w) (h' : (f s).run P w = .ok u w) :
    ((do let vs ← #[r, s].mapM f; pure (if h : vs.size = 1 then vs[0] else .tuple vs)) : Sem Value).run P w = .ok (.tuple #[v, u]) w := by
  simp [h, h']
theorem res3 {P : Program} {w : World} (f : ResultVar → Sem Value) {r s t : ResultVar} {v u x : Value} (h : (f r).run P w = .ok v w) (h' : (f s).run P w = .ok u w) (h'' : (f t).run P w = .ok x w) :
    ((do let vs ← #[r, s, t].mapM f; pure (if h : vs.size = 1 then vs[0] else .tuple vs)) : Sem Value).run P w = .ok (.tuple #[v, u, x]) w := by
  simp [h, h', h'']

theorem ret1 {P : Program} {fn : Func} {φ : Value → World → Prop} {n : Nat} {e : Nat → Value} {w : World} {r : ResultVar} (v : Value) (hr : fn.results = #[r]) (h1 : ResIs P n e w r v) (h : φ v w) :
    bodyPost P fn (Ret φ) .ret (mkA [] n e) w := by
  refine ⟨defers_mkA _ _, v, ?_, v, rfl, h⟩
  unfold results
  rw [hr]
  refine res1 _ ?_
  cases r with
  | tmp t => simp only [ResIs] at h1; simp [getD2, h1]
  | cell a t => obtain ⟨p, hp, hl⟩ := h1; simp [getD2, hp, asAddr_ptr, hl]

theorem ret2 {P : Program} {fn : Func} {φ : Value → World → Prop} {n : Nat} {e : Nat → Value} {w : World} {r s : ResultVar} (v u : Value) (hr : fn.results = #[r, s]) (h1 : ResIs P n e w r v) (h2 : ResIs P n e w s u)
    (h : φ (.tuple #[v, u]) w) : bodyPost P fn (Ret φ) .ret (mkA [] n e) w := by
  refine ⟨defers_mkA _ _, _, ?_, _, rfl, h⟩
  unfold results
  rw [hr]
  refine res2 _ ?_ ?_
  · cases r with
    | tmp t => simp only [ResIs] at h1; simp [getD2, h1]
    | cell a t => obtain ⟨p, hp, hl⟩ := h1; simp [getD2, hp, asAddr_ptr, hl]
  · cases s with
    | tmp t => simp only [ResIs] at h2; simp [getD2, h2]
    | cell a t => obtain ⟨p, hp, hl⟩ := h2; simp [getD2, hp, asAddr_ptr, hl]

theorem ret3 {P : Program} {fn : Func} {φ : Value → World → Prop} {n : Nat} {e : Nat → Value} {w : World} {r s t : ResultVar} (v u x : Value) (hr : fn.results = #[r, s, t]) (h1 : ResIs P n e w r v) (h2 : ResIs P n e w s u) (h3 : ResIs P n e w t x)
    (h : φ (.tuple #[v, u, x]) w) : bodyPost P fn (Ret φ) .ret (mkA [] n e) w := by
  refine ⟨defers_mkA _ _, _, ?_, _, rfl, h⟩
  unfold results
  rw [hr]
  refine res3 _ ?_ ?_ ?_
  · cases r with
    | tmp t => simp only [ResIs] at h1; simp [getD2, h1]
    | cell a t => obtain ⟨p, hp, hl⟩ := h1; simp [getD2, hp, asAddr_ptr, hl]
  · cases s with
    | tmp t => simp only [ResIs] at h2; simp [getD2, h2]
    | cell a t => obtain ⟨p, hp, hl⟩ := h2; simp [getD2, hp, asAddr_ptr, hl]
  · cases t with
    | tmp t => simp only [ResIs] at h3; simp [getD2, h3]
    | cell a t => obtain ⟨p, hp, hl⟩ := h3; simp [getD2, hp, asAddr_ptr, hl]

theorem ret0 {P : Program} {fn : Func} {φ : Value → World → Prop} {n : Nat} {e : Nat → Value} {w : World} (hr : fn.results = #[]) (h : φ (.tuple #[]) w) : bodyPost P fn (Ret φ) .ret (mkA [] n e) w := by
  refine ⟨defers_mkA _ _, _, ?_, _, rfl, h⟩
  unfold results
  rw [hr]
  simp
theorem end0 {P : Program} {fn : Func} {φ : Value → World → Prop} {n : Nat} {e : Nat → Value} {w : World} (hr : fn.results = #[]) (h : φ (.tuple #[]) w) : bodyPost P fn (Ret φ) .normal (mkA [] n e) w := by
  refine ⟨defers_mkA _ _, _, ?_, _, rfl, h⟩
  unfold results
  rw [hr]
  simp

/-- Function f has a body. -/
def Callable (P : Program) (f : FuncId) : Prop := ∀ (args : Array Value) (w : World), (callFunc f args).run P w = .ok (.enter f args) w
theorem callable_of {P : Program} {f : FuncId} {fn : Func} (hf : P.funcs[f]? = some fn) (hn : (fn.name == "runtime.NumGoroutine") = false) (hb : fn.body.isNone = false) : Callable P f := by
  intro args w
  have h1 : ¬ fn.name = "runtime.NumGoroutine" := by simpa using hn
  have h2 : ¬ fn.body = none := by intro h; rw [h] at hb; cases hb
  simp [callFunc, program, Sem.run, hf, h1, h2]

section ops
variable {P : Program} {n : Nat} {e : Nat → Value} {w : World} {K : Act → World → Prop} {Q : Exit → Act → World → Prop} {ty : TypeId} {pos : String} {af : Array Edge} {gd : Option (Nat × Bool)}

/-- A call, by its contract. -/
theorem oCall {φ : Value → World → Prop} {d : Nat} {x : Operand} {xs : List Operand} {ts : Array TypeId} {f : FuncId} {fs cs args : List Value} (hx : ev n e x = .func (.func f) fs.toArray cs.toArray) (hc : Callable P f)
    (h : Calls P f args.toArray w (Ret φ)) (ha : fs ++ (xs.map (ev n e) ++ cs) = args) (k : ∀ v w', φ v w' → K (mkA dfs n (upd e d v)) w') :
    OpW P ⟨some d, .call { callee := .value x, args := xs.toArray, argTypes := ts }, ty, pos, af, gd⟩ (mkA dfs n e) w K Q := by
  have ha' : fs.toArray ++ xs.toArray.map (ev n e) ++ cs.toArray = args.toArray := by rw [← ha]; simp
  unfold OpW Oper.wp
  rw [eval_mkA]
  simp only [execOp, resolve, hx, Deferred.ofValue, invoke, Sem.run_bind, Sem.run_pure, Result.andThen_ok, ha', hc args.toArray w, Oper.upon]
  exact Calls.mono h fun en w' ⟨v, he, hv⟩ => by subst he; simp only [put_mkA]; exact k v w' hv
theorem oCall0 {φ : Value → World → Prop} {x : Operand} {xs : List Operand} {ts : Array TypeId} {f : FuncId} {fs cs args : List Value} (hx : ev n e x = .func (.func f) fs.toArray cs.toArray) (hc : Callable P f)
    (h : Calls P f args.toArray w (Ret φ)) (ha : fs ++ (xs.map (ev n e) ++ cs) = args) (k : ∀ v w', φ v w' → K (mkA dfs n e) w') :
    OpW P ⟨none, .call { callee := .value x, args := xs.toArray, argTypes := ts }, ty, pos, af, gd⟩ (mkA dfs n e) w K Q := by
  have ha' : fs.toArray ++ xs.toArray.map (ev n e) ++ cs.toArray = args.toArray := by rw [← ha]; simp
  unfold OpW Oper.wp
  rw [eval_mkA]
  simp only [execOp, resolve, hx, Deferred.ofValue, invoke, Sem.run_bind, Sem.run_pure, Result.andThen_ok, ha', hc args.toArray w, Oper.upon]
  exact Calls.mono h fun en w' ⟨v, he, hv⟩ => by subst he; simp only [put_none]; exact k v w' hv

/-! ### memory -/
theorem oBox {d : Nat} {t : TypeId} {x : Operand} {v : Value} (cs : List Value) (hx : ev n e x = v) (hc : v.cells = cs.toArray)
    (k : ∀ g w', g = w.heap.size → Ext w w' → w'.heap.size = g + 1 → Blk w' g t cs → K (mkA dfs n (upd e d (.pointer (some ⟨g, 0, none⟩)))) w') :
    OpW P ⟨some d, .box t x, ty, pos, af, gd⟩ (mkA dfs n e) w K Q := by
  unfold OpW Oper.wp
  rw [eval_mkA]
  have := k w.heap.size (w.alloc (.cells cs.toArray t)) rfl (alloc_ext _ _) (by simp) (Blk.new _ _ _)
  simp only [execOp, hx, Instr.box, newVar, newRow, newObj, hc, Sem.run_bind, Sem.run_pure, Result.andThen_ok, Sem.run, Oper.upon, put_mkA]
  exact this

theorem oAlloc {d : Nat} {t : TypeId} {z : Value} (cs : List Value) (hz : ∀ w, (zeroValue t).run P w = .ok z w) (hc : z.cells = cs.toArray)
    (k : ∀ g w', g = w.heap.size → Ext w w' → w'.heap.size = g + 1 → Blk w' g t cs → K (mkA dfs n (upd e d (.pointer (some ⟨g, 0, none⟩)))) w') :
    OpW P ⟨some d, .alloc t, ty, pos, af, gd⟩ (mkA dfs n e) w K Q := by
  unfold OpW Oper.wp
  rw [eval_mkA]
  have := k w.heap.size (w.alloc (.cells cs.toArray t)) rfl (alloc_ext _ _) (by simp) (Blk.new _ _ _)
  simp only [execOp, Instr.alloc, hz w, newVar, newRow, newObj, hc, Sem.run_bind, Sem.run_pure, Result.andThen_ok, Sem.run, Oper.upon, put_mkA]
  exact this

/-- A store of a value into a block of the call's own. -/
theorem oStore {t t' : TypeId} {a x : Operand} {g off : Nat} {v : Value} {cs : List Value} (vs : List Value) (ha : ev n e a = .pointer (some ⟨g, off, none⟩)) (hx : ev n e x = v)
    (hv : v.cells = vs.toArray) (hs : ∀ w, (sizeOf t).run P w = .ok vs.length w) (h1 : vs.all Value.oneCell' = true) (hb : Blk w g t' cs) (hl : off + vs.length ≤ cs.length)
    (k : ∀ w', Frm (· = g) w w' → w'.heap.size = w.heap.size → Blk w' g t' (cs.take off ++ vs ++ cs.drop (off + vs.length)) → K (mkA dfs n e) w') :
    OpW P ⟨none, .store t a x, ty, pos, af, gd⟩ (mkA dfs n e) w K Q := by
  unfold OpW Oper.wp
  rw [eval_mkA]
  have hst := run_storeCells_at P g off t' vs 0 cs.toArray w hb (by simpa using hl) (List.all_eq_true.1 h1)
  simp only [Nat.add_zero] at hst
  simp only [execOp, ha, hx, Instr.storeAt, Instr.sureAddr, storeVar, hv, hs w, Sem.run_bind, Sem.run_pure, Result.andThen_ok, List.size_toArray, ne_eq, not_true_eq_false, if_false, hst, Oper.upon, put_none]
  refine k _ ⟨rfl, rfl, rfl, by simp [World.setRow], fun j _ hj => ?_⟩ (by simp [World.setRow]) ?_
  · simp only [World.setRow, Array.getElem?_modify]
    rw [if_neg (fun h => hj h.symm)]
  · have := setRow_heap w g cs.toArray (cs.take off ++ vs ++ cs.drop (off + vs.length)).toArray t' (0, 0) hb
    exact this

/-- A store into one cell. -/
theorem oStore1 {t t' : TypeId} {a x : Operand} {g off : Nat} {v : Value} {cs : List Value} (ha : ev n e a = .pointer (some ⟨g, off, none⟩)) (hx : ev n e x = v)
    (h1 : v.oneCell' = true) (hs : ∀ w, (sizeOf t).run P w = .ok 1 w) (hb : Blk w g t' cs) (hl : off < cs.length)
    (k : ∀ w', Frm (· = g) w w' → w'.heap.size = w.heap.size → Blk w' g t' (cs.set off v) → K (mkA dfs n e) w') :
    OpW P ⟨none, .store t a x, ty, pos, af, gd⟩ (mkA dfs n e) w K Q := by
  have hv : v.cells = [v].toArray := by cases v <;> first | rfl | (simp [Value.oneCell'] at h1)
  refine oStore [v] ha hx hv hs (by simp [h1]) hb (by simp; omega) ?_
  intro w' h2 h3 h4
  refine k w' h2 h3 ?_
  have : cs.take off ++ [v] ++ cs.drop (off + [v].length) = cs.set off v := by
    rw [List.set_eq_take_append_cons_drop, if_pos hl]; simp
  rw [this] at h4
  exact h4

/-- make([]T, n). -/
theorem oMake {d : Nat} {t el : TypeId} {l c : Operand} {k1 k2 : IntKind} {z : Value} {size bytes : Nat} (m : Nat) (ht : P.underlying t = some (.slice el))
    (hi : (P.info? el).map (fun i => (i.zero, i.size, i.bytes)) = some (some z, size, bytes)) (hl : ev n e l = .int k1 (m : Int)) (hc : ev n e c = .int k2 (m : Int))
    (hb : bytes * m ≤ 281474976710656) (hm : m ≤ 9223372036854775807)
    (k : ∀ g w', g = w.heap.size → Ext w w' → w'.heap.size = g + 1 → Blk w' g el (madeCells z.cells (m * size)).toList → K (mkA dfs n (upd e d (.slice (some ⟨g, 0, none⟩) m m))) w') :
    OpW P ⟨some d, .makeSlice t l c, ty, pos, af, gd⟩ (mkA dfs n e) w K Q := by
  obtain ⟨i, hi', hz, rfl, rfl⟩ := info_parts hi
  have hb' : (i.bytes : Int) * (m : Int) ≤ 281474976710656 := by
    have h : ((i.bytes * m : Nat) : Int) ≤ 281474976710656 := by omega
    rwa [Int.natCast_mul] at h
  have hr := run_make (P := P) w t el i z ht hi' hz k1 k2 m m (by omega) (Int.le_refl _) hb' (by omega)
  simp only [Int.toNat_natCast] at hr
  unfold OpW Oper.wp
  rw [eval_mkA]
  simp only [execOp, hl, hc, Sem.run_bind, hr, Sem.run_pure, Result.andThen_ok, Oper.upon, put_mkA]
  refine k _ _ rfl (alloc_ext _ _) (by simp) ?_
  have := Blk.new w el (madeCells z.cells (m * i.size)).toList
  simpa using this

/-- append of what lies in memory to a slice of the call's own. -/
theorem oAppend {d : Nat} {s x : Operand} {t el : TypeId} {z : Value} {size bytes : Nat} {base : Nat} {v : Value} {m : Nat} {xs : List Value} {a : Addr} {l c : Nat} (news : List Value)
    (ht : P.underlying t = some (.slice el)) (hi : (P.info? el).map (fun i => (i.zero, i.size, i.bytes)) = some (some z, size, bytes)) (hzs : z.cells.size = size) (hsz : 0 < size)
    (hs : ev n e s = v) (hx : ev n e x = .slice (some a) l c) (hown : w.ownsRow base el size v m xs) (hl : news.length = l * size)
    (hnews : ∀ (j : Nat) u, news[j]? = some u → w.cell? (a.add j) = some u) (h1 : ∀ u ∈ news, u.oneCell' = true) (h63 : m + l ≤ 9223372036854775807) (hbytes : (m + l) * bytes ≤ 140737488355328) (hbase : base ≤ w.heap.size)
    (k : ∀ v' w', w'.ownsRow base el size v' (m + l) (xs ++ news) → Frm (fun g => v.ownBlock = some g) w w' → K (mkA dfs n (upd e d v')) w') :
    OpW P ⟨some d, .call { callee := .builtin .append, args := #[s, x], argTypes := #[t, t] }, ty, pos, af, gd⟩ (mkA dfs n e) w K Q := by
  obtain ⟨i, hi', hz, hsize, hby⟩ := info_parts hi
  obtain ⟨v', w', hrun, h2, h3, _⟩ := run_append_own (P := P) w base t ty el i z size bytes ht hi' hz hsize hby hzs hsz v m xs hown a l c news hl hnews h1 (by simp [maxLen]; omega) hbytes hbase
  unfold OpW Oper.wp
  rw [eval_mkA]
  simp only [execOp, resolve, invoke, builtin, Sem.run_bind, Sem.run_pure, Result.andThen_ok, List.map_toArray, List.map_cons, List.map_nil, hs, hx, hrun, Oper.upon, put_mkA]
  exact k v' w' h2 ⟨h3.os, h3.tape, h3.output, h3.size, fun j hj hg => h3.block j hj fun h => hg h.symm⟩

/-! ### values -/
theorem addr_add (b o i : Nat) : (⟨b, o, none⟩ : Addr).add i = ⟨b, o + i, none⟩ := by
  unfold Addr.add; split <;> simp_all

def oneB (P : Program) (t : TypeId) : Bool := match P.underlying t with | some (.struct _) | some (.array _ _) | none => false | _ => true
theorem run_isAgg_one {t : TypeId} (h : oneB P t = true) (w : World) : (isAgg t).run P w = .ok false w := by
  unfold oneB at h
  cases hu : P.underlying t with
  | none => simp [hu] at h
  | some d => cases d <;> simp [hu] at h <;> simp [isAgg, run_underlying hu]
def aggB (P : Program) (t : TypeId) : Bool := match P.underlying t with | some (.struct _) | some (.array _ _) => true | _ => false
theorem run_isAgg_agg {t : TypeId} (h : aggB P t = true) (w : World) : (isAgg t).run P w = .ok true w := by
  unfold aggB at h
  cases hu : P.underlying t with
  | none => simp [hu] at h
  | some d => cases d <;> simp [hu] at h <;> simp [isAgg, run_underlying hu]

theorem run_load_cell {p : Addr} {v : Value} (h : w.cell? p = some v) : (load p).run P w = .ok v w := by simp [load, Sem.run, h]
theorem run_loadVar1 {t : TypeId} {p : Addr} {v : Value} (ht : oneB P t = true) (h : w.cell? p = some v) : (loadVar t p).run P w = .ok v w := by
  have h1 := run_isAgg_one ht w
  have h2 := run_load_cell (P := P) h
  simp only [loadVar, Sem.run_bind, h1, Result.andThen_ok, Bool.false_eq_true, if_false, h2]
theorem run_loadVarA {t : TypeId} {p : Addr} {cs : List Value} (ht : aggB P t = true) (hs : ∀ w, (sizeOf t).run P w = .ok cs.length w) (h : ∀ (j : Nat) v, cs[j]? = some v → w.cell? (p.add j) = some v) :
    (loadVar t p).run P w = .ok (.agg cs.toArray) w := by
  simp [loadVar, run_isAgg_agg ht, hs, run_loadCells_list w p cs h]

/-- A load of one cell. -/
theorem evLoad {d : Option Nat} {t : TypeId} {a : Operand} {p : Addr} {v : Value} (ht : oneB P t = true) (ha : ev n e a = .pointer (some p)) (hc : w.cell? p = some v) :
    Ev P n e ⟨d, .load t a, ty, pos, af, gd⟩ w v := by
  simp [Ev, execOp, ha, Instr.loadAt, Instr.sureAddr, run_loadVar1 ht hc]
/-- A load of a struct. -/
theorem evLoadA {d : Option Nat} {t : TypeId} {a : Operand} {p : Addr} (cs : List Value) (ht : aggB P t = true) (hs : ∀ w, (sizeOf t).run P w = .ok cs.length w) (ha : ev n e a = .pointer (some p))
    (hc : ∀ (j : Nat) v, cs[j]? = some v → w.cell? (p.add j) = some v) : Ev P n e ⟨d, .load t a, ty, pos, af, gd⟩ w (.agg cs.toArray) := by
  simp [Ev, execOp, ha, Instr.loadAt, Instr.sureAddr, run_loadVarA ht hs hc]

/-- &s[i]. -/
theorem evIndex {d : Option Nat} {t el : TypeId} {x ix : Operand} {b off len cap size : Nat} {k : IntKind} {z : Int} (i : Nat) (ht : P.underlying t = some (.slice el)) (hs : ∀ w, (sizeOf el).run P w = .ok size w)
    (hx : ev n e x = .slice (some ⟨b, off, none⟩) len cap) (hi : ev n e ix = .int k z) (hz : z = (i : Int)) (hlt : i < len) (p : Nat) (hp : off + i * size = p) :
    Ev P n e ⟨d, .indexAddr t x ix, ty, pos, af, gd⟩ w (.pointer (some ⟨b, p, none⟩)) := by
  subst hz hp
  have h1 : (0 : Int) ≤ (i : Int) ∧ (i : Int) < (len : Int) := ⟨by omega, by omega⟩
  simp [Ev, execOp, hx, hi, Instr.indexAt, asIntOf, run_underlying ht, hs, hlt, addr_add]

theorem evIx {d : Option Nat} {t el : TypeId} {x ix : Operand} {b off len cap size : Nat} {k : IntKind} {z : Int} (i : Nat) (ht : P.underlying t = some (.slice el)) (hs : ∀ w, (sizeOf el).run P w = .ok size w)
    (hx : ev n e x = .slice (some ⟨b, off, none⟩) len cap) (hi : ev n e ix = .int k z) (p : Nat) (hz : z = (i : Int) := by omega) (hlt : i < len := by omega) (hp : off + i * size = p := by omega) :
    Ev P n e ⟨d, .indexAddr t x ix, ty, pos, af, gd⟩ w (.pointer (some ⟨b, p, none⟩)) := evIndex i ht hs hx hi hz hlt p hp
/-- s[:h], s[l:], s[l:h] of a slice. -/
theorem evSlice {d : Option Nat} {t el : TypeId} {x : Operand} {lo hi : Option Operand} {A : Option Addr} {len cap size : Nat} (l h : Nat) (ht : P.underlying t = some (.slice el)) (hs : ∀ w, (sizeOf el).run P w = .ok size w)
    (hx : ev n e x = .slice A len cap)
    (hlo : match lo with | none => l = 0 | some y => ∃ k z, ev n e y = .int k z ∧ z = (l : Int))
    (hhi : match hi with | none => h = len | some y => ∃ k z, ev n e y = .int k z ∧ z = (h : Int))
    (h1 : l ≤ h) (h2 : h ≤ cap) :
    Ev P n e ⟨d, .slice t x lo hi none, ty, pos, af, gd⟩ w (.slice (if cap = l then A else A.map (·.add (l * size))) (h - l) (cap - l)) := by
  have e1 : ((h : Int) ≤ (cap : Int)) := by omega
  have e2 : ((l : Int) ≤ (h : Int)) := by omega
  cases lo with
  | none =>
    cases hi with
    | none =>
      subst hlo hhi
      simp [Ev, execOp, hx, Instr.sliceAt, Instr.slice, Instr.sliceBounds, run_underlying ht, hs]
    | some y =>
      obtain ⟨k, z, hy, rfl⟩ := hhi
      subst hlo
      simp [Ev, execOp, hx, hy, Instr.sliceAt, Instr.slice, Instr.sliceBounds, Instr.sliceBound, asIntOf, run_underlying ht, hs, h2]
  | some y =>
    obtain ⟨k, z, hy, rfl⟩ := hlo
    cases hi with
    | none =>
      subst hhi
      simp [Ev, execOp, hx, hy, Instr.sliceAt, Instr.slice, Instr.sliceBounds, Instr.sliceBound, asIntOf, run_underlying ht, hs, h1]
    | some y' =>
      obtain ⟨k', z', hy', rfl⟩ := hhi
      simp [Ev, execOp, hx, hy, hy', Instr.sliceAt, Instr.slice, Instr.sliceBounds, Instr.sliceBound, asIntOf, run_underlying ht, hs, h1, h2]

theorem evArith {d : Option Nat} {op : BinOp} {t t' : TypeId} {x y : Operand} {k : IntKind} {a b : Int} (z : Int) (hx : ev n e x = .int k a) (hy : ev n e y = .int k b)
    (h : (op = .add ∧ k.wrap (a + b) = z) ∨ (op = .sub ∧ k.wrap (a - b) = z) ∨ (op = .mul ∧ k.wrap (a * b) = z)) :
    Ev P n e ⟨d, .binOp op t x y t', ty, pos, af, gd⟩ w (.int k z) := by
  rcases h with ⟨rfl, h⟩ | ⟨rfl, h⟩ | ⟨rfl, h⟩ <;> simp [Ev, execOp, hx, hy, eqGuard, binOp, Op.intArith, h]
theorem evAdd {d : Option Nat} {t t' : TypeId} {x y : Operand} {k : IntKind} {a b : Int} (z : Int) (hx : ev n e x = .int k a) (hy : ev n e y = .int k b) (h : k.wrap (a + b) = z) :
    Ev P n e ⟨d, .binOp .add t x y t', ty, pos, af, gd⟩ w (.int k z) := evArith z hx hy (.inl ⟨rfl, h⟩)
theorem evSub {d : Option Nat} {t t' : TypeId} {x y : Operand} {k : IntKind} {a b : Int} (z : Int) (hx : ev n e x = .int k a) (hy : ev n e y = .int k b) (h : k.wrap (a - b) = z) :
    Ev P n e ⟨d, .binOp .sub t x y t', ty, pos, af, gd⟩ w (.int k z) := evArith z hx hy (.inr (.inl ⟨rfl, h⟩))
theorem evMul {d : Option Nat} {t t' : TypeId} {x y : Operand} {k : IntKind} {a b : Int} (z : Int) (hx : ev n e x = .int k a) (hy : ev n e y = .int k b) (h : k.wrap (a * b) = z) :
    Ev P n e ⟨d, .binOp .mul t x y t', ty, pos, af, gd⟩ w (.int k z) := evArith z hx hy (.inr (.inr ⟨rfl, h⟩))
theorem evQuo {d : Option Nat} {t t' : TypeId} {x y : Operand} {k : IntKind} {a b : Int} (z : Int) (hx : ev n e x = .int k a) (hy : ev n e y = .int k b) (hb : b ≠ 0) (h : k.wrap (a.tdiv b) = z) :
    Ev P n e ⟨d, .binOp .quo t x y t', ty, pos, af, gd⟩ w (.int k z) := by
  simp [Ev, execOp, hx, hy, eqGuard, binOp, Op.intDiv, hb, h]
theorem evRem {d : Option Nat} {t t' : TypeId} {x y : Operand} {k : IntKind} {a b : Int} (z : Int) (hx : ev n e x = .int k a) (hy : ev n e y = .int k b) (hb : b ≠ 0) (h : a.tmod b = z) :
    Ev P n e ⟨d, .binOp .rem t x y t', ty, pos, af, gd⟩ w (.int k z) := by
  simp [Ev, execOp, hx, hy, eqGuard, binOp, Op.intDiv, hb, h]
theorem evLss {d : Option Nat} {t t' : TypeId} {x y : Operand} {k : IntKind} {a b : Int} (r : Bool) (hx : ev n e x = .int k a) (hy : ev n e y = .int k b) (h : decide (a < b) = r) :
    Ev P n e ⟨d, .binOp .lss t x y t', ty, pos, af, gd⟩ w (.bool r) := by
  subst h; simp [Ev, execOp, hx, hy, eqGuard, binOp, Op.intCmp]
theorem evLeq {d : Option Nat} {t t' : TypeId} {x y : Operand} {k : IntKind} {a b : Int} (r : Bool) (hx : ev n e x = .int k a) (hy : ev n e y = .int k b) (h : decide (a ≤ b) = r) :
    Ev P n e ⟨d, .binOp .leq t x y t', ty, pos, af, gd⟩ w (.bool r) := by
  subst h; simp [Ev, execOp, hx, hy, eqGuard, binOp, Op.intCmp]
theorem evGtr {d : Option Nat} {t t' : TypeId} {x y : Operand} {k : IntKind} {a b : Int} (r : Bool) (hx : ev n e x = .int k a) (hy : ev n e y = .int k b) (h : decide (a > b) = r) :
    Ev P n e ⟨d, .binOp .gtr t x y t', ty, pos, af, gd⟩ w (.bool r) := by
  subst h; simp [Ev, execOp, hx, hy, eqGuard, binOp, Op.intCmp]
theorem evGeq {d : Option Nat} {t t' : TypeId} {x y : Operand} {k : IntKind} {a b : Int} (r : Bool) (hx : ev n e x = .int k a) (hy : ev n e y = .int k b) (h : decide (a ≥ b) = r) :
    Ev P n e ⟨d, .binOp .geq t x y t', ty, pos, af, gd⟩ w (.bool r) := by
  subst h; simp [Ev, execOp, hx, hy, eqGuard, binOp, Op.intCmp]
theorem evEql {d : Option Nat} {t t' : TypeId} {x y : Operand} {k : IntKind} {a b : Int} (r : Bool) (hx : ev n e x = .int k a) (hy : ev n e y = .int k b) (h : decide (a = b) = r) :
    Ev P n e ⟨d, .binOp .eql t x y t', ty, pos, af, gd⟩ w (.bool r) := by
  subst h; simp [Ev, execOp, hx, hy, eqGuard, binOp, Op.intCmp, BEq.beq]
theorem evNeq {d : Option Nat} {t t' : TypeId} {x y : Operand} {k : IntKind} {a b : Int} (r : Bool) (hx : ev n e x = .int k a) (hy : ev n e y = .int k b) (h : decide (a ≠ b) = r) :
    Ev P n e ⟨d, .binOp .neq t x y t', ty, pos, af, gd⟩ w (.bool r) := by
  subst h
  have : (a != b) = decide (a ≠ b) := by by_cases hab : a = b <;> simp [hab]
  simp [Ev, execOp, hx, hy, eqGuard, binOp, Op.intCmp, this]
theorem evEqlB {d : Option Nat} {t t' : TypeId} {x y : Operand} {a b : Bool} (r : Bool) (hu : P.underlying t = some .bool) (hx : ev n e x = .bool a) (hy : ev n e y = .bool b) (h : (a == b) = r) :
    Ev P n e ⟨d, .binOp .eql t x y t', ty, pos, af, gd⟩ w (.bool r) := by
  subst h
  have h1 := run_eql_bool (P := P) w t a b hu
  simp [Ev, execOp, hx, hy, eqGuard, h1]
theorem evNeqB {d : Option Nat} {t t' : TypeId} {x y : Operand} {a b : Bool} (r : Bool) (hu : P.underlying t = some .bool) (hx : ev n e x = .bool a) (hy : ev n e y = .bool b) (h : (a != b) = r) :
    Ev P n e ⟨d, .binOp .neq t x y t', ty, pos, af, gd⟩ w (.bool r) := by
  subst h
  have h1 := run_equal_bool (P := P) w t a b hu
  have h2 : (binOp .neq t (.bool a) (.bool b)).run P w = .ok (.bool (a != b)) w := by
    unfold binOp
    simp [h1, bne]
  simp [Ev, execOp, hx, hy, eqGuard]
  rw [h2]
  rfl
theorem evConv {d : Option Nat} {s t : TypeId} {ds : TypeDesc} {x : Operand} {k k' : IntKind} {a : Int} (z : Int) (hs : P.underlying s = some ds) (ht : P.underlying t = some (.int k')) (hx : ev n e x = .int k a) (h : k'.wrap a = z) :
    Ev P n e ⟨d, .convert s t x, ty, pos, af, gd⟩ w (.int k' z) := by
  subst h; simp [Ev, execOp, hx, convert, run_underlying hs, run_underlying ht, Conv.intToInt]
theorem evShl {d : Option Nat} {t t' : TypeId} {x y : Operand} {k k' : IntKind} {a b : Int} (z : Int) (hx : ev n e x = .int k a) (hy : ev n e y = .int k' b) (hb : 0 ≤ b) (h : k.wrap (a * 2 ^ (min b.toNat k.bits)) = z) :
    Ev P n e ⟨d, .binOp .shl t x y t', ty, pos, af, gd⟩ w (.int k z) := by
  subst h
  have : ¬ b < 0 := by omega
  simp [Ev, execOp, hx, hy, eqGuard, binOp, Op.shift, this]
theorem evShr {d : Option Nat} {t t' : TypeId} {x y : Operand} {k k' : IntKind} {a b : Int} (z : Int) (hx : ev n e x = .int k a) (hy : ev n e y = .int k' b) (hb : 0 ≤ b) (h : a.fdiv (2 ^ (min b.toNat k.bits)) = z) :
    Ev P n e ⟨d, .binOp .shr t x y t', ty, pos, af, gd⟩ w (.int k z) := by
  subst h
  have : ¬ b < 0 := by omega
  simp [Ev, execOp, hx, hy, eqGuard, binOp, Op.shift, this]
theorem evNeg {d : Option Nat} {t : TypeId} {x : Operand} {k : IntKind} {a : Int} (z : Int) (hx : ev n e x = .int k a) (h : k.wrap (0 - a) = z) : Ev P n e ⟨d, .unOp .neg t x, ty, pos, af, gd⟩ w (.int k z) := by
  subst h; simp [Ev, execOp, hx, Op.unary, Op.intArith]
theorem evNot {d : Option Nat} {t : TypeId} {x : Operand} {b : Bool} (r : Bool) (hx : ev n e x = .bool b) (h : (!b) = r) : Ev P n e ⟨d, .unOp .not t x, ty, pos, af, gd⟩ w (.bool r) := by
  subst h; simp [Ev, execOp, hx, Op.unary]
theorem evLen {d : Option Nat} {t el : TypeId} {x : Operand} {A : Option Addr} {len cap : Nat} (ht : P.underlying t = some (.slice el)) (hx : ev n e x = .slice A len cap) :
    Ev P n e ⟨d, .call { callee := .builtin .len, args := #[x], argTypes := #[t] }, ty, pos, af, gd⟩ w (.int .i64 (len : Int)) := by
  simp [Ev, execOp, resolve, hx, invoke, builtin, Builtin.len_, run_underlying ht, goInt]
theorem evMax {d : Option Nat} {ts : Array TypeId} {x y : Operand} {k k' : IntKind} {a b : Int} (z : Int) (hx : ev n e x = .int k a) (hy : ev n e y = .int k' b) (h : (if b > a then b else a) = z) :
    Ev P n e ⟨d, .call { callee := .builtin .max, args := #[x, y], argTypes := ts }, ty, pos, af, gd⟩ w (.int k z) := by
  subst h; simp [Ev, execOp, resolve, hx, hy, invoke, builtin, Builtin.max_, Builtin.max2]
theorem evMin {d : Option Nat} {ts : Array TypeId} {x y : Operand} {k k' : IntKind} {a b : Int} (z : Int) (hx : ev n e x = .int k a) (hy : ev n e y = .int k' b) (h : (if b < a then b else a) = z) :
    Ev P n e ⟨d, .call { callee := .builtin .min, args := #[x, y], argTypes := ts }, ty, pos, af, gd⟩ w (.int k z) := by
  subst h; simp [Ev, execOp, resolve, hx, hy, invoke, builtin, Builtin.min_, Builtin.min2]
end ops

section more
variable {P : Program} {n : Nat} {e : Nat → Value} {w : World} {K : Act → World → Prop} {Q : Exit → Act → World → Prop} {ty : TypeId} {pos : String} {af : Array Edge} {gd : Option (Nat × Bool)}
theorem evK {o : Oper} {v : Value} (h : (execOp (ev n e) o).run P w = .ok (.value v) w) : Ev P n e o w v := h
/-- s[:h]. -/
theorem evSliceHi {d : Option Nat} {t el : TypeId} {x y : Operand} {A : Option Addr} {len cap size : Nat} {k : IntKind} {z : Int} (h : Nat) (ht : P.underlying t = some (.slice el)) (hs : ∀ w, (sizeOf el).run P w = .ok size w)
    (hx : ev n e x = .slice A len cap) (hy : ev n e y = .int k z) (hz : z = (h : Int)) (h2 : h ≤ cap) :
    Ev P n e ⟨d, .slice t x none (some y) none, ty, pos, af, gd⟩ w (.slice A h cap) := by
  have := evSlice (P := P) (w := w) (d := d) (ty := ty) (pos := pos) (af := af) (gd := gd) 0 h ht hs hx (lo := none) (hi := some y) rfl ⟨k, z, hy, hz⟩ (Nat.zero_le _) h2
  have e1 : (if cap = 0 then A else A.map (·.add (0 * size))) = A := by
    split
    · rfl
    · cases A <;> simp [Addr.add]
  rw [e1] at this
  exact this
/-- s[l:]. -/
theorem evSliceLo {d : Option Nat} {t el : TypeId} {x y : Operand} {A : Option Addr} {len cap size : Nat} {k : IntKind} {z : Int} (l : Nat) (ht : P.underlying t = some (.slice el)) (hs : ∀ w, (sizeOf el).run P w = .ok size w)
    (hx : ev n e x = .slice A len cap) (hy : ev n e y = .int k z) (hz : z = (l : Int)) (h1 : l ≤ len) (h2 : len ≤ cap) :
    Ev P n e ⟨d, .slice t x (some y) none none, ty, pos, af, gd⟩ w (.slice (if cap = l then A else A.map (·.add (l * size))) (len - l) (cap - l)) :=
  evSlice l len ht hs hx (lo := some y) (hi := none) ⟨k, z, hy, hz⟩ rfl h1 h2
/-- The address of a field. -/
theorem evFA {d : Option Nat} {s : TypeId} {x : Operand} {f off : Nat} {b o : Nat} (p : Nat) (hf : ∀ a w, (Instr.fieldAt s (.pointer (some a)) f).run P w = .ok (.pointer (some (a.add off))) w)
    (hx : ev n e x = .pointer (some ⟨b, o, none⟩)) (hp : o + off = p) : Ev P n e ⟨d, .fieldAddr s x f, ty, pos, af, gd⟩ w (.pointer (some ⟨b, p, none⟩)) := by
  subst hp
  simp [Ev, execOp, hx, hf, addr_add]
theorem evLoadB {d : Option Nat} {t t' : TypeId} {a : Operand} {g o : Nat} {v : Value} {cs : List Value} (ht : oneB P t = true) (ha : ev n e a = .pointer (some ⟨g, o, none⟩)) (hb : Blk w g t' cs) (hv : cs[o]? = some v) :
    Ev P n e ⟨d, .load t a, ty, pos, af, gd⟩ w v := evLoad ht ha (hb.at_ hv)
theorem evLoadAB {d : Option Nat} {t t' : TypeId} {a : Operand} {g o : Nat} {cs : List Value} (vs : List Value) (ht : aggB P t = true) (hs : ∀ w, (sizeOf t).run P w = .ok vs.length w) (ha : ev n e a = .pointer (some ⟨g, o, none⟩)) (hb : Blk w g t' cs)
    (hv : (cs.drop o).take vs.length = vs) : Ev P n e ⟨d, .load t a, ty, pos, af, gd⟩ w (.agg vs.toArray) :=
  evLoadA vs ht hs ha fun j v hj => by
    rw [addr_add, hb.cell]
    have hlt : j < vs.length := by
      rcases Nat.lt_or_ge j vs.length with h | h
      · exact h
      · rw [List.getElem?_eq_none h] at hj; cases hj
    rw [← hv, List.getElem?_take_of_lt hlt, List.getElem?_drop] at hj
    exact hj
theorem resT {t : Nat} {v : Value} (h : ev n e (.tmp t) = v) : ResIs P n e w (.tmp t) v := h
theorem resB {a : Nat} {t t' : TypeId} {g : Nat} (vs : List Value) (ht : aggB P t = true) (hs : ∀ w, (sizeOf t).run P w = .ok vs.length w) (ha : ev n e (.tmp a) = .pointer (some ⟨g, 0, none⟩)) (hb : Blk w g t' vs) : ResIs P n e w (.cell a t) (.agg vs.toArray) :=
  ⟨_, ha, run_loadVarA ht hs fun j v hj => by rw [addr_add, Nat.zero_add, hb.cell]; exact hj⟩
theorem oMake1 {d : Nat} {t el : TypeId} {l c : Operand} {k1 k2 : IntKind} {z : Value} {bytes : Nat} (m : Nat) (ht : P.underlying t = some (.slice el))
    (hi : (P.info? el).map (fun i => (i.zero, i.size, i.bytes)) = some (some z, 1, bytes)) (hz1 : z.oneCell' = true) (hl : ev n e l = .int k1 (m : Int)) (hc : ev n e c = .int k2 (m : Int))
    (hb : bytes * m ≤ 281474976710656) (hm : m ≤ 9223372036854775807)
    (k : ∀ g w', g = w.heap.size → Ext w w' → w'.heap.size = g + 1 → Blk w' g el (List.replicate m z) → K (mkA dfs n (upd e d (.slice (some ⟨g, 0, none⟩) m m))) w') :
    OpW P ⟨some d, .makeSlice t l c, ty, pos, af, gd⟩ (mkA dfs n e) w K Q := by
  refine oMake m ht hi hl hc hb hm fun g w' h1 h2 h3 h4 => k g w' h1 h2 h3 ?_
  have hcells : z.cells = #[z] := by cases z <;> first | rfl | (simp [Value.oneCell'] at hz1)
  have : (madeCells z.cells (m * 1)).toList = List.replicate m z := by
    rw [hcells]
    apply List.ext_getElem
    · simp [madeCells]
    · intro i h1 h2
      simp [madeCells]
      have : i % 1 = 0 := Nat.mod_one i
      simp [this]
  rw [this] at h4
  exact h4
end more

/-! ### numbers -/
theorem wI64 {x z : Int} (h : x = z ∧ -9223372036854775808 ≤ z ∧ z ≤ 9223372036854775807) : IntKind.i64.wrap x = z := by
  obtain ⟨rfl, h1, h2⟩ := h
  simp only [IntKind.wrap, IntKind.bits, IntKind.signed]
  simp only [Bool.true_and]
  split <;> rename_i hh <;> simp at hh <;> omega
theorem wU32 {x z : Int} (h : x = z ∧ 0 ≤ z ∧ z < 4294967296) : IntKind.u32.wrap x = z := by
  obtain ⟨rfl, h1, h2⟩ := h
  simp only [IntKind.wrap, IntKind.bits, IntKind.signed]
  simp
  omega
theorem wU64 {x z : Int} (h : x = z ∧ 0 ≤ z ∧ z < 18446744073709551616) : IntKind.u64.wrap x = z := by
  obtain ⟨rfl, h1, h2⟩ := h
  simp only [IntKind.wrap, IntKind.bits, IntKind.signed]
  simp
  omega
theorem wU32m {x z : Int} (h : z = x % 4294967296) : IntKind.u32.wrap x = z := by
  subst h
  simp [IntKind.wrap, IntKind.bits, IntKind.signed]
theorem wU64m {x z : Int} (h : z = x % 18446744073709551616) : IntKind.u64.wrap x = z := by
  subst h
  simp [IntKind.wrap, IntKind.bits, IntKind.signed]
theorem wI {x z : Int} (h : x = z ∧ -9223372036854775808 ≤ z ∧ z ≤ 9223372036854775807 := by omega) : IntKind.i64.wrap x = z := wI64 h
theorem cI {k : IntKind} {a b : Int} (h : a = b := by omega) : Value.int k a = Value.int k b := congrArg _ h
theorem dT {p : Prop} [Decidable p] (h : p) : decide p = true := decide_eq_true h
theorem dF {p : Prop} [Decidable p] (h : ¬ p) : decide p = false := decide_eq_false h
end Go.Gx
namespace Go.Gx
variable {dfs : List Deferred}
theorem shr_div {a b : Int} {k : IntKind} (n : Nat) (hn : min b.toNat k.bits = n) (p : Int) (hp : (2 : Int) ^ n = p) (h0 : 0 ≤ p) : a.fdiv (2 ^ (min b.toNat k.bits)) = a / p := by
  rw [hn, hp]; exact Int.fdiv_eq_ediv_of_nonneg _ h0
theorem oEv {P : Program} {n : Nat} {e : Nat → Value} {w : World} {K : Act → World → Prop} {Q : Exit → Act → World → Prop} {o : Oper} {d : Nat} {v : Value} (hv : Ev P n e o w v) (hd : o.dst = some d) (k : K (mkA dfs n (upd e d v)) w) :
    OpW P o (mkA dfs n e) w K Q := by
  unfold OpW Oper.wp
  rw [eval_mkA, hv]
  show K ((mkA dfs n e).put o.dst v) w
  rw [hd, put_mkA]
  exact k
end Go.Gx
