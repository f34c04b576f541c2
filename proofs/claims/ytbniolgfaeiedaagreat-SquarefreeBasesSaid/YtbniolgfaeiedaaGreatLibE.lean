/-
  The laws of the walks and the plain laws of numbers and polynomials, part 5: Range, Open, Open16, OpenT.
-/
import Derived.Test.YtbniolgfaeiedaaGreatLibC
import Derived.RangeFuncRecord
import Derived.RangeFuncCalls
import Derived.TacticsIn
import Derived.Deep.Slices
import Derived.ProofKit
import Derived.OpenShut
/-
  A range over a function, where every round goes on: the laws of the walk. No program in sight.
-/
namespace Go.Gx
open Go.RowKit
variable {dfs : List Deferred}
/-- The wide fence, in a round or not. -/
abbrev fR (ro : Option Nat) : Fence := { Fence.wide with round := ro }
/-- A call of yield. -/
def Yd (P : Program) (l : Nat) (args : Array Value) (W : World) (R : Ending → World → Prop) : Prop :=
  ∃ fn tmps assign body, (Instr.yield l args).run P W = .ok (.round l fn tmps assign body) W ∧ ∀ m, RoundIn Fence.wide m P l fn tmps assign body W R
theorem act_mkA (n : Nat) (e : Nat → Value) (dfs' : List Deferred) : (⟨(mkA dfs n e).tmps, dfs'⟩ : Act) = mkA dfs' n e := by unfold mkA; rfl
theorem tmps_put (n : Nat) (e : Nat → Value) (d : Nat) (v : Value) : (mkA dfs n e).tmps.setIfInBounds d v = (mkA dfs n (upd e d v)).tmps := congrArg Act.tmps (put_mkA (dfs := dfs) n e d v)
theorem sem_eq {ro : Option Nat} {ρ : Operand → Value} {o : Oper} (h : ∀ c, o.op ≠ .defer c) : Oper.semAt ro ρ o = execOp ρ o := by
  cases ro with
  | none => rfl
  | some l => exact Oper.semAt_some l _ _ h
section
variable {P : Program} {n m : Nat} {e : Nat → Value} {w : World} {Q : Exit → Act → World → Prop} {ops : Array Oper} {rest : List Oper} {ro : Option Nat} {ty : TypeId} {pos : String} {af : Array Edge}
/-- An operation that only yields. -/
theorem iEv {o : Oper} {d : Nat} {v : Value} (hn : ∀ c, o.op ≠ .defer c) (hv : Ev P n e o w v) (hd : o.dst = some d) (hg : wantedB n e ops o.guard = true)
    (k : wpListIn (fR ro) m P ops Q rest (mkA dfs n (upd e d v)) w) : wpListIn (fR ro) m P ops Q (o :: rest) (mkA dfs n e) w := by
  unfold wpListIn
  rw [wanted_mkA, hg, if_pos rfl]
  refine ⟨fun _ _ => trivial, ?_⟩
  rw [sem_eq hn, eval_mkA, hv]
  show wpListIn (fR ro) m P ops Q rest ((mkA dfs n e).put o.dst v) w
  rw [hd, put_mkA]
  exact k
theorem iA {x : Operand} {d : Nat} {v : Value} (hx : ev n e x = v) (k : wpListIn (fR ro) m P ops Q rest (mkA dfs n (upd e d v)) w) : wpListIn (fR ro) m P ops Q (⟨some d, .assign x, ty, pos, af, none⟩ :: rest) (mkA dfs n e) w :=
  iEv (by intro c h; cases h) (ev_assign hx) rfl rfl k
theorem iM {x : Operand} {d : Nat} {v : Value} (hx : ev n e x = v) (k : wpListIn (fR ro) m P ops Q rest (mkA dfs n (upd e d v)) w) : wpListIn (fR ro) m P ops Q (⟨some d, .move x, ty, pos, af, none⟩ :: rest) (mkA dfs n e) w :=
  iEv (by intro c h; cases h) (ev_move hx) rfl rfl k
/-- One that is passed over. -/
theorem iSkip {o : Oper} {d : Nat} (hd : o.dst = some d) (hg : wantedB n e ops o.guard = false)
    (k : wpListIn (fR ro) m P ops Q rest (mkA dfs n (upd e d undef)) w) : wpListIn (fR ro) m P ops Q (o :: rest) (mkA dfs n e) w := by
  unfold wpListIn
  rw [wanted_mkA, hg, if_neg (by simp), hd, put_mkA]
  exact ⟨fun _ _ => trivial, k⟩
theorem iDone (h : Q .normal (mkA dfs n e) w) : wpListIn (fR ro) m P ops Q [] (mkA dfs n e) w := h
/-- A call of a function. -/
theorem iCall {φ : Value → World → Prop} {gd : Option (Nat × Bool)} {d : Nat} {x : Operand} {xs : List Operand} {ts : Array TypeId} {f : FuncId} {fs cs args : List Value} (hg : wantedB n e ops gd = true) (hx : ev n e x = .func (.func f) fs.toArray cs.toArray) (hc : Callable P f)
    (h : Calls P f args.toArray w (Ret φ)) (ha : fs ++ (xs.map (ev n e) ++ cs) = args) (k : ∀ v w', φ v w' → wpListIn (fR ro) m P ops Q rest (mkA dfs n (upd e d v)) w') :
    wpListIn (fR ro) m P ops Q (⟨some d, .call { callee := .value x, args := xs.toArray, argTypes := ts }, ty, pos, af, gd⟩ :: rest) (mkA dfs n e) w := by
  have ha' : fs.toArray ++ xs.toArray.map (ev n e) ++ cs.toArray = args.toArray := by rw [← ha]; simp
  unfold wpListIn
  rw [wanted_mkA, hg, if_pos rfl]
  refine ⟨fun _ _ => trivial, ?_⟩
  rw [sem_eq (by intro c h; cases h), eval_mkA]
  simp only [execOp, resolve, hx, Deferred.ofValue, invoke, Sem.run_bind, Sem.run_pure, Result.andThen_ok, ha', hc args.toArray w, Oper.uponIn]
  refine ⟨fun hh => (by cases hh), ?_⟩
  have h2 : Calls P f args.toArray w (fun | .returned v, w'' => wpListIn (fR ro) m P ops Q rest ((mkA dfs n e).put (some d) v) w'' | .panicked chain, w'' => Q (.panic chain) (mkA dfs n e) w'' | .outgrown, _ => LetsOut Q) :=
    Calls.mono h fun en w' ⟨v, he, hv⟩ => by subst he; simp only [put_mkA]; exact k v w' hv
  exact callsIn_wide.2 h2
/-- A call of yield. -/
theorem iYield {φ : Value → World → Prop} {gd : Option (Nat × Bool)} {d l : Nat} {x : Operand} {xs : List Operand} {ts : Array TypeId} {args : List Value} (hg : wantedB n e ops gd = true) (hx : ev n e x = .func (.yield l) #[] #[]) (ha : xs.map (ev n e) = args)
    (h : Yd P l args.toArray w (Ret φ)) (k : ∀ v w', φ v w' → wpListIn (fR ro) m P ops Q rest (mkA dfs n (upd e d v)) w') :
    wpListIn (fR ro) m P ops Q (⟨some d, .call { callee := .value x, args := xs.toArray, argTypes := ts }, ty, pos, af, gd⟩ :: rest) (mkA dfs n e) w := by
  obtain ⟨fn, tmps, assign, body, hy, hR⟩ := h
  have ha' : xs.toArray.map (ev n e) = args.toArray := by rw [← ha]; simp
  unfold wpListIn
  rw [wanted_mkA, hg, if_pos rfl]
  refine ⟨fun _ _ => trivial, ?_⟩
  rw [sem_eq (by intro c h; cases h), eval_mkA]
  have hrun : (execOp (ev n e) ⟨some d, .call { callee := .value x, args := xs.toArray, argTypes := ts }, ty, pos, af, gd⟩).run P w = .ok (.round l fn tmps assign body) w := by
    simp only [execOp, resolve, hx, Deferred.ofValue, invoke, Sem.run_bind, Sem.run_pure, Result.andThen_ok, ha']
    simpa using hy
  rw [hrun]
  refine ⟨fun hh => (by cases hh), ?_⟩
  exact (hR (m - 1)).mono fun en w' ⟨v, he, hv⟩ => by subst he; simp only [put_mkA]; exact k v w' hv
/-- A store into a block of the call's own. -/
theorem iStore {t t' : TypeId} {a x : Operand} {g off : Nat} {v : Value} {cs : List Value} (vs : List Value) (ha : ev n e a = .pointer (some ⟨g, off, none⟩)) (hx : ev n e x = v)
    (hv : v.cells = vs.toArray) (hs : ∀ w, (sizeOf t).run P w = .ok vs.length w) (h1 : vs.all Value.oneCell' = true) (hb : Blk w g t' cs) (hl : off + vs.length ≤ cs.length)
    (k : ∀ w', Frm (· = g) w w' → w'.heap.size = w.heap.size → Blk w' g t' (cs.take off ++ vs ++ cs.drop (off + vs.length)) → wpListIn (fR ro) m P ops Q rest (mkA dfs n e) w') :
    wpListIn (fR ro) m P ops Q (⟨none, .store t a x, ty, pos, af, none⟩ :: rest) (mkA dfs n e) w := by
  have hst := run_storeCells_at P g off t' vs 0 cs.toArray w hb (by simpa using hl) (List.all_eq_true.1 h1)
  simp only [Nat.add_zero] at hst
  unfold wpListIn
  rw [wanted_mkA, show wantedB n e ops none = true from rfl, if_pos rfl]
  refine ⟨fun _ _ => trivial, ?_⟩
  rw [sem_eq (by intro c h; cases h), eval_mkA]
  simp only [execOp, ha, hx, Instr.storeAt, Instr.sureAddr, storeVar, hv, hs w, Sem.run_bind, Sem.run_pure, Result.andThen_ok, List.size_toArray, ne_eq, not_true_eq_false, if_false, hst, Oper.uponIn, put_none]
  refine k _ ⟨rfl, rfl, rfl, by simp [World.setRow], Nat.le_refl _, fun j _ hj => ?_⟩ (by simp [World.setRow]) ?_
  · simp only [World.setRow, Array.getElem?_modify]
    rw [if_neg (fun h => hj h.symm)]
  · exact setRow_heap w g cs.toArray (cs.take off ++ vs ++ cs.drop (off + vs.length)).toArray t' (0, 0) hb
/-- A region walked so, in the plain walk. -/
theorem iRegion {l : List Oper} {id : Nat} (h : wpListIn (fR none) 0 P l.toArray Q l (mkA dfs n e) w) : (Code.region id l.toArray false).wp P Q (mkA dfs n e) w := wpIn_wide.1 (wpIn_region_lit (F := Fence.wide) (n := 0) h)
/-- The record of the loop. -/
def recOf (dfs : List Deferred) (n : Nat) (e : Nat → Value) (ps : Array Tmp) (assign body : Code) (D : Nat) (fn : FuncId) (s : LoopState) : Loop := { state := s, pending := none, fn, tmps := (mkA dfs n e).tmps, params := ps, assign, body, defers := D }
/-- A round that goes on. -/
theorem yd_round {l D p : Nat} {fn : FuncId} {assign body : Code} {v : Value} {W : World} {φ : Value → World → Prop} (hl : W.heap[l]? = some (.loop (recOf dfs n e #[p] assign body D fn .ready)))
    (h : ∀ m, assign.wpIn (fR (some l)) m P (Exit.then (fun a₁ w₁ => ∃ w₂, (Instr.beginRound l).run P w₁ = .ok () w₂ ∧ body.wpIn (fR (some l)) m P (roundPost P l (Ret φ)) a₁ w₂) (fun _ _ _ => False)) (mkA [] n (upd e p v)) W) :
    Yd P l #[v] W (Ret φ) := by
  refine ⟨fn, (mkA [] n (upd e p v)).tmps, assign, body, ?_, fun m => roundIn_of_wpIn trivial ?_⟩
  · have hy := run_yield (P := P) (args := #[v]) hl rfl
    have e1 : (((#[p] : Array Tmp).zip #[v]).foldl (fun tmps (x : Tmp × Value) => match x with | (t, a) => tmps.setIfInBounds t a) (mkA dfs n e).tmps) = (mkA [] n (upd e p v)).tmps := by
      have : (((#[p] : Array Tmp).zip #[v]).foldl (fun tmps (x : Tmp × Value) => match x with | (t, a) => tmps.setIfInBounds t a) (mkA dfs n e).tmps) = (mkA dfs n e).tmps.setIfInBounds p v := by simp
      rw [this, tmps_put]; unfold mkA; rfl
    rw [← e1]; exact hy
  · rw [act_mkA]; exact h m
theorem begin_ {l D : Nat} {ps : Array Tmp} {fn : FuncId} {assign body : Code} {W : World} (hl : W.heap[l]? = some (.loop (recOf dfs n e ps assign body D fn .ready))) :
    ∃ Wb, (Instr.beginRound l).run P W = .ok () Wb ∧ Frm (fun b => b = l) W Wb ∧ Wb.heap[l]? = some (.loop (recOf dfs n e ps assign body D fn .busy)) :=
  ⟨_, run_beginRound hl rfl, ⟨rfl, rfl, rfl, by simp, Nat.le_refl _, fun k _ hk => World.putObj_heap_other hk⟩, World.putObj_heap_same (Array.getElem?_eq_some_iff.1 hl).1⟩
theorem end_ {l D : Nat} {ps : Array Tmp} {fn : FuncId} {assign body : Code} {W : World} (hl : W.heap[l]? = some (.loop (recOf dfs n e ps assign body D fn .busy))) :
    ∃ We, (Instr.endRound l none).run P W = .ok (.bool true) We ∧ Frm (fun b => b = l) W We ∧ We.heap[l]? = some (.loop (recOf dfs n e ps assign body D fn .ready)) :=
  ⟨_, run_endRound none hl, ⟨rfl, rfl, rfl, by simp, Nat.le_refl _, fun k _ hk => World.putObj_heap_other hk⟩, World.putObj_heap_same (Array.getElem?_eq_some_iff.1 hl).1⟩
/-- The record of a loop that may be left. -/
def recB (dfs : List Deferred) (n : Nat) (e : Nat → Value) (ps : Array Tmp) (assign body : Code) (D : Nat) (fn : FuncId) (ex : Nat) (dn : Bool) : Loop :=
  { state := match dn with | true => .done | false => .ready, pending := match dn with | true => some (.exit ex) | false => none, fn, tmps := (mkA dfs n e).tmps, params := ps, assign, body, defers := D }
theorem endB {l D ex : Nat} {ps : Array Tmp} {fn : FuncId} {assign body : Code} {W : World} (hl : W.heap[l]? = some (.loop (recOf dfs n e ps assign body D fn .busy))) :
    ∃ We, (Instr.endRound l (some (.exit ex))).run P W = .ok (.bool false) We ∧ Frm (fun b => b = l) W We ∧ We.heap[l]? = some (.loop (recB dfs n e ps assign body D fn ex true)) :=
  ⟨_, run_endRound (some (.exit ex)) hl, ⟨rfl, rfl, rfl, by simp, Nat.le_refl _, fun k _ hk => World.putObj_heap_other hk⟩, World.putObj_heap_same (Array.getElem?_eq_some_iff.1 hl).1⟩
/-- Where the statement is left. -/
def exB (ex : Nat) : Bool → Exit
  | true => .exit ex
  | false => .normal
/-- The statement, left or not. -/
theorem wRangeB {g : Operand} {ps : Array Tmp} {assign body : Code} {gf ex : Nat} {lb : Array Value} (hg : ev n e g = .func (.func gf) #[] lb) (eg : Callable P gf)
    (h : ∀ fn W1, Ext w W1 → W1.heap.size = w.heap.size + 2 → W1.heap[w.heap.size + 1]? = some (.loop (recB dfs n e ps assign body w.heap.size fn ex false)) → W1.heap[w.heap.size]? = some (.deferred (some [])) →
      Calls P gf (#[.func (.yield (w.heap.size + 1)) #[] #[]] ++ lb) W1 (Ret fun _ W2 => ∃ dn, W2.heap[w.heap.size + 1]? = some (.loop (recB dfs n e ps assign body w.heap.size fn ex dn)) ∧ W2.heap[w.heap.size]? = some (.deferred (some [])) ∧
        ∀ W3, Frm (fun b => b = w.heap.size + 1) W2 W3 → Q (exB ex dn) (mkA ({ target := .collected w.heap.size, args := #[] } :: dfs) n e) W3)) :
    (Code.rangeFunc g ps assign body).wp P Q (mkA dfs n e) w := by
  refine (wpIn_wide (n := 1)).1 (wpIn_rangeFunc fun fn _ => ?_)
  obtain ⟨W1, hW1⟩ : ∃ W1, (w.alloc (.deferred (some []))).alloc (.loop (recB dfs n e ps assign body w.heap.size fn ex false)) = W1 := ⟨_, rfl⟩
  have hE : Ext w W1 := by rw [← hW1]; exact (alloc_ext _ _).trans (alloc_ext _ _)
  have hL : W1.heap[w.heap.size + 1]? = some (.loop (recB dfs n e ps assign body w.heap.size fn ex false)) := by
    rw [← hW1]; have := World.alloc_heap_new (w.alloc (.deferred (some []))) (.loop (recB dfs n e ps assign body w.heap.size fn ex false)); rwa [World.size_alloc] at this
  have hD : W1.heap[w.heap.size]? = some (.deferred (some [])) := by
    rw [← hW1]; exact (Below.heap_alloc _ _ _ (by simp)).trans (World.alloc_heap_new w _)
  have hc := h fn W1 hE (by rw [← hW1]; simp) hL hD
  refine ⟨w.heap.size + 1, [{ target := .collected w.heap.size, args := #[] }], W1, { target := .fn (.func gf) lb, args := #[.func (.yield (w.heap.size + 1)) #[] #[]] }, W1, gf, #[.func (.yield (w.heap.size + 1)) #[] #[]] ++ lb, W1, ?_, ?_, fun _ _ => trivial, ?_, fun hh => (by cases hh), ?_⟩
  · rw [← hW1]; exact run_enterLoop_outer _ _ _ _ _
  · rw [eval_mkA]; simp only [resolve, hg]; simp [go_sem, ev]
  · simp [invoke, go_sem, eg (#[.func (.yield (w.heap.size + 1)) #[] #[]] ++ lb) W1]
  · refine callsIn_wide.2 (Calls.mono hc fun en W2 ⟨v, he, dn, hl, hd, hq⟩ => ?_)
    subst he
    have hdf : ({ mkA dfs n e with defers := [{ target := .collected w.heap.size, args := #[] }] ++ (mkA dfs n e).defers } : Act) = mkA ({ target := .collected w.heap.size, args := #[] } :: dfs) n e := by rw [defers_mkA]; unfold mkA; rfl
    cases dn with
    | false =>
      refine ⟨none, _, run_endLoop (P := P) hl (by simp [recB]), ?_⟩
      rw [hdf]; exact hq _ ⟨rfl, rfl, rfl, by simp, Nat.le_refl _, fun k _ hk => World.putObj_heap_other hk⟩
    | true =>
      refine ⟨some (.exit ex), _, run_endLoop (P := P) hl (by simp [recB]), ?_⟩
      rw [hdf]; exact wpIn_exit (hq _ ⟨rfl, rfl, rfl, by simp, Nat.le_refl _, fun k _ hk => World.putObj_heap_other hk⟩)
/-- A function that holds such a loop. -/
theorem enterM {f : FuncId} {fn : Func} {c : Code} {args : Array Value} {R : Ending → World → Prop} (hf : P.funcs[f]? = some fn) (hb : fn.body = some c) (hn : fn.ntmps = n) (hs : Nat.ble args.size n = true)
    (h : c.wp P (bodyPostM Fence.wide 0 P fn R) (mkA [] n fun t => args.getD t undef) w) : Calls P f args w R := by
  refine callsIn_wide.1 (callsIn_of_wp_marks (F := Fence.wide) (n := 0) hf hb trivial ?_)
  rw [hn, enter_mkA n args (Nat.le_of_ble_eq_true hs)]
  exact wpIn_wide.2 h
/-- The return of one result behind the loop. -/
theorem retM {fn : Func} {φ : Value → World → Prop} {t D : Nat} (v : Value) (hr : fn.results = #[.tmp t]) (h1 : ev n e (.tmp t) = v) (hD : w.heap[D]? = some (.deferred (some []))) (h : φ v (w.putObj D (.deferred none))) :
    bodyPostM Fence.wide 0 P fn (Ret φ) .ret (mkA [{ target := .collected D, args := #[] }] n e) w := by
  show LeavesInM Fence.wide 0 P fn (mkA _ n e).tmps (Ret φ) (mkA _ n e).defers .returning w
  rw [defers_mkA]
  refine ⟨by simp, .inl ⟨D, _, rfl, run_takeDeferred hD, v, ?_, v, rfl, h⟩⟩
  unfold results
  rw [hr]
  refine res1 _ ?_
  simp [getD2, h1]
theorem retM0 {fn : Func} {φ : Value → World → Prop} {t : Nat} (v : Value) (hr : fn.results = #[.tmp t]) (h1 : ev n e (.tmp t) = v) (h : φ v w) : bodyPostM Fence.wide 0 P fn (Ret φ) .ret (mkA [] n e) w := by
  show LeavesInM Fence.wide 0 P fn (mkA [] n e).tmps (Ret φ) (mkA [] n e).defers .returning w
  rw [defers_mkA]
  refine ⟨v, ?_, v, rfl, h⟩
  unfold results
  rw [hr]
  refine res1 _ ?_
  simp [getD2, h1]
theorem exB_block {ex : Nat} {dn : Bool} {a : Act} (h : Q .normal a w) : Exit.inBlock ex Q (exB ex dn) a w := by
  cases dn
  · exact bN h
  · exact bE h
theorem putObj_frm {W : World} {l : Nat} {o : Obj} : Frm (fun b => b = l) W (W.putObj l o) := ⟨rfl, rfl, rfl, by simp, Nat.le_refl _, fun k _ hk => World.putObj_heap_other hk⟩
end
end Go.Gx

/-
  Arguments that came in, read as the walks want them. No program in sight.
-/
namespace Go.Gx
open Go.RowKit Go.ChangeShapes Go.WideShapes Go.Deep
section
variable {H : Type} {enc : TypeId × Value → H} {P : Program} {w : World} {base : Nat} {spare : Nat → Bool} {held : Bool}
end
end Go.Gx
namespace Go.Gx
open Go.RowKit Go.ChangeShapes Go.WideShapes Go.Deep
section
variable {H : Type} {enc : TypeId × Value → H} {P : Program} {w : World} {base : Nat} {spare : Nat → Bool} {held : Bool}
end
end Go.Gx
namespace Go.Gx
open Go.RowKit Go.ChangeShapes Go.WideShapes Go.Deep
section
variable {H : Type} {enc : TypeId × Value → H} {P : Program} {w : World} {base : Nat} {spare : Nat → Bool} {held : Bool}
end
end Go.Gx

/-
  Small integers that came in, and slices of these. No program in sight.
-/
namespace Go.Gx
open Go.RowKit Go.ChangeShapes Go.WideShapes Go.Deep
section
variable {H : Type} {enc : TypeId × Value → H} {P : Program} {w : World} {base : Nat} {spare : Nat → Bool} {held : Bool}
theorem i8_wf {n : Int} (h : (Lit.int .i8 n).wf = true) : -128 ≤ n ∧ n ≤ 127 := by
  have h1 : IntKind.i8.min ≤ n ∧ n ≤ IntKind.i8.max := by simpa [Lit.wf] using h
  have e1 : IntKind.i8.min = -128 := by decide
  have e2 : IntKind.i8.max = 127 := by decide
  omega
theorem okWide_arr {t e : TypeId} {n b : Nat} {r : Reach} {v : Value} (ht : P.underlying t = some (.array n e)) (h : Value.okWide P w r b t v) : ∃ cs, v = .agg cs ∧ cs.size = P.cellsOf t := by
  simp only [Value.okWide, ht] at h
  obtain ⟨cs, h1, h2, _⟩ := h
  exact ⟨cs, h1, h2⟩
end
end Go.Gx

/-
  Slices of arrays of three int8 that came in. No program in sight.
-/
namespace Go.Gx
open Go.RowKit Go.ChangeShapes Go.WideShapes Go.Deep
section
variable {H : Type} {enc : TypeId × Value → H} {P : Program} {w : World} {base : Nat} {spare : Nat → Bool} {held : Bool}
theorem i8_one {t : TypeId} {fuel : Nat} {v : Value} {x : DataW H × List MemPlace} (ht : P.underlying t = some (.int .i8)) (h : DataW.trod enc P w base spare held fuel t [v] = some x) : ∃ y : Int, v = .int .i8 y ∧ -128 ≤ y ∧ y ≤ 127 := by
  obtain ⟨m, e, _, hw⟩ := DataW.trod_int ht h
  simp at e
  exact ⟨m, e, i8_wf hw⟩
theorem open_i8x3 {t e : TypeId} {fuel : Nat} {v0 v1 v2 : Value} {x : DataW H × List MemPlace} (ht : P.underlying t = some (.array 3 e)) (he : P.underlying e = some (.int .i8)) (hc : P.cellsOf e = 1)
    (h : DataW.trod enc P w base spare held fuel t [v0, v1, v2] = some x) : ∃ a b c : Int, v0 = .int .i8 a ∧ v1 = .int .i8 b ∧ v2 = .int .i8 c ∧ (-128 ≤ a ∧ a ≤ 127) ∧ (-128 ≤ b ∧ b ≤ 127) ∧ (-128 ≤ c ∧ c ≤ 127) := by
  obtain ⟨xs, m, _, _, _, hl, hi⟩ := DataW.trod_array ht h
  have one : ∀ i, i < 3 → ∃ y, DataW.trod enc P w base spare held m e (([v0, v1, v2].drop i).take 1) = some y := fun i hi3 => by
    have h1 := hi i hi3
    rw [hc, Nat.mul_one] at h1
    exact ⟨xs[i]'(by omega), by rw [← List.getElem?_eq_getElem]; exact h1⟩
  obtain ⟨_, h0⟩ := one 0 (by omega)
  obtain ⟨_, h1⟩ := one 1 (by omega)
  obtain ⟨_, h2⟩ := one 2 (by omega)
  obtain ⟨a, rfl, ha⟩ := i8_one he h0
  obtain ⟨b, rfl, hb⟩ := i8_one he h1
  obtain ⟨c, rfl, hc'⟩ := i8_one he h2
  exact ⟨a, b, c, rfl, rfl, rfl, ha, hb, hc'⟩
theorem choose_trips {Q : Nat → T3 → Prop} : ∀ (n : Nat), (∀ i, i < n → ∃ r, Q i r) → ∃ l : List T3, l.length = n ∧ ∀ i r, l[i]? = some r → Q i r
  | 0, _ => ⟨[], rfl, fun i r h => by simp at h⟩
  | n + 1, h => by
    obtain ⟨l, hl, hq⟩ := choose_trips n fun i hi => h i (by omega)
    obtain ⟨r, hr⟩ := h n (by omega)
    refine ⟨l ++ [r], by simp [hl], fun i x hx => ?_⟩
    rcases Nat.lt_trichotomy i l.length with h1 | h1 | h1
    · rw [List.getElem?_append_left h1] at hx; exact hq i x hx
    · subst h1; simp at hx; subst hx; rw [hl]; exact hr
    · rw [List.getElem?_eq_none (by simp; omega)] at hx; cases hx
/-- A slice of arrays of three int8 that came in. -/
theorem open_trips {t e e8 : TypeId} {fuel : Nat} {A : Option Addr} {n c : Nat} {x : DataW H × List MemPlace} (ht : P.underlying t = some (.slice e)) (he : P.underlying e = some (.array 3 e8)) (h8 : P.underlying e8 = some (.int .i8)) (hc8 : P.cellsOf e8 = 1) (hC : P.cellsOf e = 3)
    (h : DataW.trod enc P w base spare held fuel t [.slice A n c] = some x) : ∃ l, TripR w (fun _ => True) A n c l := by
  rcases open_slice ht h with ⟨hcs, _⟩ | ⟨a, len, cap, m, k, D, Pl, hcs, hb, hl, hm, hmm, _, hi⟩
  · simp at hcs; obtain ⟨rfl, rfl, rfl⟩ := hcs; exact ⟨[], Rd.nil, by simp⟩
  · simp at hcs
    obtain ⟨rfl, rfl, rfl⟩ := hcs
    have hml : n ≤ m := by rw [hmm]; split <;> omega
    have each : ∀ i, i < n → ∃ r : T3, (∀ k, k < 3 → w.cell? (a.add (i * 3 + k)) = some (.int .i8 (compT r k))) ∧ ∀ k, -128 ≤ compT r k ∧ compT r k ≤ 127 := by
      intro i hin
      obtain ⟨cs', hc', htr⟩ := hi i (by omega)
      rw [hC] at hc'
      obtain ⟨_, hcl, hat⟩ := World.cells?_some hc'
      match cs', hcl with
      | [v0, v1, v2], _ =>
        obtain ⟨y0, y1, y2, rfl, rfl, rfl, b0, b1, b2⟩ := open_i8x3 he h8 hc8 htr
        have e0 := hat 0 (by omega)
        have e1 := hat 1 (by omega)
        have e2 := hat 2 (by omega)
        simp only [Go.Deep.add_add] at e0 e1 e2
        refine ⟨(y0, y1, y2), fun k hk => ?_, fun k => ?_⟩
        · match k, hk with
          | 0, _ => rw [e0]; rfl
          | 1, _ => rw [e1]; rfl
          | 2, _ => rw [e2]; rfl
        · unfold compT
          split
          · exact b0
          · split
            · exact b1
            · exact b2
    obtain ⟨l, hll, hq⟩ := choose_trips n each
    refine ⟨l, ⟨by rw [cellsT_len, hll], hl, by simp [CapMax, maxLen] at hm ⊢; omega, fun hn0 => ?_⟩, fun r hr k => ?_⟩
    · obtain ⟨r0, hr0, _⟩ := each 0 hn0
      have hr0 := hr0 0 (by omega)
      have hs : (a.add (0 * 3 + 0)).spot = none := World.cell?_spot hr0
      obtain ⟨b, off, spot⟩ := a
      have hsp : spot = none := by simpa [Addr.add] using hs
      subst hsp
      refine ⟨b, off, rfl, trivial, ?_, fun j v hj => ?_⟩
      · have := World.block_lt_of_cell? w _ hr0
        simpa [addr_add] using this
      · have hjl : j < l.length * 3 := by
          rw [← cellsT_len]
          rcases Nat.lt_or_ge j (cellsT l).length with h2 | h2
          · exact h2
          · rw [List.getElem?_eq_none h2] at hj; cases hj
        have hlt : j / 3 < l.length := by omega
        have hget : l[j / 3]? = some l[j / 3] := List.getElem?_eq_getElem hlt
        have h4 : j / 3 * 3 + j % 3 = j := by omega
        have hcg := cellsT_get (j % 3) hget (by omega)
        have hqq := (hq _ _ hget).1 (j % 3) (by omega)
        simp only [addr_add] at hqq
        rw [h4] at hcg hqq
        rw [hcg] at hj
        injection hj with hj; subst hj
        exact hqq
    · obtain ⟨i, hi', e⟩ := List.getElem_of_mem hr
      exact (hq i r (by rw [List.getElem?_eq_getElem hi', e])).2 k
theorem open_tripsV {t e e8 : TypeId} {fuel : Nat} {v : Value} {x : DataW H × List MemPlace} (ht : P.underlying t = some (.slice e)) (he : P.underlying e = some (.array 3 e8)) (h8 : P.underlying e8 = some (.int .i8)) (hc8 : P.cellsOf e8 = 1) (hC : P.cellsOf e = 3)
    (h : DataW.trod enc P w base spare held fuel t [v] = some x) : ∃ A n c l, v = .slice A n c ∧ TripR w (fun _ => True) A n c l := by
  obtain ⟨A, n, c, rfl⟩ : ∃ A n c, v = .slice A n c := by
    rcases open_slice ht h with ⟨hcs, _⟩ | ⟨a, len, cap, m, k, D, Pl, hcs, _⟩
    · simp at hcs; exact ⟨none, 0, 0, hcs⟩
    · simp at hcs; exact ⟨_, _, _, hcs⟩
  obtain ⟨l, hl⟩ := open_trips ht he h8 hc8 hC h
  exact ⟨A, n, c, l, rfl, hl⟩
theorem open_tripsx4 {t e e3 e8 : TypeId} {fuel : Nat} {cs : Array Value} {x : DataW H × List MemPlace} (ht : P.underlying t = some (.array 4 e)) (he : P.underlying e = some (.slice e3)) (h3 : P.underlying e3 = some (.array 3 e8)) (h8 : P.underlying e8 = some (.int .i8)) (hc8 : P.cellsOf e8 = 1) (hC : P.cellsOf e3 = 3) (hc : P.cellsOf e = 1) (hsz : cs.size = 4)
    (h : DataW.trod enc P w base spare held fuel t cs.toList = some x) : ∃ A0 n0 c0 t0 A1 n1 c1 t1 A2 n2 c2 t2 A3 n3 c3 t3, cs = #[.slice A0 n0 c0, .slice A1 n1 c1, .slice A2 n2 c2, .slice A3 n3 c3] ∧ TripR w (fun _ => True) A0 n0 c0 t0 ∧ TripR w (fun _ => True) A1 n1 c1 t1 ∧ TripR w (fun _ => True) A2 n2 c2 t2 ∧ TripR w (fun _ => True) A3 n3 c3 t3 := by
  obtain ⟨v0, v1, v2, v3, rfl⟩ : ∃ v0 v1 v2 v3, cs = #[v0, v1, v2, v3] := by
    obtain ⟨l⟩ := cs
    match l, hsz with
    | [v0, v1, v2, v3], _ => exact ⟨v0, v1, v2, v3, rfl⟩
  obtain ⟨xs, m, _, _, _, hl, hi⟩ := DataW.trod_array ht h
  have one : ∀ i, i < 4 → ∃ y, DataW.trod enc P w base spare held m e (([v0, v1, v2, v3].drop i).take 1) = some y := fun i hi4 => by
    have h1 := hi i hi4
    rw [hc, Nat.mul_one] at h1
    exact ⟨xs[i]'(by omega), by rw [← List.getElem?_eq_getElem]; exact h1⟩
  obtain ⟨_, k0⟩ := one 0 (by omega)
  obtain ⟨_, k1⟩ := one 1 (by omega)
  obtain ⟨_, k2⟩ := one 2 (by omega)
  obtain ⟨_, k3⟩ := one 3 (by omega)
  obtain ⟨A0, n0, c0, t0, rfl, b0⟩ := open_tripsV he h3 h8 hc8 hC k0
  obtain ⟨A1, n1, c1, t1, rfl, b1⟩ := open_tripsV he h3 h8 hc8 hC k1
  obtain ⟨A2, n2, c2, t2, rfl, b2⟩ := open_tripsV he h3 h8 hc8 hC k2
  obtain ⟨A3, n3, c3, t3, rfl, b3⟩ := open_tripsV he h3 h8 hc8 hC k3
  exact ⟨A0, n0, c0, t0, A1, n1, c1, t1, A2, n2, c2, t2, A3, n3, c3, t3, rfl, b0, b1, b2, b3⟩
end
end Go.Gx
