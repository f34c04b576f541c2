/-
  The laws of the walks and the plain laws of numbers and polynomials, part 5: Range, Open, Open16, OpenB.
-/
import Derived.Test.YtbniolgfaeiedaaGreatLibC
import Derived.RangeFuncRecord
import Derived.RangeFuncCalls
import Derived.TacticsIn
import Derived.Deep.Slices
import Derived.ProofKit
import Derived.OpenShut
/-
  A range over a function, where every round goes on: the laws of the walk. No program in sight.
-/
namespace Go.Gx
open Go.RowKit
variable {dfs : List Deferred}
/-- The wide fence, in a round or not. -/
abbrev fR (ro : Option Nat) : Fence := { Fence.wide with round := ro }
/-- A call of yield. -/
def Yd (P : Program) (l : Nat) (args : Array Value) (W : World) (R : Ending → World → Prop) : Prop :=
  ∃ fn tmps assign body, (Instr.yield l args).run P W = .ok (.round l fn tmps assign body) W ∧ ∀ m, RoundIn Fence.wide m P l fn tmps assign body W R
theorem act_mkA (n : Nat) (e : Nat → Value) (dfs' : List Deferred) : (⟨(mkA dfs n e).tmps, dfs'⟩ : Act) = mkA dfs' n e := by unfold mkA; rfl
theorem tmps_put (n : Nat) (e : Nat → Value) (d : Nat) (v : Value) : (mkA dfs n e).tmps.setIfInBounds d v = (mkA dfs n (upd e d v)).tmps := congrArg Act.tmps (put_mkA (dfs := dfs) n e d v)
theorem sem_eq {ro : Option Nat} {ρ : Operand → Value} {o : Oper} (h : ∀ c, o.op ≠ .defer c) : Oper.semAt ro ρ o = execOp ρ o := by
  cases ro with
  | none => rfl
  | some l => exact Oper.semAt_some l _ _ h
section
variable {P : Program} {n m : Nat} {e : Nat → Value} {w : World} {Q : Exit → Act → World → Prop} {ops : Array Oper} {rest : List Oper} {ro : Option Nat} {ty : TypeId} {pos : String} {af : Array Edge}
/-- An operation that only yields. -/
theorem iEv {o : Oper} {d : Nat} {v : Value} (hn : ∀ c, o.op ≠ .defer c) (hv : Ev P n e o w v) (hd : o.dst = some d) (hg : wantedB n e ops o.guard = true)
    (k : wpListIn (fR ro) m P ops Q rest (mkA dfs n (upd e d v)) w) : wpListIn (fR ro) m P ops Q (o :: rest) (mkA dfs n e) w := by
  unfold wpListIn
  rw [wanted_mkA, hg, if_pos rfl]
  refine ⟨fun _ _ => trivial, ?_⟩
  rw [sem_eq hn, eval_mkA, hv]
  show wpListIn (fR ro) m P ops Q rest ((mkA dfs n e).put o.dst v) w
  rw [hd, put_mkA]
  exact k
theorem iA {x : Operand} {d : Nat} {v : Value} (hx : ev n e x = v) (k : wpListIn (fR ro) m P ops Q rest (mkA dfs n (upd e d v)) w) : wpListIn (fR ro) m P ops Q (⟨some d, .assign x, ty, pos, af, none⟩ :: rest) (mkA dfs n e) w :=
  iEv (by intro c h; cases h) (ev_assign hx) rfl rfl k
theorem iM {x : Operand} {d : Nat} {v : Value} (hx : ev n e x = v) (k : wpListIn (fR ro) m P ops Q rest (mkA dfs n (upd e d v)) w) : wpListIn (fR ro) m P ops Q (⟨some d, .move x, ty, pos, af, none⟩ :: rest) (mkA dfs n e) w :=
  iEv (by intro c h; cases h) (ev_move hx) rfl rfl k
/-- One that is passed over. -/
theorem iSkip {o : Oper} {d : Nat} (hd : o.dst = some d) (hg : wantedB n e ops o.guard = false)
    (k : wpListIn (fR ro) m P ops Q rest (mkA dfs n (upd e d undef)) w) : wpListIn (fR ro) m P ops Q (o :: rest) (mkA dfs n e) w := by
  unfold wpListIn
  rw [wanted_mkA, hg, if_neg (by simp), hd, put_mkA]
  exact ⟨fun _ _ => trivial, k⟩
theorem iDone (h : Q .normal (mkA dfs n e) w) : wpListIn (fR ro) m P ops Q [] (mkA dfs n e) w := h
/-- A call of a function. -/
theorem iCall {φ : Value → World → Prop} {gd : Option (Nat × Bool)} {d : Nat} {x : Operand} {xs : List Operand} {ts : Array TypeId} {f : FuncId} {fs cs args : List Value} (hg : wantedB n e ops gd = true) (hx : ev n e x = .func (.func f) fs.toArray cs.toArray) (hc : Callable P f)
    (h : Calls P f args.toArray w (Ret φ)) (ha : fs ++ (xs.map (ev n e) ++ cs) = args) (k : ∀ v w', φ v w' → wpListIn (fR ro) m P ops Q rest (mkA dfs n (upd e d v)) w') :
    wpListIn (fR ro) m P ops Q (⟨some d, .call { callee := .value x, args := xs.toArray, argTypes := ts }, ty, pos, af, gd⟩ :: rest) (mkA dfs n e) w := by
  have ha' : fs.toArray ++ xs.toArray.map (ev n e) ++ cs.toArray = args.toArray := by rw [← ha]; simp
  unfold wpListIn
  rw [wanted_mkA, hg, if_pos rfl]
  refine ⟨fun _ _ => trivial, ?_⟩
  rw [sem_eq (by intro c h; cases h), eval_mkA]
  simp only [execOp, resolve, hx, Deferred.ofValue, invoke, Sem.run_bind, Sem.run_pure, Result.andThen_ok, ha', hc args.toArray w, Oper.uponIn]
  refine ⟨fun hh => (by cases hh), ?_⟩
  have h2 : Calls P f args.toArray w (fun | .returned v, w'' => wpListIn (fR ro) m P ops Q rest ((mkA dfs n e).put (some d) v) w'' | .panicked chain, w'' => Q (.panic chain) (mkA dfs n e) w'' | .outgrown, _ => LetsOut Q) :=
    Calls.mono h fun en w' ⟨v, he, hv⟩ => by subst he; simp only [put_mkA]; exact k v w' hv
  exact callsIn_wide.2 h2
/-- A call of yield. -/
theorem iYield {φ : Value → World → Prop} {gd : Option (Nat × Bool)} {d l : Nat} {x : Operand} {xs : List Operand} {ts : Array TypeId} {args : List Value} (hg : wantedB n e ops gd = true) (hx : ev n e x = .func (.yield l) #[] #[]) (ha : xs.map (ev n e) = args)
    (h : Yd P l args.toArray w (Ret φ)) (k : ∀ v w', φ v w' → wpListIn (fR ro) m P ops Q rest (mkA dfs n (upd e d v)) w') :
    wpListIn (fR ro) m P ops Q (⟨some d, .call { callee := .value x, args := xs.toArray, argTypes := ts }, ty, pos, af, gd⟩ :: rest) (mkA dfs n e) w := by
  obtain ⟨fn, tmps, assign, body, hy, hR⟩ := h
  have ha' : xs.toArray.map (ev n e) = args.toArray := by rw [← ha]; simp
  unfold wpListIn
  rw [wanted_mkA, hg, if_pos rfl]
  refine ⟨fun _ _ => trivial, ?_⟩
  rw [sem_eq (by intro c h; cases h), eval_mkA]
  have hrun : (execOp (ev n e) ⟨some d, .call { callee := .value x, args := xs.toArray, argTypes := ts }, ty, pos, af, gd⟩).run P w = .ok (.round l fn tmps assign body) w := by
    simp only [execOp, resolve, hx, Deferred.ofValue, invoke, Sem.run_bind, Sem.run_pure, Result.andThen_ok, ha']
    simpa using hy
  rw [hrun]
  refine ⟨fun hh => (by cases hh), ?_⟩
  exact (hR (m - 1)).mono fun en w' ⟨v, he, hv⟩ => by subst he; simp only [put_mkA]; exact k v w' hv
/-- A store into a block of the call's own. -/
theorem iStore {t t' : TypeId} {a x : Operand} {g off : Nat} {v : Value} {cs : List Value} (vs : List Value) (ha : ev n e a = .pointer (some ⟨g, off, none⟩)) (hx : ev n e x = v)
    (hv : v.cells = vs.toArray) (hs : ∀ w, (sizeOf t).run P w = .ok vs.length w) (h1 : vs.all Value.oneCell' = true) (hb : Blk w g t' cs) (hl : off + vs.length ≤ cs.length)
    (k : ∀ w', Frm (· = g) w w' → w'.heap.size = w.heap.size → Blk w' g t' (cs.take off ++ vs ++ cs.drop (off + vs.length)) → wpListIn (fR ro) m P ops Q rest (mkA dfs n e) w') :
    wpListIn (fR ro) m P ops Q (⟨none, .store t a x, ty, pos, af, none⟩ :: rest) (mkA dfs n e) w := by
  have hst := run_storeCells_at P g off t' vs 0 cs.toArray w hb (by simpa using hl) (List.all_eq_true.1 h1)
  simp only [Nat.add_zero] at hst
  unfold wpListIn
  rw [wanted_mkA, show wantedB n e ops none = true from rfl, if_pos rfl]
  refine ⟨fun _ _ => trivial, ?_⟩
  rw [sem_eq (by intro c h; cases h), eval_mkA]
  simp only [execOp, ha, hx, Instr.storeAt, Instr.sureAddr, storeVar, hv, hs w, Sem.run_bind, Sem.run_pure, Result.andThen_ok, List.size_toArray, ne_eq, not_true_eq_false, if_false, hst, Oper.uponIn, put_none]
  refine k _ ⟨rfl, rfl, rfl, by simp [World.setRow], Nat.le_refl _, fun j _ hj => ?_⟩ (by simp [World.setRow]) ?_
  · simp only [World.setRow, Array.getElem?_modify]
    rw [if_neg (fun h => hj h.symm)]
  · exact setRow_heap w g cs.toArray (cs.take off ++ vs ++ cs.drop (off + vs.length)).toArray t' (0, 0) hb
/-- A region walked so, in the plain walk. -/
theorem iRegion {l : List Oper} {id : Nat} (h : wpListIn (fR none) 0 P l.toArray Q l (mkA dfs n e) w) : (Code.region id l.toArray false).wp P Q (mkA dfs n e) w := wpIn_wide.1 (wpIn_region_lit (F := Fence.wide) (n := 0) h)
/-- The record of the loop. -/
def recOf (dfs : List Deferred) (n : Nat) (e : Nat → Value) (ps : Array Tmp) (assign body : Code) (D : Nat) (fn : FuncId) (s : LoopState) : Loop := { state := s, pending := none, fn, tmps := (mkA dfs n e).tmps, params := ps, assign, body, defers := D }
/-- A round that goes on. -/
theorem yd_round {l D p : Nat} {fn : FuncId} {assign body : Code} {v : Value} {W : World} {φ : Value → World → Prop} (hl : W.heap[l]? = some (.loop (recOf dfs n e #[p] assign body D fn .ready)))
    (h : ∀ m, assign.wpIn (fR (some l)) m P (Exit.then (fun a₁ w₁ => ∃ w₂, (Instr.beginRound l).run P w₁ = .ok () w₂ ∧ body.wpIn (fR (some l)) m P (roundPost P l (Ret φ)) a₁ w₂) (fun _ _ _ => False)) (mkA [] n (upd e p v)) W) :
    Yd P l #[v] W (Ret φ) := by
  refine ⟨fn, (mkA [] n (upd e p v)).tmps, assign, body, ?_, fun m => roundIn_of_wpIn trivial ?_⟩
  · have hy := run_yield (P := P) (args := #[v]) hl rfl
    have e1 : (((#[p] : Array Tmp).zip #[v]).foldl (fun tmps (x : Tmp × Value) => match x with | (t, a) => tmps.setIfInBounds t a) (mkA dfs n e).tmps) = (mkA [] n (upd e p v)).tmps := by
      have : (((#[p] : Array Tmp).zip #[v]).foldl (fun tmps (x : Tmp × Value) => match x with | (t, a) => tmps.setIfInBounds t a) (mkA dfs n e).tmps) = (mkA dfs n e).tmps.setIfInBounds p v := by simp
      rw [this, tmps_put]; unfold mkA; rfl
    rw [← e1]; exact hy
  · rw [act_mkA]; exact h m
theorem begin_ {l D : Nat} {ps : Array Tmp} {fn : FuncId} {assign body : Code} {W : World} (hl : W.heap[l]? = some (.loop (recOf dfs n e ps assign body D fn .ready))) :
    ∃ Wb, (Instr.beginRound l).run P W = .ok () Wb ∧ Frm (fun b => b = l) W Wb ∧ Wb.heap[l]? = some (.loop (recOf dfs n e ps assign body D fn .busy)) :=
  ⟨_, run_beginRound hl rfl, ⟨rfl, rfl, rfl, by simp, Nat.le_refl _, fun k _ hk => World.putObj_heap_other hk⟩, World.putObj_heap_same (Array.getElem?_eq_some_iff.1 hl).1⟩
theorem end_ {l D : Nat} {ps : Array Tmp} {fn : FuncId} {assign body : Code} {W : World} (hl : W.heap[l]? = some (.loop (recOf dfs n e ps assign body D fn .busy))) :
    ∃ We, (Instr.endRound l none).run P W = .ok (.bool true) We ∧ Frm (fun b => b = l) W We ∧ We.heap[l]? = some (.loop (recOf dfs n e ps assign body D fn .ready)) :=
  ⟨_, run_endRound none hl, ⟨rfl, rfl, rfl, by simp, Nat.le_refl _, fun k _ hk => World.putObj_heap_other hk⟩, World.putObj_heap_same (Array.getElem?_eq_some_iff.1 hl).1⟩
/-- The statement. -/
theorem wRange {g : Operand} {ps : Array Tmp} {assign body : Code} {gf : Nat} {lb : Array Value} (hg : ev n e g = .func (.func gf) #[] lb) (eg : Callable P gf)
    (h : ∀ fn W1, Ext w W1 → W1.heap.size = w.heap.size + 2 → W1.heap[w.heap.size + 1]? = some (.loop (recOf dfs n e ps assign body w.heap.size fn .ready)) → W1.heap[w.heap.size]? = some (.deferred (some [])) →
      Calls P gf (#[.func (.yield (w.heap.size + 1)) #[] #[]] ++ lb) W1 (Ret fun _ W2 => W2.heap[w.heap.size + 1]? = some (.loop (recOf dfs n e ps assign body w.heap.size fn .ready)) ∧ W2.heap[w.heap.size]? = some (.deferred (some [])) ∧
        ∀ W3, Frm (fun b => b = w.heap.size + 1) W2 W3 → Q .normal (mkA ({ target := .collected w.heap.size, args := #[] } :: dfs) n e) W3)) :
    (Code.rangeFunc g ps assign body).wp P Q (mkA dfs n e) w := by
  refine (wpIn_wide (n := 1)).1 (wpIn_rangeFunc fun fn _ => ?_)
  obtain ⟨W1, hW1⟩ : ∃ W1, (w.alloc (.deferred (some []))).alloc (.loop (recOf dfs n e ps assign body w.heap.size fn .ready)) = W1 := ⟨_, rfl⟩
  have hE : Ext w W1 := by rw [← hW1]; exact (alloc_ext _ _).trans (alloc_ext _ _)
  have hL : W1.heap[w.heap.size + 1]? = some (.loop (recOf dfs n e ps assign body w.heap.size fn .ready)) := by
    rw [← hW1]; have := World.alloc_heap_new (w.alloc (.deferred (some []))) (.loop (recOf dfs n e ps assign body w.heap.size fn .ready)); rwa [World.size_alloc] at this
  have hD : W1.heap[w.heap.size]? = some (.deferred (some [])) := by
    rw [← hW1]; exact (Below.heap_alloc _ _ _ (by simp)).trans (World.alloc_heap_new w _)
  have hc := h fn W1 hE (by rw [← hW1]; simp) hL hD
  refine ⟨w.heap.size + 1, [{ target := .collected w.heap.size, args := #[] }], W1, { target := .fn (.func gf) lb, args := #[.func (.yield (w.heap.size + 1)) #[] #[]] }, W1, gf, #[.func (.yield (w.heap.size + 1)) #[] #[]] ++ lb, W1, ?_, ?_, fun _ _ => trivial, ?_, fun hh => (by cases hh), ?_⟩
  · rw [← hW1]; exact run_enterLoop_outer _ _ _ _ _
  · rw [eval_mkA]; simp only [resolve, hg]; simp [go_sem, ev]
  · simp [invoke, go_sem, eg (#[.func (.yield (w.heap.size + 1)) #[] #[]] ++ lb) W1]
  · refine callsIn_wide.2 (Calls.mono hc fun en W2 ⟨v, he, hl, hd, hq⟩ => ?_)
    subst he
    refine ⟨none, _, run_endLoop (P := P) hl (by simp [recOf]), ?_⟩
    have : ({ mkA dfs n e with defers := [{ target := .collected w.heap.size, args := #[] }] ++ (mkA dfs n e).defers } : Act) = mkA ({ target := .collected w.heap.size, args := #[] } :: dfs) n e := by rw [defers_mkA]; unfold mkA; rfl
    rw [this]; exact hq _ ⟨rfl, rfl, rfl, by simp, Nat.le_refl _, fun k _ hk => World.putObj_heap_other hk⟩
/-- The record of a loop that may be left. -/
def recB (dfs : List Deferred) (n : Nat) (e : Nat → Value) (ps : Array Tmp) (assign body : Code) (D : Nat) (fn : FuncId) (ex : Nat) (dn : Bool) : Loop :=
  { state := match dn with | true => .done | false => .ready, pending := match dn with | true => some (.exit ex) | false => none, fn, tmps := (mkA dfs n e).tmps, params := ps, assign, body, defers := D }
theorem endB {l D ex : Nat} {ps : Array Tmp} {fn : FuncId} {assign body : Code} {W : World} (hl : W.heap[l]? = some (.loop (recOf dfs n e ps assign body D fn .busy))) :
    ∃ We, (Instr.endRound l (some (.exit ex))).run P W = .ok (.bool false) We ∧ Frm (fun b => b = l) W We ∧ We.heap[l]? = some (.loop (recB dfs n e ps assign body D fn ex true)) :=
  ⟨_, run_endRound (some (.exit ex)) hl, ⟨rfl, rfl, rfl, by simp, Nat.le_refl _, fun k _ hk => World.putObj_heap_other hk⟩, World.putObj_heap_same (Array.getElem?_eq_some_iff.1 hl).1⟩
/-- Where the statement is left. -/
def exB (ex : Nat) : Bool → Exit
  | true => .exit ex
  | false => .normal
/-- The statement, left or not. -/
theorem wRangeB {g : Operand} {ps : Array Tmp} {assign body : Code} {gf ex : Nat} {lb : Array Value} (hg : ev n e g = .func (.func gf) #[] lb) (eg : Callable P gf)
    (h : ∀ fn W1, Ext w W1 → W1.heap.size = w.heap.size + 2 → W1.heap[w.heap.size + 1]? = some (.loop (recB dfs n e ps assign body w.heap.size fn ex false)) → W1.heap[w.heap.size]? = some (.deferred (some [])) →
      Calls P gf (#[.func (.yield (w.heap.size + 1)) #[] #[]] ++ lb) W1 (Ret fun _ W2 => ∃ dn, W2.heap[w.heap.size + 1]? = some (.loop (recB dfs n e ps assign body w.heap.size fn ex dn)) ∧ W2.heap[w.heap.size]? = some (.deferred (some [])) ∧
        ∀ W3, Frm (fun b => b = w.heap.size + 1) W2 W3 → Q (exB ex dn) (mkA ({ target := .collected w.heap.size, args := #[] } :: dfs) n e) W3)) :
    (Code.rangeFunc g ps assign body).wp P Q (mkA dfs n e) w := by
  refine (wpIn_wide (n := 1)).1 (wpIn_rangeFunc fun fn _ => ?_)
  obtain ⟨W1, hW1⟩ : ∃ W1, (w.alloc (.deferred (some []))).alloc (.loop (recB dfs n e ps assign body w.heap.size fn ex false)) = W1 := ⟨_, rfl⟩
  have hE : Ext w W1 := by rw [← hW1]; exact (alloc_ext _ _).trans (alloc_ext _ _)
  have hL : W1.heap[w.heap.size + 1]? = some (.loop (recB dfs n e ps assign body w.heap.size fn ex false)) := by
    rw [← hW1]; have := World.alloc_heap_new (w.alloc (.deferred (some []))) (.loop (recB dfs n e ps assign body w.heap.size fn ex false)); rwa [World.size_alloc] at this
  have hD : W1.heap[w.heap.size]? = some (.deferred (some [])) := by
    rw [← hW1]; exact (Below.heap_alloc _ _ _ (by simp)).trans (World.alloc_heap_new w _)
  have hc := h fn W1 hE (by rw [← hW1]; simp) hL hD
  refine ⟨w.heap.size + 1, [{ target := .collected w.heap.size, args := #[] }], W1, { target := .fn (.func gf) lb, args := #[.func (.yield (w.heap.size + 1)) #[] #[]] }, W1, gf, #[.func (.yield (w.heap.size + 1)) #[] #[]] ++ lb, W1, ?_, ?_, fun _ _ => trivial, ?_, fun hh => (by cases hh), ?_⟩
  · rw [← hW1]; exact run_enterLoop_outer _ _ _ _ _
  · rw [eval_mkA]; simp only [resolve, hg]; simp [go_sem, ev]
  · simp [invoke, go_sem, eg (#[.func (.yield (w.heap.size + 1)) #[] #[]] ++ lb) W1]
  · refine callsIn_wide.2 (Calls.mono hc fun en W2 ⟨v, he, dn, hl, hd, hq⟩ => ?_)
    subst he
    have hdf : ({ mkA dfs n e with defers := [{ target := .collected w.heap.size, args := #[] }] ++ (mkA dfs n e).defers } : Act) = mkA ({ target := .collected w.heap.size, args := #[] } :: dfs) n e := by rw [defers_mkA]; unfold mkA; rfl
    cases dn with
    | false =>
      refine ⟨none, _, run_endLoop (P := P) hl (by simp [recB]), ?_⟩
      rw [hdf]; exact hq _ ⟨rfl, rfl, rfl, by simp, Nat.le_refl _, fun k _ hk => World.putObj_heap_other hk⟩
    | true =>
      refine ⟨some (.exit ex), _, run_endLoop (P := P) hl (by simp [recB]), ?_⟩
      rw [hdf]; exact wpIn_exit (hq _ ⟨rfl, rfl, rfl, by simp, Nat.le_refl _, fun k _ hk => World.putObj_heap_other hk⟩)
/-- A function that holds such a loop. -/
theorem enterM {f : FuncId} {fn : Func} {c : Code} {args : Array Value} {R : Ending → World → Prop} (hf : P.funcs[f]? = some fn) (hb : fn.body = some c) (hn : fn.ntmps = n) (hs : Nat.ble args.size n = true)
    (h : c.wp P (bodyPostM Fence.wide 0 P fn R) (mkA [] n fun t => args.getD t undef) w) : Calls P f args w R := by
  refine callsIn_wide.1 (callsIn_of_wp_marks (F := Fence.wide) (n := 0) hf hb trivial ?_)
  rw [hn, enter_mkA n args (Nat.le_of_ble_eq_true hs)]
  exact wpIn_wide.2 h
/-- The return of one result behind the loop. -/
theorem retM {fn : Func} {φ : Value → World → Prop} {t D : Nat} (v : Value) (hr : fn.results = #[.tmp t]) (h1 : ev n e (.tmp t) = v) (hD : w.heap[D]? = some (.deferred (some []))) (h : φ v (w.putObj D (.deferred none))) :
    bodyPostM Fence.wide 0 P fn (Ret φ) .ret (mkA [{ target := .collected D, args := #[] }] n e) w := by
  show LeavesInM Fence.wide 0 P fn (mkA _ n e).tmps (Ret φ) (mkA _ n e).defers .returning w
  rw [defers_mkA]
  refine ⟨by simp, .inl ⟨D, _, rfl, run_takeDeferred hD, v, ?_, v, rfl, h⟩⟩
  unfold results
  rw [hr]
  refine res1 _ ?_
  simp [getD2, h1]
theorem retM0 {fn : Func} {φ : Value → World → Prop} {t : Nat} (v : Value) (hr : fn.results = #[.tmp t]) (h1 : ev n e (.tmp t) = v) (h : φ v w) : bodyPostM Fence.wide 0 P fn (Ret φ) .ret (mkA [] n e) w := by
  show LeavesInM Fence.wide 0 P fn (mkA [] n e).tmps (Ret φ) (mkA [] n e).defers .returning w
  rw [defers_mkA]
  refine ⟨v, ?_, v, rfl, h⟩
  unfold results
  rw [hr]
  refine res1 _ ?_
  simp [getD2, h1]
theorem exB_block {ex : Nat} {dn : Bool} {a : Act} (h : Q .normal a w) : Exit.inBlock ex Q (exB ex dn) a w := by
  cases dn
  · exact bN h
  · exact bE h
theorem putObj_frm {W : World} {l : Nat} {o : Obj} : Frm (fun b => b = l) W (W.putObj l o) := ⟨rfl, rfl, rfl, by simp, Nat.le_refl _, fun k _ hk => World.putObj_heap_other hk⟩
end
end Go.Gx

/-
  Arguments that came in, read as the walks want them. No program in sight.
-/
namespace Go.Gx
open Go.RowKit Go.ChangeShapes Go.WideShapes Go.Deep
section
variable {H : Type} {enc : TypeId × Value → H} {P : Program} {w : World} {base : Nat} {spare : Nat → Bool} {held : Bool}
theorem u32_wf {n : Int} (h : (Lit.int .u32 n).wf = true) : 0 ≤ n ∧ n < 4294967296 := by
  have h1 : IntKind.u32.min ≤ n ∧ n ≤ IntKind.u32.max := by simpa [Lit.wf] using h
  have e1 : IntKind.u32.min = 0 := by decide
  have e2 : IntKind.u32.max = 4294967295 := by decide
  omega
theorem nat_list : ∀ (zs : List Int), (∀ z ∈ zs, 0 ≤ z ∧ z < 4294967296) → ∃ ds : List Nat, ds.map (fun d : Nat => (d : Int)) = zs ∧ ∀ d ∈ ds, d < BS
  | [], _ => ⟨[], rfl, by simp⟩
  | z :: zs, h => by
    obtain ⟨ds, h1, h2⟩ := nat_list zs fun x hx => h x (by simp [hx])
    have h0 := h z (by simp)
    refine ⟨z.toNat :: ds, by simp [h1]; omega, fun d hd => ?_⟩
    rcases List.mem_cons.1 hd with h3 | h3
    · subst h3; show z.toNat < 4294967296; omega
    · exact h2 d h3
/-- A slice of digits that came in. -/
theorem open_nat {t e : TypeId} {fuel : Nat} {v : Value} {x : DataW H × List MemPlace} (ht : P.underlying t = some (.slice e)) (he : P.underlying e = some (.int .u32)) (hc : P.cellsOf e = 1)
    (h : DataW.trod enc P w base spare held fuel t [v] = some x) : ∃ A n c d, v = .slice A n c ∧ NatR w (fun _ => True) A n c d := by
  rcases open_ints ht he hc h with ⟨hcs, _⟩ | ⟨a, len, cap, zs, hcs, hb, hl, hm, hz, _, hcell, hwf⟩
  · simp at hcs; subst hcs; exact ⟨none, 0, 0, [], rfl, NatR.nil⟩
  · simp at hcs
    subst hcs
    have hlen : len ≤ zs.length := by rw [hz]; split <;> omega
    obtain ⟨ds, hds, hlt⟩ := nat_list zs fun z hz' => u32_wf (hwf z hz')
    have hdl : ds.length = zs.length := by rw [← hds]; simp
    refine ⟨some a, len, cap, ds.take len, rfl, ⟨⟨by simp; omega, hl, by simp [CapMax, maxLen] at hm ⊢; omega, fun h0 => ?_⟩, fun d hd => hlt d (List.mem_of_mem_take hd)⟩⟩
    have hc0 := hcell 0 (by omega)
    have hs : (a.add 0).spot = none := World.cell?_spot hc0
    obtain ⟨b, off, spot⟩ := a
    have hsp : spot = none := by simpa [Addr.add] using hs
    subst hsp
    refine ⟨b, off, rfl, trivial, ?_, fun j u hj => ?_⟩
    · have := World.block_lt_of_cell? w _ hc0
      simpa [addr_add] using this
    · have hjl : j < len := by
        rcases Nat.lt_or_ge j len with h1 | h1
        · exact h1
        · rw [List.getElem?_eq_none (by simp; omega)] at hj; cases hj
      have h2 := hcell j (by omega)
      rw [addr_add] at h2
      rw [h2]
      simp only [List.getElem?_map, List.getElem?_take_of_lt hjl] at hj
      rw [List.getElem?_eq_getElem (by omega)] at hj
      simp [u32] at hj
      rw [← hj]
      have : zs.getD j 0 = (ds[j] : Int) := by
        have e := congrArg (fun l : List Int => l.getD j 0) hds
        simp only [List.getD, List.getElem?_map] at e
        rw [List.getElem?_eq_getElem (by omega)] at e
        simpa [List.getD] using e.symm
      rw [this]
theorem choose_list {Q : Nat → RI → Prop} : ∀ (n : Nat), (∀ i, i < n → ∃ r, Q i r) → ∃ l : List RI, l.length = n ∧ ∀ i r, l[i]? = some r → Q i r
  | 0, _ => ⟨[], rfl, fun i r h => by simp at h⟩
  | n + 1, h => by
    obtain ⟨l, hl, hq⟩ := choose_list n fun i hi => h i (by omega)
    obtain ⟨r, hr⟩ := h n (by omega)
    refine ⟨l ++ [r], by simp [hl], fun i x hx => ?_⟩
    rcases Nat.lt_trichotomy i l.length with h1 | h1 | h1
    · rw [List.getElem?_append_left h1] at hx; exact hq i x hx
    · subst h1; simp at hx; subst hx; rw [hl]; exact hr
    · rw [List.getElem?_eq_none (by simp; omega)] at hx; cases hx
theorem NatR.len_le {S : Nat → Prop} {A : Option Addr} {n c : Nat} {d : List Nat} (h : NatR w S A n c d) : n ≤ 9223372036854775807 := Nat.le_trans h.cap h.max
/-- A slice of integers that came in. -/
theorem open_poly {t e tb tn tu : TypeId} {f0 f1 : Field} {fuel : Nat} {A : Option Addr} {n c : Nat} {x : DataW H × List MemPlace} (ht : P.underlying t = some (.slice e)) (he : P.underlying e = some (.struct #[f0, f1]))
    (h0 : f0.type = tb ∧ f0.offset = 0 ∧ P.cellsOf tb = 1 ∧ P.underlying tb = some .bool) (h1 : f1.type = tn ∧ f1.offset = 1 ∧ P.cellsOf tn = 1 ∧ P.underlying tn = some (.slice tu)) (hu : P.underlying tu = some (.int .u32) ∧ P.cellsOf tu = 1) (hC : P.cellsOf e = 2)
    (h : DataW.trod enc P w base spare held fuel t [.slice A n c] = some x) : ∃ l, PolyR w (fun _ => True) A n c l 9223372036854775807 := by
  obtain ⟨t0, o0, c0, u0⟩ := h0
  obtain ⟨t1, o1, c1, u1⟩ := h1
  rcases open_slice ht h with ⟨hcs, _⟩ | ⟨a, len, cap, m, k, D, Pl, hcs, hb, hl, hm, hmm, _, hi⟩
  · simp at hcs; obtain ⟨rfl, rfl, rfl⟩ := hcs; exact ⟨[], PolyR.nil⟩
  · simp at hcs
    obtain ⟨rfl, rfl, rfl⟩ := hcs
    have hml : n ≤ m := by rw [hmm]; split <;> omega
    have each : ∀ i, i < n → ∃ r : RI, w.cell? (a.add (i * 2)) = some (.bool r.neg) ∧ w.cell? (a.add (i * 2 + 1)) = some (.slice r.A r.n r.c) ∧ NatR w (fun _ => True) r.A r.n r.c r.d := by
      intro i hin
      obtain ⟨cs', hc', htr⟩ := hi i (by omega)
      rw [hC] at hc'
      obtain ⟨_, hcl, hat⟩ := World.cells?_some hc'
      obtain ⟨y0, y1, k', _, _, hy0, hy1⟩ := trod_struct2 he htr
      rw [t0, o0, c0] at hy0
      rw [t1, o1, c1] at hy1
      match cs', hcl with
      | [v0, v1], _ =>
        simp at hy0 hy1
        obtain ⟨b, hb', _⟩ := DataW.trod_bool u0 hy0
        simp at hb'
        obtain ⟨A', n', c', d', hv1, hN⟩ := open_nat u1 hu.1 hu.2 hy1
        have e0 := hat 0 (by omega)
        have e1 := hat 1 (by omega)
        simp only [Go.Deep.add_add] at e0 e1
        refine ⟨⟨b, A', n', c', d'⟩, ?_, ?_, hN⟩
        · rw [show i * 2 = i * 2 + 0 from rfl, e0]; simp [hb']
        · rw [e1]; simp [hv1]
    obtain ⟨l, hll, hq⟩ := choose_list n each
    refine ⟨l, ⟨by rw [cellsI_len, hll], hl, by simp [CapMax, maxLen] at hm ⊢; omega, fun hn0 => ?_⟩, fun r hr => ?_⟩
    · obtain ⟨r0, hr0, _, _⟩ := each 0 hn0
      have hs : (a.add (0 * 2)).spot = none := World.cell?_spot hr0
      obtain ⟨b, off, spot⟩ := a
      have hsp : spot = none := by simpa [Addr.add] using hs
      subst hsp
      refine ⟨b, off, rfl, trivial, ?_, fun j v hj => ?_⟩
      · have := World.block_lt_of_cell? w _ hr0
        simpa [addr_add] using this
      · have hjl : j < l.length * 2 := by
          rw [← cellsI_len]
          rcases Nat.lt_or_ge j (cellsI l).length with h2 | h2
          · exact h2
          · rw [List.getElem?_eq_none h2] at hj; cases hj
        have hlt : j / 2 < l.length := by omega
        have hget : l[j / 2]? = some l[j / 2] := List.getElem?_eq_getElem hlt
        have hcg := cellsI_get hget
        have hqq := hq _ _ hget
        simp only [addr_add] at hqq
        rcases Nat.mod_two_eq_zero_or_one j with h3 | h3
        · have h4 : j / 2 * 2 = j := by omega
          rw [h4] at hcg hqq
          rw [hcg.1] at hj
          injection hj with hj; subst hj
          exact hqq.1
        · have h4 : j / 2 * 2 + 1 = j := by omega
          rw [h4] at hcg hqq
          rw [hcg.2] at hj
          injection hj with hj; subst hj
          exact hqq.2.1
    · obtain ⟨i, hi', e⟩ := List.getElem_of_mem hr
      have := hq i r (by rw [List.getElem?_eq_getElem hi', e])
      exact ⟨this.2.2, NatR.len_le this.2.2⟩
end
end Go.Gx
namespace Go.Gx
open Go.RowKit Go.ChangeShapes Go.WideShapes Go.Deep
section
variable {H : Type} {enc : TypeId × Value → H} {P : Program} {w : World} {base : Nat} {spare : Nat → Bool} {held : Bool}
theorem i64_came {t : TypeId} {fuel : Nat} {n : Int} {x : DataW H × List MemPlace} (ht : P.underlying t = some (.int .i64)) (h : DataW.trod enc P w base spare held fuel t [.int .i64 n] = some x) : -9223372036854775808 ≤ n ∧ n ≤ 9223372036854775807 := by
  obtain ⟨m, e, _, hw⟩ := DataW.trod_int ht h
  simp at e
  subst e
  have h1 : IntKind.i64.min ≤ n ∧ n ≤ IntKind.i64.max := by simpa [Lit.wf] using hw
  have e1 : IntKind.i64.min = -9223372036854775808 := by decide
  have e2 : IntKind.i64.max = 9223372036854775807 := by decide
  omega
theorem u16_came {t : TypeId} {fuel : Nat} {n : Int} {x : DataW H × List MemPlace} (ht : P.underlying t = some (.int .u16)) (h : DataW.trod enc P w base spare held fuel t [.int .u16 n] = some x) : ∃ y : Nat, n = (y : Int) ∧ y < 65536 := by
  obtain ⟨m, e, _, hw⟩ := DataW.trod_int ht h
  simp at e
  subst e
  have h1 : IntKind.u16.min ≤ n ∧ n ≤ IntKind.u16.max := by simpa [Lit.wf] using hw
  have e1 : IntKind.u16.min = 0 := by decide
  have e2 : IntKind.u16.max = 65535 := by decide
  exact ⟨n.toNat, by omega, by omega⟩
end
end Go.Gx
namespace Go.Gx
open Go.RowKit Go.ChangeShapes Go.WideShapes Go.Deep
section
variable {H : Type} {enc : TypeId × Value → H} {P : Program} {w : World} {base : Nat} {spare : Nat → Bool} {held : Bool}
/-- An integer that came in. -/
theorem open_int {t tb tn tu : TypeId} {f0 f1 : Field} {fuel : Nat} {cs : Array Value} {x : DataW H × List MemPlace} (he : P.underlying t = some (.struct #[f0, f1]))
    (h0 : f0.type = tb ∧ f0.offset = 0 ∧ P.cellsOf tb = 1 ∧ P.underlying tb = some .bool) (h1 : f1.type = tn ∧ f1.offset = 1 ∧ P.cellsOf tn = 1 ∧ P.underlying tn = some (.slice tu)) (hu : P.underlying tu = some (.int .u32) ∧ P.cellsOf tu = 1) (hsz : cs.size = 2)
    (h : DataW.trod enc P w base spare held fuel t cs.toList = some x) : ∃ g A n c d, cs = #[.bool g, .slice A n c] ∧ NatR w (fun _ => True) A n c d := by
  obtain ⟨t0, o0, c0, u0⟩ := h0
  obtain ⟨t1, o1, c1, u1⟩ := h1
  obtain ⟨v0, v1, rfl⟩ : ∃ v0 v1, cs = #[v0, v1] := by
    obtain ⟨l⟩ := cs
    match l, hsz with
    | [v0, v1], _ => exact ⟨v0, v1, rfl⟩
  obtain ⟨y0, y1, k', _, _, hy0, hy1⟩ := trod_struct2 he h
  rw [t0, o0, c0] at hy0
  rw [t1, o1, c1] at hy1
  simp at hy0 hy1
  obtain ⟨b, hb', _⟩ := DataW.trod_bool u0 hy0
  simp at hb'
  obtain ⟨A', n', c', d', hv1, hN⟩ := open_nat u1 hu.1 hu.2 hy1
  subst hb' hv1
  exact ⟨b, A', n', c', d', rfl, hN⟩
/-- A fraction that came in. -/
theorem open_rat {t ti tb tn tu : TypeId} {g0 g1 f0 f1 : Field} {fuel : Nat} {cs : Array Value} {x : DataW H × List MemPlace} (hr : P.underlying t = some (.struct #[g0, g1])) (he : P.underlying ti = some (.struct #[f0, f1]))
    (hg0 : g0.type = ti ∧ g0.offset = 0 ∧ P.cellsOf ti = 2) (hg1 : g1.type = tn ∧ g1.offset = 2)
    (h0 : f0.type = tb ∧ f0.offset = 0 ∧ P.cellsOf tb = 1 ∧ P.underlying tb = some .bool) (h1 : f1.type = tn ∧ f1.offset = 1 ∧ P.cellsOf tn = 1 ∧ P.underlying tn = some (.slice tu)) (hu : P.underlying tu = some (.int .u32) ∧ P.cellsOf tu = 1) (hsz : cs.size = 3)
    (h : DataW.trod enc P w base spare held fuel t cs.toList = some x) : ∃ g A n c d A2 n2 c2 d2, cs = #[.bool g, .slice A n c, .slice A2 n2 c2] ∧ NatR w (fun _ => True) A n c d ∧ NatR w (fun _ => True) A2 n2 c2 d2 := by
  obtain ⟨v0, v1, v2, rfl⟩ : ∃ v0 v1 v2, cs = #[v0, v1, v2] := by
    obtain ⟨l⟩ := cs
    match l, hsz with
    | [v0, v1, v2], _ => exact ⟨v0, v1, v2, rfl⟩
  obtain ⟨y0, y1, k', _, _, hy0, hy1⟩ := trod_struct2 hr h
  rw [hg0.1, hg0.2.1, hg0.2.2] at hy0
  rw [hg1.1, hg1.2, h1.2.2.1] at hy1
  simp at hy0 hy1
  obtain ⟨g, A, n, c, d, e1, hN⟩ := open_int (cs := #[v0, v1]) he h0 h1 hu rfl hy0
  obtain ⟨A2, n2, c2, d2, hv2, hN2⟩ := open_nat h1.2.2.2 hu.1 hu.2 hy1
  simp at e1
  obtain ⟨rfl, rfl⟩ := e1
  subst hv2
  exact ⟨g, A, n, c, d, A2, n2, c2, d2, rfl, hN, hN2⟩
end
end Go.Gx

/-
  Small integers that came in, and slices of these. No program in sight.
-/
namespace Go.Gx
open Go.RowKit Go.ChangeShapes Go.WideShapes Go.Deep
section
variable {H : Type} {enc : TypeId × Value → H} {P : Program} {w : World} {base : Nat} {spare : Nat → Bool} {held : Bool}
theorem i16_wf {n : Int} (h : (Lit.int .i16 n).wf = true) : -32768 ≤ n ∧ n ≤ 32767 := by
  have h1 : IntKind.i16.min ≤ n ∧ n ≤ IntKind.i16.max := by simpa [Lit.wf] using h
  have e1 : IntKind.i16.min = -32768 := by decide
  have e2 : IntKind.i16.max = 32767 := by decide
  omega
theorem i8_wf {n : Int} (h : (Lit.int .i8 n).wf = true) : -128 ≤ n ∧ n ≤ 127 := by
  have h1 : IntKind.i8.min ≤ n ∧ n ≤ IntKind.i8.max := by simpa [Lit.wf] using h
  have e1 : IntKind.i8.min = -128 := by decide
  have e2 : IntKind.i8.max = 127 := by decide
  omega
theorem open_i16 {t e : TypeId} {fuel : Nat} {v : Value} {x : DataW H × List MemPlace} (ht : P.underlying t = some (.slice e)) (he : P.underlying e = some (.int .i16)) (hc : P.cellsOf e = 1)
    (h : DataW.trod enc P w base spare held fuel t [v] = some x) : ∃ A n c xs, v = .slice A n c ∧ I16R w (fun _ => True) A n c xs := by
  rcases open_ints ht he hc h with ⟨hcs, _⟩ | ⟨a, len, cap, zs, hcs, hb, hl, hm, hz, _, hcell, hwf⟩
  · simp at hcs; subst hcs; exact ⟨none, 0, 0, [], rfl, Rd.nil, by simp⟩
  · simp at hcs
    subst hcs
    have hlen : len ≤ zs.length := by rw [hz]; split <;> omega
    refine ⟨some a, len, cap, zs.take len, rfl, ⟨⟨by simp; omega, hl, by simp [CapMax, maxLen] at hm ⊢; omega, fun h0 => ?_⟩, fun d hd => i16_wf (hwf d (List.mem_of_mem_take hd))⟩⟩
    have hc0 := hcell 0 (by omega)
    have hs : (a.add 0).spot = none := World.cell?_spot hc0
    obtain ⟨b, off, spot⟩ := a
    have hsp : spot = none := by simpa [Addr.add] using hs
    subst hsp
    refine ⟨b, off, rfl, trivial, ?_, fun j u hj => ?_⟩
    · have := World.block_lt_of_cell? w _ hc0
      simpa [addr_add] using this
    · have hjl : j < len := by
        rcases Nat.lt_or_ge j len with h1 | h1
        · exact h1
        · rw [List.getElem?_eq_none (by simp; omega)] at hj; cases hj
      have h2 := hcell j (by omega)
      rw [addr_add] at h2
      rw [h2]
      simp only [List.getElem?_map, List.getElem?_take_of_lt hjl] at hj
      rw [List.getElem?_eq_getElem (by omega)] at hj
      simp at hj
      rw [← hj]
      simp [List.getD, List.getElem?_eq_getElem (show j < zs.length by omega)]
theorem i16_came {t : TypeId} {fuel : Nat} {n : Int} {x : DataW H × List MemPlace} (ht : P.underlying t = some (.int .i16)) (h : DataW.trod enc P w base spare held fuel t [.int .i16 n] = some x) : -32768 ≤ n ∧ n ≤ 32767 := by
  obtain ⟨m, e, _, hw⟩ := DataW.trod_int ht h
  simp at e
  subst e
  exact i16_wf hw
theorem i8_came {t : TypeId} {fuel : Nat} {n : Int} {x : DataW H × List MemPlace} (ht : P.underlying t = some (.int .i8)) (h : DataW.trod enc P w base spare held fuel t [.int .i8 n] = some x) : -128 ≤ n ∧ n ≤ 127 := by
  obtain ⟨m, e, _, hw⟩ := DataW.trod_int ht h
  simp at e
  subst e
  exact i8_wf hw
theorem u8_came {t : TypeId} {fuel : Nat} {n : Int} {x : DataW H × List MemPlace} (ht : P.underlying t = some (.int .u8)) (h : DataW.trod enc P w base spare held fuel t [.int .u8 n] = some x) : ∃ y : Nat, n = (y : Int) ∧ y < 256 := by
  obtain ⟨m, e, _, hw⟩ := DataW.trod_int ht h
  simp at e
  subst e
  have h1 : IntKind.u8.min ≤ n ∧ n ≤ IntKind.u8.max := by simpa [Lit.wf] using hw
  have e1 : IntKind.u8.min = 0 := by decide
  have e2 : IntKind.u8.max = 255 := by decide
  exact ⟨n.toNat, by omega, by omega⟩
theorem okWide_arr {t e : TypeId} {n b : Nat} {r : Reach} {v : Value} (ht : P.underlying t = some (.array n e)) (h : Value.okWide P w r b t v) : ∃ cs, v = .agg cs ∧ cs.size = P.cellsOf t := by
  simp only [Value.okWide, ht] at h
  obtain ⟨cs, h1, h2, _⟩ := h
  exact ⟨cs, h1, h2⟩
theorem u8_one {t : TypeId} {fuel : Nat} {v : Value} {x : DataW H × List MemPlace} (ht : P.underlying t = some (.int .u8)) (h : DataW.trod enc P w base spare held fuel t [v] = some x) : ∃ y : Nat, v = .int .u8 (y : Int) ∧ y < 256 := by
  obtain ⟨m, e, _, hw⟩ := DataW.trod_int ht h
  simp at e
  subst e
  have h1 : IntKind.u8.min ≤ m ∧ m ≤ IntKind.u8.max := by simpa [Lit.wf] using hw
  have e1 : IntKind.u8.min = 0 := by decide
  have e2 : IntKind.u8.max = 255 := by decide
  exact ⟨m.toNat, by rw [show ((m.toNat : Nat) : Int) = m by omega], by omega⟩
theorem open_u8x4 {t e : TypeId} {fuel : Nat} {cs : Array Value} {x : DataW H × List MemPlace} (ht : P.underlying t = some (.array 4 e)) (he : P.underlying e = some (.int .u8)) (hc : P.cellsOf e = 1) (hsz : cs.size = 4)
    (h : DataW.trod enc P w base spare held fuel t cs.toList = some x) : ∃ a b c d : Nat, cs = #[.int .u8 (a : Int), .int .u8 (b : Int), .int .u8 (c : Int), .int .u8 (d : Int)] ∧ a < 256 ∧ b < 256 ∧ c < 256 ∧ d < 256 := by
  obtain ⟨v0, v1, v2, v3, rfl⟩ : ∃ v0 v1 v2 v3, cs = #[v0, v1, v2, v3] := by
    obtain ⟨l⟩ := cs
    match l, hsz with
    | [v0, v1, v2, v3], _ => exact ⟨v0, v1, v2, v3, rfl⟩
  obtain ⟨xs, m, _, _, _, hl, hi⟩ := DataW.trod_array ht h
  have one : ∀ i, i < 4 → ∃ y, DataW.trod enc P w base spare held m e (([v0, v1, v2, v3].drop i).take 1) = some y := fun i hi4 => by
    have h1 := hi i hi4
    rw [hc, Nat.mul_one] at h1
    exact ⟨xs[i]'(by omega), by rw [← List.getElem?_eq_getElem]; exact h1⟩
  obtain ⟨_, h0⟩ := one 0 (by omega)
  obtain ⟨_, h1⟩ := one 1 (by omega)
  obtain ⟨_, h2⟩ := one 2 (by omega)
  obtain ⟨_, h3⟩ := one 3 (by omega)
  obtain ⟨a, rfl, ha⟩ := u8_one he h0
  obtain ⟨b, rfl, hb⟩ := u8_one he h1
  obtain ⟨c, rfl, hc'⟩ := u8_one he h2
  obtain ⟨d, rfl, hd⟩ := u8_one he h3
  exact ⟨a, b, c, d, rfl, ha, hb, hc', hd⟩
end
end Go.Gx

/-
  Arrays of three slices of int16 that came in. No program in sight.
-/
namespace Go.Gx
open Go.RowKit Go.ChangeShapes Go.WideShapes Go.Deep
section
variable {H : Type} {enc : TypeId × Value → H} {P : Program} {w : World} {base : Nat} {spare : Nat → Bool} {held : Bool}
theorem open_i16x3 {t e e16 : TypeId} {fuel : Nat} {cs : Array Value} {x : DataW H × List MemPlace} (ht : P.underlying t = some (.array 3 e)) (he : P.underlying e = some (.slice e16)) (h16 : P.underlying e16 = some (.int .i16)) (hc16 : P.cellsOf e16 = 1) (hc : P.cellsOf e = 1) (hsz : cs.size = 3)
    (h : DataW.trod enc P w base spare held fuel t cs.toList = some x) : ∃ A0 n0 c0 x0 A1 n1 c1 x1 A2 n2 c2 x2, cs = #[.slice A0 n0 c0, .slice A1 n1 c1, .slice A2 n2 c2] ∧ I16R w (fun _ => True) A0 n0 c0 x0 ∧ I16R w (fun _ => True) A1 n1 c1 x1 ∧ I16R w (fun _ => True) A2 n2 c2 x2 := by
  obtain ⟨v0, v1, v2, rfl⟩ : ∃ v0 v1 v2, cs = #[v0, v1, v2] := by
    obtain ⟨l⟩ := cs
    match l, hsz with
    | [v0, v1, v2], _ => exact ⟨v0, v1, v2, rfl⟩
  obtain ⟨xs, m, _, _, _, hl, hi⟩ := DataW.trod_array ht h
  have one : ∀ i, i < 3 → ∃ y, DataW.trod enc P w base spare held m e (([v0, v1, v2].drop i).take 1) = some y := fun i hi4 => by
    have h1 := hi i hi4
    rw [hc, Nat.mul_one] at h1
    exact ⟨xs[i]'(by omega), by rw [← List.getElem?_eq_getElem]; exact h1⟩
  obtain ⟨_, h0⟩ := one 0 (by omega)
  obtain ⟨_, h1⟩ := one 1 (by omega)
  obtain ⟨_, h2⟩ := one 2 (by omega)
  obtain ⟨A0, n0, c0, x0, rfl, b0⟩ := open_i16 he h16 hc16 h0
  obtain ⟨A1, n1, c1, x1, rfl, b1⟩ := open_i16 he h16 hc16 h1
  obtain ⟨A2, n2, c2, x2, rfl, b2⟩ := open_i16 he h16 hc16 h2
  exact ⟨A0, n0, c0, x0, A1, n1, c1, x1, A2, n2, c2, x2, rfl, b0, b1, b2⟩
end
end Go.Gx
