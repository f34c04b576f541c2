/-
  A range over a function, where every round goes on: the laws of the walk. No program in sight.
-/
import Derived.Test.YteiagkehhlpidaaLaws
import Derived.RangeFuncRecord
import Derived.RangeFuncCalls
import Derived.TacticsIn
namespace Go.Gx
open Go.RowKit
variable {dfs : List Deferred}
/-- The wide fence, in a round or not. -/
abbrev fR (ro : Option Nat) : Fence := { Fence.wide with round := ro }
/-- A call of yield. -/
def Yd (P : Program) (l : Nat) (args : Array Value) (W : World) (R : Ending → World → Prop) : Prop :=
  ∃ fn tmps assign body, (Instr.yield l args).run P W = .ok (.round l fn tmps assign body) W ∧ ∀ m, RoundIn Fence.wide m P l fn tmps assign body W R
theorem act_mkA (n : Nat) (e : Nat → Value) (dfs' : List Deferred) : (⟨(mkA dfs n e).tmps, dfs'⟩ : Act) = mkA dfs' n e := by unfold mkA; rfl
theorem tmps_put (n : Nat) (e : Nat → Value) (d : Nat) (v : Value) : (mkA dfs n e).tmps.setIfInBounds d v = (mkA dfs n (upd e d v)).tmps := congrArg Act.tmps (put_mkA (dfs := dfs) n e d v)
theorem sem_eq {ro : Option Nat} {ρ : Operand → Value} {o : Oper} (h : ∀ c, o.op ≠ .defer c) : Oper.semAt ro ρ o = execOp ρ o := by
  cases ro with
  | none => rfl
  | some l => exact Oper.semAt_some l _ _ h
section
variable {P : Program} {n m : Nat} {e : Nat → Value} {w : World} {Q : Exit → Act → World → Prop} {ops : Array Oper} {rest : List Oper} {ro : Option Nat} {ty : TypeId} {pos : String} {af : Array Edge}
/-- An operation that only yields. -/
theorem iEv {o : Oper} {d : Nat} {v : Value} (hn : ∀ c, o.op ≠ .defer c) (hv : Ev P n e o w v) (hd : o.dst = some d) (hg : wantedB n e ops o.guard = true)
    (k : wpListIn (fR ro) m P ops Q rest (mkA dfs n (upd e d v)) w) : wpListIn (fR ro) m P ops Q (o :: rest) (mkA dfs n e) w := by
  unfold wpListIn
  rw [wanted_mkA, hg, if_pos rfl]
  refine ⟨fun _ _ => trivial, ?_⟩
  rw [sem_eq hn, eval_mkA, hv]
  show wpListIn (fR ro) m P ops Q rest ((mkA dfs n e).put o.dst v) w
  rw [hd, put_mkA]
  exact k
theorem iA {x : Operand} {d : Nat} {v : Value} (hx : ev n e x = v) (k : wpListIn (fR ro) m P ops Q rest (mkA dfs n (upd e d v)) w) : wpListIn (fR ro) m P ops Q (⟨some d, .assign x, ty, pos, af, none⟩ :: rest) (mkA dfs n e) w :=
  iEv (by intro c h; cases h) (ev_assign hx) rfl rfl k
theorem iM {x : Operand} {d : Nat} {v : Value} (hx : ev n e x = v) (k : wpListIn (fR ro) m P ops Q rest (mkA dfs n (upd e d v)) w) : wpListIn (fR ro) m P ops Q (⟨some d, .move x, ty, pos, af, none⟩ :: rest) (mkA dfs n e) w :=
  iEv (by intro c h; cases h) (ev_move hx) rfl rfl k
/-- One that is passed over. -/
theorem iSkip {o : Oper} {d : Nat} (hd : o.dst = some d) (hg : wantedB n e ops o.guard = false)
    (k : wpListIn (fR ro) m P ops Q rest (mkA dfs n (upd e d undef)) w) : wpListIn (fR ro) m P ops Q (o :: rest) (mkA dfs n e) w := by
  unfold wpListIn
  rw [wanted_mkA, hg, if_neg (by simp), hd, put_mkA]
  exact ⟨fun _ _ => trivial, k⟩
theorem iDone (h : Q .normal (mkA dfs n e) w) : wpListIn (fR ro) m P ops Q [] (mkA dfs n e) w := h
/-- A call of a function. -/
theorem iCall {φ : Value → World → Prop} {gd : Option (Nat × Bool)} {d : Nat} {x : Operand} {xs : List Operand} {ts : Array TypeId} {f : FuncId} {fs cs args : List Value} (hg : wantedB n e ops gd = true) (hx : ev n e x = .func (.func f) fs.toArray cs.toArray) (hc : Callable P f)
    (h : Calls P f args.toArray w (Ret φ)) (ha : fs ++ (xs.map (ev n e) ++ cs) = args) (k : ∀ v w', φ v w' → wpListIn (fR ro) m P ops Q rest (mkA dfs n (upd e d v)) w') :
    wpListIn (fR ro) m P ops Q (⟨some d, .call { callee := .value x, args := xs.toArray, argTypes := ts }, ty, pos, af, gd⟩ :: rest) (mkA dfs n e) w := by
  have ha' : fs.toArray ++ xs.toArray.map (ev n e) ++ cs.toArray = args.toArray := by rw [← ha]; simp
  unfold wpListIn
  rw [wanted_mkA, hg, if_pos rfl]
  refine ⟨fun _ _ => trivial, ?_⟩
  rw [sem_eq (by intro c h; cases h), eval_mkA]
  simp only [execOp, resolve, hx, Deferred.ofValue, invoke, Sem.run_bind, Sem.run_pure, Result.andThen_ok, ha', hc args.toArray w, Oper.uponIn]
  refine ⟨fun hh => (by cases hh), ?_⟩
  have h2 : Calls P f args.toArray w (fun | .returned v, w'' => wpListIn (fR ro) m P ops Q rest ((mkA dfs n e).put (some d) v) w'' | .panicked chain, w'' => Q (.panic chain) (mkA dfs n e) w'' | .outgrown, _ => LetsOut Q) :=
    Calls.mono h fun en w' ⟨v, he, hv⟩ => by subst he; simp only [put_mkA]; exact k v w' hv
  exact callsIn_wide.2 h2
/-- A call of yield. -/
theorem iYield {φ : Value → World → Prop} {gd : Option (Nat × Bool)} {d l : Nat} {x : Operand} {xs : List Operand} {ts : Array TypeId} {args : List Value} (hg : wantedB n e ops gd = true) (hx : ev n e x = .func (.yield l) #[] #[]) (ha : xs.map (ev n e) = args)
    (h : Yd P l args.toArray w (Ret φ)) (k : ∀ v w', φ v w' → wpListIn (fR ro) m P ops Q rest (mkA dfs n (upd e d v)) w') :
    wpListIn (fR ro) m P ops Q (⟨some d, .call { callee := .value x, args := xs.toArray, argTypes := ts }, ty, pos, af, gd⟩ :: rest) (mkA dfs n e) w := by
  obtain ⟨fn, tmps, assign, body, hy, hR⟩ := h
  have ha' : xs.toArray.map (ev n e) = args.toArray := by rw [← ha]; simp
  unfold wpListIn
  rw [wanted_mkA, hg, if_pos rfl]
  refine ⟨fun _ _ => trivial, ?_⟩
  rw [sem_eq (by intro c h; cases h), eval_mkA]
  have hrun : (execOp (ev n e) ⟨some d, .call { callee := .value x, args := xs.toArray, argTypes := ts }, ty, pos, af, gd⟩).run P w = .ok (.round l fn tmps assign body) w := by
    simp only [execOp, resolve, hx, Deferred.ofValue, invoke, Sem.run_bind, Sem.run_pure, Result.andThen_ok, ha']
    simpa using hy
  rw [hrun]
  refine ⟨fun hh => (by cases hh), ?_⟩
  exact (hR (m - 1)).mono fun en w' ⟨v, he, hv⟩ => by subst he; simp only [put_mkA]; exact k v w' hv
/-- A store into a block of the call's own. -/
theorem iStore {t t' : TypeId} {a x : Operand} {g off : Nat} {v : Value} {cs : List Value} (vs : List Value) (ha : ev n e a = .pointer (some ⟨g, off, none⟩)) (hx : ev n e x = v)
    (hv : v.cells = vs.toArray) (hs : ∀ w, (sizeOf t).run P w = .ok vs.length w) (h1 : vs.all Value.oneCell' = true) (hb : Blk w g t' cs) (hl : off + vs.length ≤ cs.length)
    (k : ∀ w', Frm (· = g) w w' → w'.heap.size = w.heap.size → Blk w' g t' (cs.take off ++ vs ++ cs.drop (off + vs.length)) → wpListIn (fR ro) m P ops Q rest (mkA dfs n e) w') :
    wpListIn (fR ro) m P ops Q (⟨none, .store t a x, ty, pos, af, none⟩ :: rest) (mkA dfs n e) w := by
  have hst := run_storeCells_at P g off t' vs 0 cs.toArray w hb (by simpa using hl) (List.all_eq_true.1 h1)
  simp only [Nat.add_zero] at hst
  unfold wpListIn
  rw [wanted_mkA, show wantedB n e ops none = true from rfl, if_pos rfl]
  refine ⟨fun _ _ => trivial, ?_⟩
  rw [sem_eq (by intro c h; cases h), eval_mkA]
  simp only [execOp, ha, hx, Instr.storeAt, Instr.sureAddr, storeVar, hv, hs w, Sem.run_bind, Sem.run_pure, Result.andThen_ok, List.size_toArray, ne_eq, not_true_eq_false, if_false, hst, Oper.uponIn, put_none]
  refine k _ ⟨rfl, rfl, rfl, by simp [World.setRow], fun j _ hj => ?_⟩ (by simp [World.setRow]) ?_
  · simp only [World.setRow, Array.getElem?_modify]
    rw [if_neg (fun h => hj h.symm)]
  · exact setRow_heap w g cs.toArray (cs.take off ++ vs ++ cs.drop (off + vs.length)).toArray t' (0, 0) hb
/-- A region walked so, in the plain walk. -/
theorem iRegion {l : List Oper} {id : Nat} (h : wpListIn (fR none) 0 P l.toArray Q l (mkA dfs n e) w) : (Code.region id l.toArray false).wp P Q (mkA dfs n e) w := wpIn_wide.1 (wpIn_region_lit (F := Fence.wide) (n := 0) h)
/-- The record of the loop. -/
def recOf (dfs : List Deferred) (n : Nat) (e : Nat → Value) (ps : Array Tmp) (assign body : Code) (D : Nat) (fn : FuncId) (s : LoopState) : Loop := { state := s, pending := none, fn, tmps := (mkA dfs n e).tmps, params := ps, assign, body, defers := D }
/-- A round that goes on. -/
theorem yd_round {l D p : Nat} {fn : FuncId} {assign body : Code} {v : Value} {W : World} {φ : Value → World → Prop} (hl : W.heap[l]? = some (.loop (recOf dfs n e #[p] assign body D fn .ready)))
    (h : ∀ m, assign.wpIn (fR (some l)) m P (Exit.then (fun a₁ w₁ => ∃ w₂, (Instr.beginRound l).run P w₁ = .ok () w₂ ∧ body.wpIn (fR (some l)) m P (roundPost P l (Ret φ)) a₁ w₂) (fun _ _ _ => False)) (mkA [] n (upd e p v)) W) :
    Yd P l #[v] W (Ret φ) := by
  refine ⟨fn, (mkA [] n (upd e p v)).tmps, assign, body, ?_, fun m => roundIn_of_wpIn trivial ?_⟩
  · have hy := run_yield (P := P) (args := #[v]) hl rfl
    have e1 : (((#[p] : Array Tmp).zip #[v]).foldl (fun tmps (x : Tmp × Value) => match x with | (t, a) => tmps.setIfInBounds t a) (mkA dfs n e).tmps) = (mkA [] n (upd e p v)).tmps := by
      have : (((#[p] : Array Tmp).zip #[v]).foldl (fun tmps (x : Tmp × Value) => match x with | (t, a) => tmps.setIfInBounds t a) (mkA dfs n e).tmps) = (mkA dfs n e).tmps.setIfInBounds p v := by simp
      rw [this, tmps_put]; unfold mkA; rfl
    rw [← e1]; exact hy
  · rw [act_mkA]; exact h m
theorem begin_ {l D : Nat} {ps : Array Tmp} {fn : FuncId} {assign body : Code} {W : World} (hl : W.heap[l]? = some (.loop (recOf dfs n e ps assign body D fn .ready))) :
    ∃ Wb, (Instr.beginRound l).run P W = .ok () Wb ∧ Frm (fun b => b = l) W Wb ∧ Wb.heap[l]? = some (.loop (recOf dfs n e ps assign body D fn .busy)) :=
  ⟨_, run_beginRound hl rfl, ⟨rfl, rfl, rfl, by simp, fun k _ hk => World.putObj_heap_other hk⟩, World.putObj_heap_same (Array.getElem?_eq_some_iff.1 hl).1⟩
theorem end_ {l D : Nat} {ps : Array Tmp} {fn : FuncId} {assign body : Code} {W : World} (hl : W.heap[l]? = some (.loop (recOf dfs n e ps assign body D fn .busy))) :
    ∃ We, (Instr.endRound l none).run P W = .ok (.bool true) We ∧ Frm (fun b => b = l) W We ∧ We.heap[l]? = some (.loop (recOf dfs n e ps assign body D fn .ready)) :=
  ⟨_, run_endRound none hl, ⟨rfl, rfl, rfl, by simp, fun k _ hk => World.putObj_heap_other hk⟩, World.putObj_heap_same (Array.getElem?_eq_some_iff.1 hl).1⟩
/-- The statement. -/
theorem wRange {g : Operand} {ps : Array Tmp} {assign body : Code} {gf : Nat} {lb : Array Value} (hg : ev n e g = .func (.func gf) #[] lb) (eg : Callable P gf)
    (h : ∀ fn W1, Ext w W1 → W1.heap.size = w.heap.size + 2 → W1.heap[w.heap.size + 1]? = some (.loop (recOf dfs n e ps assign body w.heap.size fn .ready)) → W1.heap[w.heap.size]? = some (.deferred (some [])) →
      Calls P gf (#[.func (.yield (w.heap.size + 1)) #[] #[]] ++ lb) W1 (Ret fun _ W2 => W2.heap[w.heap.size + 1]? = some (.loop (recOf dfs n e ps assign body w.heap.size fn .ready)) ∧ W2.heap[w.heap.size]? = some (.deferred (some [])) ∧
        ∀ W3, Frm (fun b => b = w.heap.size + 1) W2 W3 → Q .normal (mkA ({ target := .collected w.heap.size, args := #[] } :: dfs) n e) W3)) :
    (Code.rangeFunc g ps assign body).wp P Q (mkA dfs n e) w := by
  refine (wpIn_wide (n := 1)).1 (wpIn_rangeFunc fun fn _ => ?_)
  obtain ⟨W1, hW1⟩ : ∃ W1, (w.alloc (.deferred (some []))).alloc (.loop (recOf dfs n e ps assign body w.heap.size fn .ready)) = W1 := ⟨_, rfl⟩
  have hE : Ext w W1 := by rw [← hW1]; exact (alloc_ext _ _).trans (alloc_ext _ _)
  have hL : W1.heap[w.heap.size + 1]? = some (.loop (recOf dfs n e ps assign body w.heap.size fn .ready)) := by
    rw [← hW1]; have := World.alloc_heap_new (w.alloc (.deferred (some []))) (.loop (recOf dfs n e ps assign body w.heap.size fn .ready)); rwa [World.size_alloc] at this
  have hD : W1.heap[w.heap.size]? = some (.deferred (some [])) := by
    rw [← hW1]; exact (Below.heap_alloc _ _ _ (by simp)).trans (World.alloc_heap_new w _)
  have hc := h fn W1 hE (by rw [← hW1]; simp) hL hD
  refine ⟨w.heap.size + 1, [{ target := .collected w.heap.size, args := #[] }], W1, { target := .fn (.func gf) lb, args := #[.func (.yield (w.heap.size + 1)) #[] #[]] }, W1, gf, #[.func (.yield (w.heap.size + 1)) #[] #[]] ++ lb, W1, ?_, ?_, fun _ _ => trivial, ?_, fun hh => (by cases hh), ?_⟩
  · rw [← hW1]; exact run_enterLoop_outer _ _ _ _ _
  · rw [eval_mkA]; simp only [resolve, hg]; simp [go_sem, ev]
  · simp [invoke, go_sem, eg (#[.func (.yield (w.heap.size + 1)) #[] #[]] ++ lb) W1]
  · refine callsIn_wide.2 (Calls.mono hc fun en W2 ⟨v, he, hl, hd, hq⟩ => ?_)
    subst he
    refine ⟨none, _, run_endLoop (P := P) hl (by simp [recOf]), ?_⟩
    have : ({ mkA dfs n e with defers := [{ target := .collected w.heap.size, args := #[] }] ++ (mkA dfs n e).defers } : Act) = mkA ({ target := .collected w.heap.size, args := #[] } :: dfs) n e := by rw [defers_mkA]; unfold mkA; rfl
    rw [this]; exact hq _ ⟨rfl, rfl, rfl, by simp, fun k _ hk => World.putObj_heap_other hk⟩
/-- A function that holds such a loop. -/
theorem enterM {f : FuncId} {fn : Func} {c : Code} {args : Array Value} {R : Ending → World → Prop} (hf : P.funcs[f]? = some fn) (hb : fn.body = some c) (hn : fn.ntmps = n) (hs : Nat.ble args.size n = true)
    (h : c.wp P (bodyPostM Fence.wide 0 P fn R) (mkA [] n fun t => args.getD t undef) w) : Calls P f args w R := by
  refine callsIn_wide.1 (callsIn_of_wp_marks (F := Fence.wide) (n := 0) hf hb trivial ?_)
  rw [hn, enter_mkA n args (Nat.le_of_ble_eq_true hs)]
  exact wpIn_wide.2 h
/-- The return of one result behind the loop. -/
theorem retM {fn : Func} {φ : Value → World → Prop} {t D : Nat} (v : Value) (hr : fn.results = #[.tmp t]) (h1 : ev n e (.tmp t) = v) (hD : w.heap[D]? = some (.deferred (some []))) (h : φ v (w.putObj D (.deferred none))) :
    bodyPostM Fence.wide 0 P fn (Ret φ) .ret (mkA [{ target := .collected D, args := #[] }] n e) w := by
  show LeavesInM Fence.wide 0 P fn (mkA _ n e).tmps (Ret φ) (mkA _ n e).defers .returning w
  rw [defers_mkA]
  refine ⟨by simp, .inl ⟨D, _, rfl, run_takeDeferred hD, v, ?_, v, rfl, h⟩⟩
  unfold results
  rw [hr]
  refine res1 _ ?_
  simp [getD2, h1]
theorem putObj_frm {W : World} {l : Nat} {o : Obj} : Frm (fun b => b = l) W (W.putObj l o) := ⟨rfl, rfl, rfl, by simp, fun k _ hk => World.putObj_heap_other hk⟩
end
end Go.Gx
