/-
  The laws of the walks and the plain laws of numbers and polynomials, part 5: Range, RangeX.
-/
import Derived.Test.YtebajgaabaffbaaGreatLibB
import Derived.RangeFuncRecord
import Derived.RangeFuncCalls
import Derived.TacticsIn
import Derived.OrdersIn
/-
 A range over a function, where every round goes on: the laws of the walk. No program in sight.
-/
namespace Go.Gx
open Go.RowKit
variable {dfs : List Deferred}
abbrev fR (ro : Option Nat) : Fence := { Fence.wide with round := ro }
def Yd (P : Program) (l : Nat) (args : Array Value) (W : World) (R : Ending → World → Prop) : Prop :=
 ∃ fn tmps assign body, (Instr.yield l args).run P W = .ok (.round l fn tmps assign body) W ∧ ∀ m, RoundIn Fence.wide m P l fn tmps assign body W R
theorem act_mkA (n : Nat) (e : Nat → Value) (dfs' : List Deferred) : (⟨(mkA dfs n e).tmps, dfs'⟩ : Act) = mkA dfs' n e := by unfold mkA; rfl
theorem tmps_put (n : Nat) (e : Nat → Value) (d : Nat) (v : Value) : (mkA dfs n e).tmps.setIfInBounds d v = (mkA dfs n (upd e d v)).tmps := congrArg Act.tmps (put_mkA (dfs := dfs) n e d v)
theorem sem_eq {ro : Option Nat} {ρ : Operand → Value} {o : Oper} (h : ∀ c, o.op ≠ .defer c) : Oper.semAt ro ρ o = execOp ρ o := by
 cases ro with
 | none => rfl
 | some l => exact Oper.semAt_some l _ _ h
section
variable {P : Program} {n m : Nat} {e : Nat → Value} {w : World} {Q : Exit → Act → World → Prop} {ops : Array Oper} {rest : List Oper} {ro : Option Nat} {ty : TypeId} {pos : String} {af : Array Edge}
theorem iEv {o : Oper} {d : Nat} {v : Value} (hn : ∀ c, o.op ≠ .defer c) (hv : Ev P n e o w v) (hd : o.dst = some d) (hg : wantedB n e ops o.guard = true)
  (k : wpListIn (fR ro) m P ops Q rest (mkA dfs n (upd e d v)) w) : wpListIn (fR ro) m P ops Q (o :: rest) (mkA dfs n e) w := by
 unfold wpListIn
 rw [wanted_mkA, hg, if_pos rfl]
 refine ⟨fun _ _ => trivial, ?_⟩
 rw [sem_eq hn, eval_mkA, hv]
 show wpListIn (fR ro) m P ops Q rest ((mkA dfs n e).put o.dst v) w
 rw [hd, put_mkA]
 exact k
theorem iSkip {o : Oper} {d : Nat} (hd : o.dst = some d) (hg : wantedB n e ops o.guard = false)
  (k : wpListIn (fR ro) m P ops Q rest (mkA dfs n (upd e d undef)) w) : wpListIn (fR ro) m P ops Q (o :: rest) (mkA dfs n e) w := by
 unfold wpListIn
 rw [wanted_mkA, hg, if_neg (by simp), hd, put_mkA]
 exact ⟨fun _ _ => trivial, k⟩
theorem iDone (h : Q .normal (mkA dfs n e) w) : wpListIn (fR ro) m P ops Q [] (mkA dfs n e) w := h
theorem iStore {t t' : TypeId} {a x : Operand} {g off : Nat} {v : Value} {cs : List Value} (vs : List Value) (ha : ev n e a = .pointer (some ⟨g, off, none⟩)) (hx : ev n e x = v)
  (hv : v.cells = vs.toArray) (hs : ∀ w, (sizeOf t).run P w = .ok vs.length w) (h1 : vs.all Value.oneCell' = true) (hb : Blk w g t' cs) (hl : off + vs.length ≤ cs.length)
  (k : ∀ w', Frm (· = g) w w' → w'.heap.size = w.heap.size → Blk w' g t' (cs.take off ++ vs ++ cs.drop (off + vs.length)) → wpListIn (fR ro) m P ops Q rest (mkA dfs n e) w') :
  wpListIn (fR ro) m P ops Q (⟨none, .store t a x, ty, pos, af, none⟩ :: rest) (mkA dfs n e) w := by
 have hst := run_storeCells_at P g off t' vs 0 cs.toArray w hb (by simpa using hl) (List.all_eq_true.1 h1)
 simp only [Nat.add_zero] at hst
 unfold wpListIn
 rw [wanted_mkA, show wantedB n e ops none = true from rfl, if_pos rfl]
 refine ⟨fun _ _ => trivial, ?_⟩
 rw [sem_eq (by intro c h; cases h), eval_mkA]
 simp only [execOp, ha, hx, Instr.storeAt, Instr.sureAddr, storeVar, hv, hs w, Sem.run_bind, Sem.run_pure, Result.andThen_ok, List.size_toArray, ne_eq, not_true_eq_false, if_false, hst, Oper.uponIn, put_none]
 refine k _ ⟨rfl, rfl, rfl, by simp [World.setRow], Nat.le_refl _, fun j _ hj => ?_⟩ (by simp [World.setRow]) ?_
 ·simp only [World.setRow, Array.getElem?_modify]
  rw [if_neg (fun h => hj h.symm)]
 ·exact setRow_heap w g cs.toArray (cs.take off ++ vs ++ cs.drop (off + vs.length)).toArray t' (0, 0) hb
def recOf (dfs : List Deferred) (n : Nat) (e : Nat → Value) (ps : Array Tmp) (assign body : Code) (D : Nat) (fn : FuncId) (s : LoopState) : Loop := { state := s, pending := none, fn, tmps := (mkA dfs n e).tmps, params := ps, assign, body, defers := D }
theorem begin_ {l D : Nat} {ps : Array Tmp} {fn : FuncId} {assign body : Code} {W : World} (hl : W.heap[l]? = some (.loop (recOf dfs n e ps assign body D fn .ready))) :
  ∃ Wb, (Instr.beginRound l).run P W = .ok () Wb ∧ Frm (fun b => b = l) W Wb ∧ Wb.heap[l]? = some (.loop (recOf dfs n e ps assign body D fn .busy)) :=
 ⟨_, run_beginRound hl rfl, ⟨rfl, rfl, rfl, by simp, Nat.le_refl _, fun k _ hk => World.putObj_heap_other hk⟩, World.putObj_heap_same (Array.getElem?_eq_some_iff.1 hl).1⟩
theorem end_ {l D : Nat} {ps : Array Tmp} {fn : FuncId} {assign body : Code} {W : World} (hl : W.heap[l]? = some (.loop (recOf dfs n e ps assign body D fn .busy))) :
  ∃ We, (Instr.endRound l none).run P W = .ok (.bool true) We ∧ Frm (fun b => b = l) W We ∧ We.heap[l]? = some (.loop (recOf dfs n e ps assign body D fn .ready)) :=
 ⟨_, run_endRound none hl, ⟨rfl, rfl, rfl, by simp, Nat.le_refl _, fun k _ hk => World.putObj_heap_other hk⟩, World.putObj_heap_same (Array.getElem?_eq_some_iff.1 hl).1⟩
theorem wRange {g : Operand} {ps : Array Tmp} {assign body : Code} {gf : Nat} {lb : Array Value} (hg : ev n e g = .func (.func gf) #[] lb) (eg : Callable P gf)
  (h : ∀ fn W1, Ext w W1 → W1.heap.size = w.heap.size + 2 → W1.heap[w.heap.size + 1]? = some (.loop (recOf dfs n e ps assign body w.heap.size fn .ready)) → W1.heap[w.heap.size]? = some (.deferred (some [])) →
   Calls P gf (#[.func (.yield (w.heap.size + 1)) #[] #[]] ++ lb) W1 (Ret fun _ W2 => W2.heap[w.heap.size + 1]? = some (.loop (recOf dfs n e ps assign body w.heap.size fn .ready)) ∧ W2.heap[w.heap.size]? = some (.deferred (some [])) ∧
    ∀ W3, Frm (fun b => b = w.heap.size + 1) W2 W3 → Q .normal (mkA ({ target := .collected w.heap.size, args := #[] } :: dfs) n e) W3)) :
  (Code.rangeFunc g ps assign body).wp P Q (mkA dfs n e) w := by
 refine (wpIn_wide (n := 1)).1 (wpIn_rangeFunc fun fn _ => ?_)
 obtain ⟨W1, hW1⟩ : ∃ W1, (w.alloc (.deferred (some []))).alloc (.loop (recOf dfs n e ps assign body w.heap.size fn .ready)) = W1 := ⟨_, rfl⟩
 have hE : Ext w W1 := by rw [← hW1]; exact (alloc_ext _ _).trans (alloc_ext _ _)
 have hL : W1.heap[w.heap.size + 1]? = some (.loop (recOf dfs n e ps assign body w.heap.size fn .ready)) := by
  rw [← hW1]; have := World.alloc_heap_new (w.alloc (.deferred (some []))) (.loop (recOf dfs n e ps assign body w.heap.size fn .ready)); rwa [World.size_alloc] at this
 have hD : W1.heap[w.heap.size]? = some (.deferred (some [])) := by
  rw [← hW1]; exact (Below.heap_alloc _ _ _ (by simp)).trans (World.alloc_heap_new w _)
 have hc := h fn W1 hE (by rw [← hW1]; simp) hL hD
 refine ⟨w.heap.size + 1, [{ target := .collected w.heap.size, args := #[] }], W1, { target := .fn (.func gf) lb, args := #[.func (.yield (w.heap.size + 1)) #[] #[]] }, W1, gf, #[.func (.yield (w.heap.size + 1)) #[] #[]] ++ lb, W1, ?_, ?_, fun _ _ => trivial, ?_, fun hh => (by cases hh), ?_⟩
 ·rw [← hW1]; exact run_enterLoop_outer _ _ _ _ _
 ·rw [eval_mkA]; simp only [resolve, hg]; simp [go_sem, ev]
 ·simp [invoke, go_sem, eg (#[.func (.yield (w.heap.size + 1)) #[] #[]] ++ lb) W1]
 ·refine callsIn_wide.2 (Calls.mono hc fun en W2 ⟨v, he, hl, hd, hq⟩ => ?_)
  subst he
  refine ⟨none, _, run_endLoop (P := P) hl (by simp [recOf]), ?_⟩
  have : ({ mkA dfs n e with defers := [{ target := .collected w.heap.size, args := #[] }] ++ (mkA dfs n e).defers } : Act) = mkA ({ target := .collected w.heap.size, args := #[] } :: dfs) n e := by rw [defers_mkA]; unfold mkA; rfl
  rw [this]; exact hq _ ⟨rfl, rfl, rfl, by simp, Nat.le_refl _, fun k _ hk => World.putObj_heap_other hk⟩
theorem enterM {f : FuncId} {fn : Func} {c : Code} {args : Array Value} {R : Ending → World → Prop} (hf : P.funcs[f]? = some fn) (hb : fn.body = some c) (hn : fn.ntmps = n) (hs : Nat.ble args.size n = true)
  (h : c.wp P (bodyPostM Fence.wide 0 P fn R) (mkA [] n fun t => args.getD t undef) w) : Calls P f args w R := by
 refine callsIn_wide.1 (callsIn_of_wp_marks (F := Fence.wide) (n := 0) hf hb trivial ?_)
 rw [hn, enter_mkA n args (Nat.le_of_ble_eq_true hs)]
 exact wpIn_wide.2 h
theorem retM {fn : Func} {φ : Value → World → Prop} {t D : Nat} (v : Value) (hr : fn.results = #[.tmp t]) (h1 : ev n e (.tmp t) = v) (hD : w.heap[D]? = some (.deferred (some []))) (h : φ v (w.putObj D (.deferred none))) :
  bodyPostM Fence.wide 0 P fn (Ret φ) .ret (mkA [{ target := .collected D, args := #[] }] n e) w := by
 show LeavesInM Fence.wide 0 P fn (mkA _ n e).tmps (Ret φ) (mkA _ n e).defers .returning w
 rw [defers_mkA]
 refine ⟨by simp, .inl ⟨D, _, rfl, run_takeDeferred hD, v, ?_, v, rfl, h⟩⟩
 unfold results
 rw [hr]
 refine res1 _ ?_
 simp [getD2, h1]
theorem putObj_frm {W : World} {l : Nat} {o : Obj} : Frm (fun b => b = l) W (W.putObj l o) := ⟨rfl, rfl, rfl, by simp, Nat.le_refl _, fun k _ hk => World.putObj_heap_other hk⟩
end
end Go.Gx

/-
 A range over a function of two values; a drawn region in which it is called; loops within a round. No program in sight.
-/
namespace Go.Gx
open Go.RowKit
variable {dfs : List Deferred}
section
variable {P : Program} {n m : Nat} {e : Nat → Value} {w : World} {Q : Exit → Act → World → Prop} {ops : Array Oper} {rest : List Oper} {ro : Option Nat} {ty : TypeId} {pos : String} {af : Array Edge} {K : Act → World → Prop} {fuel : Nat} {listed : Array Bool}
theorem noPanic_weak : ∀ (ex : Exit) (a : Act) (w : World), NoPanic Q ex a w → Q ex a w := fun ex a w h => by
 cases ex <;> first | exact h | exact absurd h (by intro h; cases h)
theorem jBegin {id : Nat} {a : Act} (hm : P.follows .mixedOrders = true) (h : ∀ w', Ext w w' → w'.heap.size = w.heap.size → wpAnyIn (fR none) 0 P .any ops (NoPanic Q) ops.size (Array.replicate ops.size false) a w') : (Code.region id ops true).wp P Q a w :=
 wpIn_wide.1 (wpIn_mono (wpIn_region_any (F := fR none) (n := 0) hm (h w.drew (drew_ext w) rfl)) noPanic_weak)
theorem jFloat {i d : Nat} {o : Oper} {v : Value} (ho : ops[i]? = some o) (hv : ∀ w', Ev P n e o w' v) (hab : ∀ w a, o.about P w a = none) (hd : o.dst = some d) (hg : wantedB n e ops o.guard = true)
  (hc : (Region.noSelect ops && Region.free .any ops listed i && (Region.ready .any ops listed).contains i) = true)
  (k : wpAnyIn (fR none) m P .any ops (NoPanic Q) fuel (listed.setIfInBounds i true) (mkA dfs n (upd e d v)) w) : wpAnyIn (fR none) m P .any ops (NoPanic Q) (fuel + 1) listed (mkA dfs n e) w := by
 simp only [Bool.and_eq_true] at hc
 refine wpAnyIn_first rfl ho (Region.noSelect_spec hc.1.1) (fun _ _ _ h => h) fuel listed _ w (Region.free_spec ho hc.1.2) (by simpa using hc.2) (v := v) ⟨.inl ⟨by rw [wanted_mkA]; exact hg, fun w' => by rw [eval_mkA]; exact hv w'⟩, fun w => hab w _⟩ ?_
 rw [hd, put_mkA]
 exact k
theorem jOne {a : Act} (i : Nat) (hc : Region.ready .any ops listed = [i]) (h : wpOpIn (fR ro) m P ops Q i (wpAnyIn (fR ro) m P .any ops Q fuel (listed.setIfInBounds i true)) a w) : wpAnyIn (fR ro) m P .any ops Q (fuel + 1) listed a w := by
 refine ⟨fun h => (by rw [h] at hc; cases hc), fun j hj => ?_⟩
 rw [hc] at hj
 obtain rfl : j = i := by simpa using hj
 exact h
theorem jTwo {a : Act} (i j : Nat) (hc : Region.ready .any ops listed = [i, j]) (hi : wpOpIn (fR ro) m P ops Q i (wpAnyIn (fR ro) m P .any ops Q fuel (listed.setIfInBounds i true)) a w)
  (hj : wpOpIn (fR ro) m P ops Q j (wpAnyIn (fR ro) m P .any ops Q fuel (listed.setIfInBounds j true)) a w) : wpAnyIn (fR ro) m P .any ops Q (fuel + 1) listed a w := by
 refine ⟨fun h => (by rw [h] at hc; cases hc), fun k hk => ?_⟩
 rw [hc] at hk
 simp only [List.mem_cons, List.not_mem_nil, or_false] at hk
 rcases hk with rfl | rfl
 ·exact hi
 ·exact hj
theorem jDone {a : Act} (hc : Region.ready .any ops listed = []) (h : Q .normal a w) : wpAnyIn (fR ro) m P .any ops (NoPanic Q) 0 listed a w := ⟨hc, h⟩
theorem jEv {i d : Nat} {o : Oper} {v : Value} (ho : ops[i]? = some o) (hn : ∀ c, o.op ≠ .defer c) (hv : Ev P n e o w v) (hd : o.dst = some d) (hg : wantedB n e ops o.guard = true) (k : K (mkA dfs n (upd e d v)) w) : wpOpIn (fR ro) m P ops Q i K (mkA dfs n e) w := by
 unfold wpOpIn
 simp only [ho]
 rw [wanted_mkA, hg, if_pos rfl]
 refine ⟨fun _ _ => trivial, ?_⟩
 rw [sem_eq hn, eval_mkA, hv]
 show K ((mkA dfs n e).put o.dst v) w
 rw [hd, put_mkA]
 exact k
theorem jCall {φ : Value → World → Prop} {i : Nat} {gd : Option (Nat × Bool)} {d : Nat} {x : Operand} {xs : List Operand} {ts : Array TypeId} {f : FuncId} {args : List Value} (ho : ops[i]? = some ⟨some d, .call { callee := .value x, args := xs.toArray, argTypes := ts }, ty, pos, af, gd⟩) (hg : wantedB n e ops gd = true) (hx : ev n e x = .func (.func f) #[] #[]) (hc : Callable P f)
  (h : Calls P f args.toArray w (Ret φ)) (ha : xs.map (ev n e) = args) (k : ∀ v w', φ v w' → K (mkA dfs n (upd e d v)) w') : wpOpIn (fR ro) m P ops Q i K (mkA dfs n e) w := by
 have ha' : #[] ++ xs.toArray.map (ev n e) ++ #[] = args.toArray := by rw [← ha]; simp
 unfold wpOpIn
 simp only [ho]
 rw [wanted_mkA, hg, if_pos rfl]
 refine ⟨fun _ _ => trivial, ?_⟩
 rw [sem_eq (by intro c h; cases h), eval_mkA]
 simp only [execOp, resolve, hx, Deferred.ofValue, invoke, Sem.run_bind, Sem.run_pure, Result.andThen_ok, ha', hc args.toArray w, Oper.uponIn]
 refine ⟨fun hh => (by cases hh), ?_⟩
 have h2 : Calls P f args.toArray w (fun | .returned v, w'' => K ((mkA dfs n e).put (some d) v) w'' | .panicked chain, w'' => Q (.panic chain) (mkA dfs n e) w'' | .outgrown, _ => LetsOut Q) :=
  Calls.mono h fun en w' ⟨v, he, hv⟩ => by subst he; simp only [put_mkA]; exact k v w' hv
 exact callsIn_wide.2 h2
theorem jYield {φ : Value → World → Prop} {i : Nat} {gd : Option (Nat × Bool)} {d l : Nat} {x : Operand} {xs : List Operand} {ts : Array TypeId} {args : List Value} (ho : ops[i]? = some ⟨some d, .call { callee := .value x, args := xs.toArray, argTypes := ts }, ty, pos, af, gd⟩) (hg : wantedB n e ops gd = true) (hx : ev n e x = .func (.yield l) #[] #[]) (ha : xs.map (ev n e) = args)
  (h : Yd P l args.toArray w (Ret φ)) (k : ∀ v w', φ v w' → K (mkA dfs n (upd e d v)) w') : wpOpIn (fR ro) m P ops Q i K (mkA dfs n e) w := by
 obtain ⟨fn, tmps, assign, body, hy, hR⟩ := h
 have ha' : xs.toArray.map (ev n e) = args.toArray := by rw [← ha]; simp
 unfold wpOpIn
 simp only [ho]
 rw [wanted_mkA, hg, if_pos rfl]
 refine ⟨fun _ _ => trivial, ?_⟩
 rw [sem_eq (by intro c h; cases h), eval_mkA]
 have hrun : (execOp (ev n e) ⟨some d, .call { callee := .value x, args := xs.toArray, argTypes := ts }, ty, pos, af, gd⟩).run P w = .ok (.round l fn tmps assign body) w := by
  simp only [execOp, resolve, hx, Deferred.ofValue, invoke, Sem.run_bind, Sem.run_pure, Result.andThen_ok, ha']
  simpa using hy
 rw [hrun]
 refine ⟨fun hh => (by cases hh), ?_⟩
 exact (hR (m - 1)).mono fun en w' ⟨v, he, hv⟩ => by subst he; simp only [put_mkA]; exact k v w' hv
theorem iAlloc {d : Nat} {t : TypeId} {z : Value} {gd : Option (Nat × Bool)} (cs : List Value) (hg : wantedB n e ops gd = true) (hz : ∀ w, (zeroValue t).run P w = .ok z w) (hc : z.cells = cs.toArray)
  (k : ∀ g w', g = w.heap.size → Ext w w' → w'.heap.size = g + 1 → Blk w' g t cs → wpListIn (fR ro) m P ops Q rest (mkA dfs n (upd e d (.pointer (some ⟨g, 0, none⟩)))) w') :
  wpListIn (fR ro) m P ops Q (⟨some d, .alloc t, ty, pos, af, gd⟩ :: rest) (mkA dfs n e) w := by
 unfold wpListIn
 rw [wanted_mkA, hg, if_pos rfl]
 refine ⟨fun _ _ => trivial, ?_⟩
 rw [sem_eq (by intro c h; cases h), eval_mkA]
 have := k w.heap.size (w.alloc (.cells cs.toArray t)) rfl (alloc_ext _ _) (by simp) (Blk.new _ _ _)
 simp only [execOp, Instr.alloc, hz w, newVar, newRow, newObj, hc, Sem.run_bind, Sem.run_pure, Result.andThen_ok, Sem.run, Oper.uponIn, put_mkA]
 exact this
theorem lLoopIn {F : Fence} {c : Code} (I : Nat → (Nat → Value) → World → Prop) (m0 : Nat) (h0 : I m0 e w)
  (round : ∀ k e w, I k e w → c.wpIn F m P (Exit.then (Again (dfs := dfs) n I k) Q) (mkA dfs n e) w) : (Code.loop c).wpIn F m P Q (mkA dfs n e) w := by
 intro b k cs hro hb hr
 have key : ∀ j e w, I j e w → ∃ ex a' w', Q ex a' w' ∧ ArrivesIn (Machine.fenced P F) P (lone (b.atR (mkA dfs n e) (.code c :: .inLoop c :: k)) cs w) b k cs ex a' w' := by
  intro j
  induction j using Nat.strongRecOn with
  | _ j ih =>
   intro e w hI
   obtain ⟨ex, a1, w1, hq, harr⟩ := round j e w hI b (.inLoop c :: k) cs hro hb hr
   cases ex with
   | normal =>
    obtain ⟨m', e', rfl, hlt, hi⟩ := hq
    obtain ⟨ex2, a2, w2, hq2, harr2⟩ := ih m' hlt e' w1 hi
    exact ⟨ex2, a2, w2, hq2, .of_steps (StepsIn.trans harr (.one (fenced_calm hb hr rfl) stepR_inLoop)) harr2⟩
   | exit id => exact ⟨_, a1, w1, hq, .pass (x := .inLoop c) rfl (fun _ _ => .inl (by simp)) harr⟩
   | goto l => exact ⟨_, a1, w1, hq, .pass (x := .inLoop c) rfl (fun _ _ => .inl (by simp)) harr⟩
   | ret => exact ⟨_, a1, w1, hq, .pass (x := .inLoop c) rfl (fun _ _ => .inl (by simp)) harr⟩
   | panic ch => exact ⟨_, a1, w1, hq, .pass (x := .inLoop c) rfl (fun _ _ => .inl (by simp)) harr⟩
   | outgrown => exact ⟨_, a1, w1, hq, .pass (x := .inLoop c) rfl (fun _ _ => .inl (by simp)) harr⟩
 obtain ⟨ex, a', w', hq, harr⟩ := key _ e w h0
 exact ⟨ex, a', w', hq, .of_steps (.one (fenced_calm hb hr rfl) stepR_loop) harr⟩
theorem yd_round2 {l D p q : Nat} {fn : FuncId} {assign body : Code} {v u : Value} {W : World} {φ : Value → World → Prop} (hl : W.heap[l]? = some (.loop (recOf dfs n e #[p, q] assign body D fn .ready)))
  (h : ∀ m, assign.wpIn (fR (some l)) m P (Exit.then (fun a₁ w₁ => ∃ w₂, (Instr.beginRound l).run P w₁ = .ok () w₂ ∧ body.wpIn (fR (some l)) m P (roundPost P l (Ret φ)) a₁ w₂) (fun _ _ _ => False)) (mkA [] n (upd (upd e p v) q u)) W) :
  Yd P l #[v, u] W (Ret φ) := by
 refine ⟨fn, (mkA [] n (upd (upd e p v) q u)).tmps, assign, body, ?_, fun m => roundIn_of_wpIn trivial ?_⟩
 ·have hy := run_yield (P := P) (args := #[v, u]) hl rfl
  have e1 : (((#[p, q] : Array Tmp).zip #[v, u]).foldl (fun tmps (x : Tmp × Value) => match x with | (t, a) => tmps.setIfInBounds t a) (mkA dfs n e).tmps) = (mkA [] n (upd (upd e p v) q u)).tmps := by
   have : (((#[p, q] : Array Tmp).zip #[v, u]).foldl (fun tmps (x : Tmp × Value) => match x with | (t, a) => tmps.setIfInBounds t a) (mkA dfs n e).tmps) = ((mkA dfs n e).tmps.setIfInBounds p v).setIfInBounds q u := by simp
   rw [this, tmps_put, tmps_put]; unfold mkA; rfl
  rw [← e1]; exact hy
 ·rw [act_mkA]; exact h m
end
end Go.Gx
