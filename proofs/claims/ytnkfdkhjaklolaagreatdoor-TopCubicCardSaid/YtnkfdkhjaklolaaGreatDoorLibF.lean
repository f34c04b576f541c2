/-
  The laws of the walks and the plain laws of numbers and polynomials, part 6: Range, RangeX, RangeY.
-/
import Derived.Test.YtnkfdkhjaklolaaGreatDoorLibC
import Derived.RangeFuncRecord
import Derived.RangeFuncCalls
import Derived.TacticsIn
import Derived.OrdersIn
open Array renaming getElem?_modify→WG
open List renaming size_toArray→Qyu
open Nat renaming add_zero→WB,le_refl→Ug
namespace Go.Gx
open Go.RowKit
variable{dfs:List Deferred}
abbrev fR(ro:Option Nat):Fence:={Fence.wide with round:=ro}
def Yd(P:Program)(l:Nat)(args:Array Value)(W:World)(R:Ending→World→Prop):Prop:=
 ∃fn tmps assign body,(Instr.yield l args).run P W= .ok (.round l fn tmps assign body) W∧ ∀m,RoundIn Fence.wide m P l fn tmps assign body W R
theorem QsZ(n:Nat)(e:Nat→Value)(dfs':List Deferred):(⟨(mkA dfs n e).tmps,dfs'⟩:Act)=mkA dfs' n e:=by unfold mkA;rfl
theorem Qr3(n:Nat)(e:Nat→Value)(d:Nat)(v:Value):(mkA dfs n e).tmps.setIfInBounds d v=(mkA dfs n (upd e d v)).tmps:=congrArg Act.tmps (YM (dfs:=dfs) n e d v)
theorem QfX{ro:Option Nat}{ρ:Operand→Value}{o:Oper}(h: ∀c,o.op≠ .defer c):Oper.semAt ro ρ o=execOp ρ o:=by
 cases ro with
 |none=>rfl
 |some l=>exact Oper.semAt_some l _ _ h
section
variable{P:Program}{n m:Nat}{e:Nat→Value}{w:World}{Q:Exit→Act→World→Prop}{ops:Array Oper}{rest:List Oper}{ro:Option Nat}{ty:TypeId}{pos:String}{af:Array Edge}
theorem iEv{o:Oper}{d:Nat}{v:Value}(hn: ∀c,o.op≠ .defer c)(hv:Ev P n e o w v)(hd:o.dst=some d)(hg:Qaa n e ops o.guard=true)
  (k:wpListIn (fR ro) m P ops Q rest (mkA dfs n (upd e d v)) w):wpListIn (fR ro) m P ops Q (o::rest) (mkA dfs n e) w:=by
 unfold wpListIn
 rw[Zd,hg,if_pos rfl]
 refine⟨fun _ _=>trivial,?_⟩
 rw[QfX hn,Yk,hv]
 show wpListIn (fR ro) m P ops Q rest ((mkA dfs n e).put o.dst v) w
 rw[hd,YM]
 exact k
theorem iA{x:Operand}{d:Nat}{v:Value}(hx:ev n e x=v)(k:wpListIn (fR ro) m P ops Q rest (mkA dfs n (upd e d v)) w):wpListIn (fR ro) m P ops Q (⟨some d,.assign x,ty,pos,af,none⟩::rest) (mkA dfs n e) w:=
 iEv (by intro c h;cases h) (Qbc hx) rfl rfl k
theorem iM{x:Operand}{d:Nat}{v:Value}(hx:ev n e x=v)(k:wpListIn (fR ro) m P ops Q rest (mkA dfs n (upd e d v)) w):wpListIn (fR ro) m P ops Q (⟨some d,.move x,ty,pos,af,none⟩::rest) (mkA dfs n e) w:=
 iEv (by intro c h;cases h) (Qdm hx) rfl rfl k
theorem QiU{o:Oper}{d:Nat}(hd:o.dst=some d)(hg:Qaa n e ops o.guard=false)
  (k:wpListIn (fR ro) m P ops Q rest (mkA dfs n (upd e d undef)) w):wpListIn (fR ro) m P ops Q (o::rest) (mkA dfs n e) w:=by
 unfold wpListIn
 rw[Zd,hg,if_neg (by simp),hd,YM]
 exact⟨fun _ _=>trivial,k⟩
theorem Qa4(h:Q .normal (mkA dfs n e) w):wpListIn (fR ro) m P ops Q [] (mkA dfs n e) w:=h
theorem Qkc{φ:Value→World→Prop}{gd:Option (Nat×Bool)}{d:Nat}{x:Operand}{xs:List Operand}{ts:Array TypeId}{f:FuncId}{fs cs args:List Value}(hg:Qaa n e ops gd=true)(hx:ev n e x= .func (.func f) fs.toArray cs.toArray)(hc:Xf P f)
  (h:Calls P f args.toArray w (Ret φ))(ha:fs++(xs.map (ev n e)++cs)=args)(k: ∀v w',φ v w'→wpListIn (fR ro) m P ops Q rest (mkA dfs n (upd e d v)) w'):
  wpListIn (fR ro) m P ops Q (⟨some d,.call {callee:= .value x,args:=xs.toArray,argTypes:=ts},ty,pos,af,gd⟩::rest) (mkA dfs n e) w:=by
 have ha':fs.toArray++xs.toArray.map (ev n e)++cs.toArray=args.toArray:=by rw[←ha];simp
 unfold wpListIn
 rw[Zd,hg,if_pos rfl]
 refine⟨fun _ _=>trivial,?_⟩
 rw[QfX (by intro c h;cases h),Yk]
 simp only[execOp,resolve,hx,Deferred.ofValue,invoke,Sem.run_bind,Sem.run_pure,Result.andThen_ok,ha',hc args.toArray w,Oper.uponIn]
 refine⟨fun hh=>(by cases hh),?_⟩
 have h2:Calls P f args.toArray w (fun | .returned v,w''=>wpListIn (fR ro) m P ops Q rest ((mkA dfs n e).put (some d) v) w''| .panicked chain,w''=>Q (.panic chain) (mkA dfs n e) w''| .outgrown,_=>LetsOut Q):=
  Calls.mono h fun en w' ⟨v,he,hv⟩=>by subst he;simp only[YM];exact k v w' hv
 exact callsIn_wide.2 h2
theorem Qkd{φ:Value→World→Prop}{gd:Option (Nat×Bool)}{d l:Nat}{x:Operand}{xs:List Operand}{ts:Array TypeId}{args:List Value}(hg:Qaa n e ops gd=true)(hx:ev n e x= .func (.yield l) #[] #[])(ha:xs.map (ev n e)=args)
  (h:Yd P l args.toArray w (Ret φ))(k: ∀v w',φ v w'→wpListIn (fR ro) m P ops Q rest (mkA dfs n (upd e d v)) w'):
  wpListIn (fR ro) m P ops Q (⟨some d,.call {callee:= .value x,args:=xs.toArray,argTypes:=ts},ty,pos,af,gd⟩::rest) (mkA dfs n e) w:=by
 obtain⟨fn,tmps,assign,body,hy,hR⟩:=h
 have ha':xs.toArray.map (ev n e)=args.toArray:=by rw[←ha];simp
 unfold wpListIn
 rw[Zd,hg,if_pos rfl]
 refine⟨fun _ _=>trivial,?_⟩
 rw[QfX (by intro c h;cases h),Yk]
 have hrun:(execOp (ev n e) ⟨some d,.call {callee:= .value x,args:=xs.toArray,argTypes:=ts},ty,pos,af,gd⟩).run P w= .ok (.round l fn tmps assign body) w:=by
  simp only[execOp,resolve,hx,Deferred.ofValue,invoke,Sem.run_bind,Sem.run_pure,Result.andThen_ok,ha']
  simpa using hy
 rw[hrun]
 refine⟨fun hh=>(by cases hh),?_⟩
 exact(hR (m -1)).mono fun en w' ⟨v,he,hv⟩=>by subst he;simp only[YM];exact k v w' hv
theorem Qmh{t t':TypeId}{a x:Operand}{g off:Nat}{v:Value}{cs:List Value}(vs:List Value)(ha:ev n e a= .pointer (some ⟨g,off,none⟩))(hx:ev n e x=v)
  (hv:v.cells=vs.toArray)(hs: ∀w,(sizeOf t).run P w= .ok vs.length w)(h1:vs.all Value.oneCell'=true)(hb:Blk w g t' cs)(hl:off+vs.length≤cs.length)
  (k: ∀w',Frm (· =g) w w'→w'.heap.size=w.heap.size→Blk w' g t' (cs.take off++vs++cs.drop (off+vs.length))→wpListIn (fR ro) m P ops Q rest (mkA dfs n e) w'):
  wpListIn (fR ro) m P ops Q (⟨none,.store t a x,ty,pos,af,none⟩::rest) (mkA dfs n e) w:=by
 have hst:=run_storeCells_at P g off t' vs 0 cs.toArray w hb (by simpa using hl) (List.all_eq_true.1 h1)
 simp only[WB] at hst
 unfold wpListIn
 rw[Zd,show Qaa n e ops none=true from rfl,if_pos rfl]
 refine⟨fun _ _=>trivial,?_⟩
 rw[QfX (by intro c h;cases h),Yk]
 simp only[execOp,ha,hx,Instr.storeAt,Instr.sureAddr,storeVar,hv,hs w,Sem.run_bind,Sem.run_pure,Result.andThen_ok,Qyu,ne_eq,not_true_eq_false,if_false,hst,Oper.uponIn,Qgq]
 refine k _ ⟨rfl,rfl,rfl,by simp [World.setRow],Ug _,fun j _ hj=> ?_⟩ (by simp [World.setRow]) ?_
 ·simp only[World.setRow,WG]
  rw[if_neg fun h=>hj h.symm]
 ·exact setRow_heap w g cs.toArray (cs.take off++vs++cs.drop (off+vs.length)).toArray t' (0,0) hb
theorem QiT{l:List Oper}{id:Nat}(h:wpListIn (fR none) 0 P l.toArray Q l (mkA dfs n e) w):(Code.region id l.toArray false).wp P Q (mkA dfs n e) w:=wpIn_wide.1 (wpIn_region_lit (F:=Fence.wide) (n:=0) h)
def Qf8(dfs:List Deferred)(n:Nat)(e:Nat→Value)(ps:Array Tmp)(assign body:Code)(D:Nat)(fn:FuncId)(s:LoopState):Loop:={state:=s,pending:=none,fn,tmps:=(mkA dfs n e).tmps,params:=ps,assign,body,defers:=D}
theorem Qjw{l D p:Nat}{fn:FuncId}{assign body:Code}{v:Value}{W:World}{φ:Value→World→Prop}(hl:W.heap[l]? =some (.loop (Qf8 dfs n e #[p] assign body D fn .ready)))
  (h: ∀m,assign.wpIn (fR (some l)) m P (Exit.then (fun a₁ w₁=> ∃w₂,(Instr.beginRound l).run P w₁= .ok () w₂∧body.wpIn (fR (some l)) m P (roundPost P l (Ret φ)) a₁ w₂) fun _ _ _=>False) (mkA [] n (upd e p v)) W):
  Yd P l #[v] W (Ret φ):=by
 refine⟨fn,(mkA [] n (upd e p v)).tmps,assign,body,?_,fun m=>roundIn_of_wpIn trivial ?_⟩
 ·have hy:=run_yield (P:=P) (args:= #[v]) hl rfl
  have e1:(((#[p]:Array Tmp).zip #[v]).foldl (fun tmps (x:Tmp×Value)=>match x with | (t,a)=>tmps.setIfInBounds t a) (mkA dfs n e).tmps)=(mkA [] n (upd e p v)).tmps:=by
   have :(((#[p]:Array Tmp).zip #[v]).foldl (fun tmps (x:Tmp×Value)=>match x with | (t,a)=>tmps.setIfInBounds t a) (mkA dfs n e).tmps)=(mkA dfs n e).tmps.setIfInBounds p v:=by simp
   rw[this,Qr3];unfold mkA;rfl
  rw[←e1];exact hy
 ·rw[QsZ];exact h m
theorem QnR{l D:Nat}{ps:Array Tmp}{fn:FuncId}{assign body:Code}{W:World}(hl:W.heap[l]? =some (.loop (Qf8 dfs n e ps assign body D fn .ready))):
  ∃Wb,(Instr.beginRound l).run P W= .ok () Wb∧Frm (fun b=>b=l) W Wb∧Wb.heap[l]? =some (.loop (Qf8 dfs n e ps assign body D fn .busy)):=
 ⟨_,run_beginRound hl rfl,⟨rfl,rfl,rfl,by simp,Ug _,fun k _ hk=>World.putObj_heap_other hk⟩,World.putObj_heap_same (Array.getElem?_eq_some_iff.1 hl).1⟩
theorem QxM{l D:Nat}{ps:Array Tmp}{fn:FuncId}{assign body:Code}{W:World}(hl:W.heap[l]? =some (.loop (Qf8 dfs n e ps assign body D fn .busy))):
  ∃We,(Instr.endRound l none).run P W= .ok (.bool true) We∧Frm (fun b=>b=l) W We∧We.heap[l]? =some (.loop (Qf8 dfs n e ps assign body D fn .ready)):=
 ⟨_,run_endRound none hl,⟨rfl,rfl,rfl,by simp,Ug _,fun k _ hk=>World.putObj_heap_other hk⟩,World.putObj_heap_same (Array.getElem?_eq_some_iff.1 hl).1⟩
def Qqz(dfs:List Deferred)(n:Nat)(e:Nat→Value)(ps:Array Tmp)(assign body:Code)(D:Nat)(fn:FuncId)(ex:Nat)(dn:Bool):Loop:=
 {state:=match dn with |true=> .done|false=> .ready,pending:=match dn with |true=>some (.exit ex)|false=>none,fn,tmps:=(mkA dfs n e).tmps,params:=ps,assign,body,defers:=D}
theorem QxL{l D ex:Nat}{ps:Array Tmp}{fn:FuncId}{assign body:Code}{W:World}(hl:W.heap[l]? =some (.loop (Qf8 dfs n e ps assign body D fn .busy))):
  ∃We,(Instr.endRound l (some (.exit ex))).run P W= .ok (.bool false) We∧Frm (fun b=>b=l) W We∧We.heap[l]? =some (.loop (Qqz dfs n e ps assign body D fn ex true)):=
 ⟨_,run_endRound (some (.exit ex)) hl,⟨rfl,rfl,rfl,by simp,Ug _,fun k _ hk=>World.putObj_heap_other hk⟩,World.putObj_heap_same (Array.getElem?_eq_some_iff.1 hl).1⟩
def exB(ex:Nat):Bool→Exit
 |true=> .exit ex
 |false=> .normal
theorem Qqr{g:Operand}{ps:Array Tmp}{assign body:Code}{gf ex:Nat}{lb:Array Value}(hg:ev n e g= .func (.func gf) #[] lb)(eg:Xf P gf)
  (h: ∀fn W1,Ext w W1→W1.heap.size=w.heap.size+2→W1.heap[w.heap.size+1]? =some (.loop (Qqz dfs n e ps assign body w.heap.size fn ex false))→W1.heap[w.heap.size]? =some (.deferred (some []))→
   Calls P gf (#[.func (.yield (w.heap.size+1)) #[] #[]]++lb) W1 (Ret fun _ W2=> ∃dn,W2.heap[w.heap.size+1]? =some (.loop (Qqz dfs n e ps assign body w.heap.size fn ex dn))∧W2.heap[w.heap.size]? =some (.deferred (some []))∧
    ∀W3,Frm (fun b=>b=w.heap.size+1) W2 W3→Q (exB ex dn) (mkA ({target:= .collected w.heap.size,args:= #[]}::dfs) n e) W3)):
  (Code.rangeFunc g ps assign body).wp P Q (mkA dfs n e) w:=by
 refine(wpIn_wide (n:=1)).1 (wpIn_rangeFunc fun fn _=> ?_)
 obtain⟨W1,hW1⟩: ∃W1,(w.alloc (.deferred (some []))).alloc (.loop (Qqz dfs n e ps assign body w.heap.size fn ex false))=W1:=⟨_,rfl⟩
 have hE:Ext w W1:=by rw[←hW1];exact(QbE _ _).trans (QbE _ _)
 have hL:W1.heap[w.heap.size+1]? =some (.loop (Qqz dfs n e ps assign body w.heap.size fn ex false)):=by
  rw[←hW1];have :=World.alloc_heap_new (w.alloc (.deferred (some []))) (.loop (Qqz dfs n e ps assign body w.heap.size fn ex false));rwa [World.size_alloc] at this
 have hD:W1.heap[w.heap.size]? =some (.deferred (some [])):=by
  rw[←hW1];exact(Below.heap_alloc _ _ _ (by simp)).trans (World.alloc_heap_new w _)
 have hc:=h fn W1 hE (by rw[←hW1];simp) hL hD
 refine⟨w.heap.size+1,[{target:= .collected w.heap.size,args:= #[]}],W1,{target:= .fn (.func gf) lb,args:= #[.func (.yield (w.heap.size+1)) #[] #[]]},W1,gf,#[.func (.yield (w.heap.size+1)) #[] #[]]++lb,W1,?_,?_,fun _ _=>trivial,?_,fun hh=>(by cases hh),?_⟩
 ·rw[←hW1];exact run_enterLoop_outer _ _ _ _ _
 ·rw[Yk];simp only[resolve,hg];simp [go_sem,ev]
 ·simp [invoke,go_sem,eg (#[.func (.yield (w.heap.size+1)) #[] #[]]++lb) W1]
 ·refine callsIn_wide.2 (Calls.mono hc fun en W2 ⟨v,he,dn,hl,hd,hq⟩=> ?_)
  subst he
  have hdf:({mkA dfs n e with defers:=[{target:= .collected w.heap.size,args:= #[]}]++(mkA dfs n e).defers}:Act)=mkA ({target:= .collected w.heap.size,args:= #[]}::dfs) n e:=by rw[Qar];unfold mkA;rfl
  cases dn with
  |false=>
   refine⟨none,_,run_endLoop (P:=P) hl (by simp [Qqz]),?_⟩
   rw[hdf];exact hq _ ⟨rfl,rfl,rfl,by simp,Ug _,fun k _ hk=>World.putObj_heap_other hk⟩
  |true=>
   refine⟨some (.exit ex),_,run_endLoop (P:=P) hl (by simp [Qqz]),?_⟩
   rw[hdf];exact wpIn_exit (hq _ ⟨rfl,rfl,rfl,by simp,Ug _,fun k _ hk=>World.putObj_heap_other hk⟩)
theorem Qsw{f:FuncId}{fn:Func}{c:Code}{args:Array Value}{R:Ending→World→Prop}(hf:P.funcs[f]? =some fn)(hb:fn.body=some c)(hn:fn.ntmps=n)(hs:Nat.ble args.size n=true)
  (h:c.wp P (bodyPostM Fence.wide 0 P fn R) (mkA [] n fun t=>args.getD t undef) w):Calls P f args w R:=by
 refine callsIn_wide.1 (callsIn_of_wp_marks (F:=Fence.wide) (n:=0) hf hb trivial ?_)
 rw[hn,Qj0 n args (Nat.le_of_ble_eq_true hs)]
 exact wpIn_wide.2 h
theorem Qx2{fn:Func}{φ:Value→World→Prop}{t D:Nat}(v:Value)(hr:fn.results= #[.tmp t])(h1:ev n e (.tmp t)=v)(hD:w.heap[D]? =some (.deferred (some [])))(h:φ v (w.putObj D (.deferred none))):
  bodyPostM Fence.wide 0 P fn (Ret φ) .ret (mkA [{target:= .collected D,args:= #[]}] n e) w:=by
 show LeavesInM Fence.wide 0 P fn (mkA _ n e).tmps (Ret φ) (mkA _ n e).defers .returning w
 rw[Qar]
 refine⟨by simp,.inl ⟨D,_,rfl,run_takeDeferred hD,v,?_,v,rfl,h⟩⟩
 unfold results
 rw[hr]
 refine Qxu _ ?_
 simp [Qcn,h1]
theorem Qxw{fn:Func}{φ:Value→World→Prop}{t:Nat}(v:Value)(hr:fn.results= #[.tmp t])(h1:ev n e (.tmp t)=v)(h:φ v w):bodyPostM Fence.wide 0 P fn (Ret φ) .ret (mkA [] n e) w:=by
 show LeavesInM Fence.wide 0 P fn (mkA [] n e).tmps (Ret φ) (mkA [] n e).defers .returning w
 rw[Qar]
 refine⟨v,?_,v,rfl,h⟩
 unfold results
 rw[hr]
 refine Qxu _ ?_
 simp [Qcn,h1]
theorem Qj7{ex:Nat}{dn:Bool}{a:Act}(h:Q .normal a w):Exit.inBlock ex Q (exB ex dn) a w:=by
 cases dn
 ·exact bN h
 ·exact bE h
theorem Qia{W:World}{l:Nat}{o:Obj}:Frm (fun b=>b=l) W (W.putObj l o):=⟨rfl,rfl,rfl,by simp,Ug _,fun k _ hk=>World.putObj_heap_other hk⟩
end
end Go.Gx

namespace Go.Gx
open Go.RowKit
variable{dfs:List Deferred}
section
variable{P:Program}{n m:Nat}{e:Nat→Value}{w:World}{Q:Exit→Act→World→Prop}{ops:Array Oper}{rest:List Oper}{ro:Option Nat}{ty:TypeId}{pos:String}{af:Array Edge}{K:Act→World→Prop}{fuel:Nat}{listed:Array Bool}
theorem Qkn: ∀(ex:Exit)(a:Act)(w:World),NoPanic Q ex a w→Q ex a w:=fun ex a w h=>by
 cases ex<;>first | exact h| exact absurd h (by intro h;cases h)
theorem Qab{i d:Nat}{o:Oper}{v:Value}(ho:ops[i]? =some o)(hv: ∀w',Ev P n e o w' v)(hab: ∀w a,o.about P w a=none)(hd:o.dst=some d)(hg:Qaa n e ops o.guard=true)
  (hc:(Region.noSelect ops&&Region.free .any ops listed i&& (Region.ready .any ops listed).contains i)=true)
  (k:wpAnyIn (fR none) m P .any ops (NoPanic Q) fuel (listed.setIfInBounds i true) (mkA dfs n (upd e d v)) w):wpAnyIn (fR none) m P .any ops (NoPanic Q) (fuel+1) listed (mkA dfs n e) w:=by
 simp only[Bool.and_eq_true] at hc
 refine wpAnyIn_first rfl ho (Region.noSelect_spec hc.1.1) (fun _ _ _ h=>h) fuel listed _ w (Region.free_spec ho hc.1.2) (by simpa using hc.2) (v:=v) ⟨.inl ⟨by rw[Zd];exact hg,fun w'=>by rw[Yk];exact hv w'⟩,fun w=>hab w _⟩ ?_
 rw[hd,YM]
 exact k
theorem Qpl{a:Act}(i:Nat)(hc:Region.ready .any ops listed=[i])(h:wpOpIn (fR ro) m P ops Q i (wpAnyIn (fR ro) m P .any ops Q fuel (listed.setIfInBounds i true)) a w):wpAnyIn (fR ro) m P .any ops Q (fuel+1) listed a w:=by
 refine⟨fun h=>(by rw[h] at hc;cases hc),fun j hj=> ?_⟩
 rw[hc] at hj
 obtain rfl:j=i:=by simpa using hj
 exact h
theorem Qxg{a:Act}(i j:Nat)(hc:Region.ready .any ops listed=[i,j])(hi:wpOpIn (fR ro) m P ops Q i (wpAnyIn (fR ro) m P .any ops Q fuel (listed.setIfInBounds i true)) a w)
  (hj:wpOpIn (fR ro) m P ops Q j (wpAnyIn (fR ro) m P .any ops Q fuel (listed.setIfInBounds j true)) a w):wpAnyIn (fR ro) m P .any ops Q (fuel+1) listed a w:=by
 refine⟨fun h=>(by rw[h] at hc;cases hc),fun k hk=> ?_⟩
 rw[hc] at hk
 simp only[List.mem_cons,List.not_mem_nil,or_false] at hk
 rcases hk with rfl|rfl
 ·exact hi
 ·exact hj
theorem Qri{a:Act}(hc:Region.ready .any ops listed=[])(h:Q .normal a w):wpAnyIn (fR ro) m P .any ops (NoPanic Q) 0 listed a w:=⟨hc,h⟩
theorem jEv{i d:Nat}{o:Oper}{v:Value}(ho:ops[i]? =some o)(hn: ∀c,o.op≠ .defer c)(hv:Ev P n e o w v)(hd:o.dst=some d)(hg:Qaa n e ops o.guard=true)(k:K (mkA dfs n (upd e d v)) w):wpOpIn (fR ro) m P ops Q i K (mkA dfs n e) w:=by
 unfold wpOpIn
 simp only[ho]
 rw[Zd,hg,if_pos rfl]
 refine⟨fun _ _=>trivial,?_⟩
 rw[QfX hn,Yk,hv]
 show K ((mkA dfs n e).put o.dst v) w
 rw[hd,YM]
 exact k
theorem Quv{F:Fence}{c:Code}(I:Nat→(Nat→Value)→World→Prop)(m0:Nat)(h0:I m0 e w)
  (round: ∀k e w,I k e w→c.wpIn F m P (Exit.then (QsY (dfs:=dfs) n I k) Q) (mkA dfs n e) w):(Code.loop c).wpIn F m P Q (mkA dfs n e) w:=by
 intro b k cs hro hb hr
 have key: ∀j e w,I j e w→ ∃ex a' w',Q ex a' w'∧ArrivesIn (Machine.fenced P F) P (lone (b.atR (mkA dfs n e) (.code c:: .inLoop c::k)) cs w) b k cs ex a' w':=by
  intro j
  induction j using Nat.strongRecOn with
  |_ j ih=>
   intro e w hI
   obtain⟨ex,a1,w1,hq,harr⟩:=round j e w hI b (.inLoop c::k) cs hro hb hr
   cases ex with
   |normal=>
    obtain⟨m',e',rfl,hlt,hi⟩:=hq
    obtain⟨ex2,a2,w2,hq2,harr2⟩:=ih m' hlt e' w1 hi
    exact⟨ex2,a2,w2,hq2,.of_steps (StepsIn.trans harr (.one (fenced_calm hb hr rfl) stepR_inLoop)) harr2⟩
   |exit id=>exact⟨_,a1,w1,hq,.pass (x:= .inLoop c) rfl (fun _ _=> .inl (by simp)) harr⟩
   |goto l=>exact⟨_,a1,w1,hq,.pass (x:= .inLoop c) rfl (fun _ _=> .inl (by simp)) harr⟩
   |ret=>exact⟨_,a1,w1,hq,.pass (x:= .inLoop c) rfl (fun _ _=> .inl (by simp)) harr⟩
   |panic ch=>exact⟨_,a1,w1,hq,.pass (x:= .inLoop c) rfl (fun _ _=> .inl (by simp)) harr⟩
   |outgrown=>exact⟨_,a1,w1,hq,.pass (x:= .inLoop c) rfl (fun _ _=> .inl (by simp)) harr⟩
 obtain⟨ex,a',w',hq,harr⟩:=key _ e w h0
 exact⟨ex,a',w',hq,.of_steps (.one (fenced_calm hb hr rfl) stepR_loop) harr⟩
end
end Go.Gx

namespace Go.Gx
open Go.RowKit
variable{dfs:List Deferred}
section
variable{P:Program}{n m:Nat}{e:Nat→Value}{w:World}{Q:Exit→Act→World→Prop}{ops:Array Oper}{ty:TypeId}{pos:String}{af:Array Edge}{K:Act→World→Prop}{fuel:Nat}{listed:Array Bool}
def Qlt(o:Oper):Bool:=match o.op with
 | .defer _=>false
 |_=>true
theorem jUp{l:Nat}(hn:ops.all Qlt=true): ∀(fuel:Nat)(listed:Array Bool)(a:Act)(w:World),wpAnyIn (fR none) m P .any ops Q fuel listed a w→wpAnyIn (fR (some l)) m P .any ops Q fuel listed a w
 |0,_,_,_,h=>h
 |fuel+1,listed,a,w,h=>by
  refine⟨h.1,fun i hi=> ?_⟩
  have h2:=h.2 i hi
  unfold wpOpIn at h2⊢
  cases ho:ops[i]? with
  |none=>rw[ho] at h2;exact jUp hn fuel _ _ _ h2
  |some o=>
   rw[ho] at h2
   simp only at h2⊢
   have hd: ∀c,o.op≠ .defer c:=fun c hc=>by
    obtain⟨hlt,he⟩:=Array.getElem?_eq_some_iff.1 ho
    have :=Array.all_eq_true.1 hn i hlt
    rw[he] at this
    unfold Qlt at this
    rw[hc] at this
    cases this
   split
   ·rename_i hw
    rw[if_pos hw] at h2
    have h3:=Oper.wpIn_mono (K':=wpAnyIn (fR (some l)) m P .any ops Q fuel (listed.setIfInBounds i true)) (fun a w=>jUp hn fuel _ a w) h2
    refine⟨h3.1,?_⟩
    have h4:=h3.2
    rw[QfX (ro:=none) hd] at h4
    rw[QfX (ro:=some l) hd]
    exact h4
   ·rename_i hw
    rw[if_neg hw] at h2
    exact⟨h2.1,jUp hn fuel _ _ _ h2.2⟩
theorem Quu{l id:Nat}{a:Act}(hm:P.follows .mixedOrders=true)(hn:ops.all Qlt=true)(h: ∀w',Ext w w'→w'.heap.size=w.heap.size→wpAnyIn (fR none) m P .any ops (NoPanic Q) ops.size (Array.replicate ops.size false) a w'):(Code.region id ops true).wpIn (fR (some l)) m P Q a w:=
 wpIn_mono (wpIn_region_any (F:=fR (some l)) (n:=m) hm (jUp hn _ _ _ _ (h w.drew (Ql5 w) rfl))) Qkn
theorem Qmi{ro:Option Nat}{i:Nat}{t t':TypeId}{a x:Operand}{g off:Nat}{v:Value}{cs:List Value}(vs:List Value)(ho:ops[i]? =some ⟨none,.store t a x,ty,pos,af,none⟩)(ha:ev n e a= .pointer (some ⟨g,off,none⟩))(hx:ev n e x=v)
  (hv:v.cells=vs.toArray)(hs: ∀w,(sizeOf t).run P w= .ok vs.length w)(h1:vs.all Value.oneCell'=true)(hb:Blk w g t' cs)(hl:off+vs.length≤cs.length)
  (k: ∀w',Frm (· =g) w w'→w'.heap.size=w.heap.size→Blk w' g t' (cs.take off++vs++cs.drop (off+vs.length))→K (mkA dfs n e) w'):
  wpOpIn (fR ro) m P ops Q i K (mkA dfs n e) w:=by
 have hst:=run_storeCells_at P g off t' vs 0 cs.toArray w hb (by simpa using hl) (List.all_eq_true.1 h1)
 simp only[WB] at hst
 unfold wpOpIn
 simp only[ho]
 rw[Zd,show Qaa n e ops none=true from rfl,if_pos rfl]
 refine⟨fun _ _=>trivial,?_⟩
 rw[QfX (by intro c h;cases h),Yk]
 simp only[execOp,ha,hx,Instr.storeAt,Instr.sureAddr,storeVar,hv,hs w,Sem.run_bind,Sem.run_pure,Result.andThen_ok,Qyu,ne_eq,not_true_eq_false,if_false,hst,Oper.uponIn,Qgq]
 refine k _ ⟨rfl,rfl,rfl,by simp [World.setRow],Ug _,fun j _ hj=> ?_⟩ (by simp [World.setRow]) ?_
 ·simp only[World.setRow,WG]
  rw[if_neg fun h=>hj h.symm]
 ·exact setRow_heap w g cs.toArray (cs.take off++vs++cs.drop (off+vs.length)).toArray t' (0,0) hb
theorem Qxv{a:Nat}{t t':TypeId}{g:Nat}{v:Value}(ht:QhH P t=true)(ha:ev n e (.tmp a)= .pointer (some ⟨g,0,none⟩))(hb:Blk w g t' [v]):Qb6 P n e w (.cell a t) v:=
 ⟨_,ha,QfV ht (hb.at_ (i:=0) rfl)⟩
theorem Qxx{fn:Func}{φ:Value→World→Prop}{r s t:ResultVar}{D:Nat}{w':World}(v u x:Value)(hr:fn.results= #[r,s,t])(hD:w.heap[D]? =some (.deferred (some [])))(hw:w.putObj D (.deferred none)=w')(h1:Qb6 P n e w' r v)(h2:Qb6 P n e w' s u)(h3:Qb6 P n e w' t x)(h:φ (.tuple #[v,u,x]) w'):
  bodyPostM Fence.wide 0 P fn (Ret φ) .ret (mkA [{target:= .collected D,args:= #[]}] n e) w:=by
 subst hw
 show LeavesInM Fence.wide 0 P fn (mkA _ n e).tmps (Ret φ) (mkA _ n e).defers .returning w
 rw[Qar]
 refine⟨by simp,.inl ⟨D,_,rfl,run_takeDeferred hD,_,?_,_,rfl,h⟩⟩
 unfold results
 rw[hr]
 refine QxP _ ?_ ?_ ?_
 ·cases r with
  |tmp t=>simp only[Qb6] at h1;simp [Qcn,h1]
  |cell a t=>obtain⟨p,hp,hl⟩:=h1;simp [Qcn,hp,Qao,hl]
 ·cases s with
  |tmp t=>simp only[Qb6] at h2;simp [Qcn,h2]
  |cell a t=>obtain⟨p,hp,hl⟩:=h2;simp [Qcn,hp,Qao,hl]
 ·cases t with
  |tmp t=>simp only[Qb6] at h3;simp [Qcn,h3]
  |cell a t=>obtain⟨p,hp,hl⟩:=h3;simp [Qcn,hp,Qao,hl]
end
end Go.Gx
