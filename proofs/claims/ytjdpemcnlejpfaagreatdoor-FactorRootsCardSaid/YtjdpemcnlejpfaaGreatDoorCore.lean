/-
  Core, Laws, Preds, Laws2, Laws4
-/
import Derived.Orders
import Derived.Below
import Derived.Tactics
import Derived.Tactics2
import Derived.KernelRfl
import Derived.Deep.RegionHeld3
import Derived.TacticsIn
import Derived.OrdersIn
import Derived.Laws.OwnMore
import Derived.Laws.CopyRow
import Derived.Laws.Cells
import Derived.Laws.Entries
import Derived.Laws.Small
import Derived.OwnWalk
import Derived.Scope
set_option linter.all false
namespace Go.Gx
open Go.RowKit
variable{dfs:List Deferred}
theorem lq{p:Prop}(h:p:=by((try simp only[List.length_map,List.length_append,List.length_replicate,List.length_set,List.length_take,List.length_drop,List.length_cons,List.length_nil])<;>omega)):p:=h
theorem q1{p:Prop}(h:p:=by intro hh;(try dsimp only at hh);omega):p:=h
theorem q2{p:Prop}(h:p:=by intro b hb hh;(try dsimp only at hb hh);omega):p:=h
theorem q3{p:Prop}(h:p:=by intro b hlt hb hh;(try dsimp only at hb hh);omega):p:=h
theorem q4{p:Prop}(h:p:=by intro b hlt hh;(try dsimp only at hh⊢);omega):p:=h
theorem q5{p:Prop}(h:p:=by intro b hlt hb;(try dsimp only at hb⊢);omega):p:=h
def upd(e:Nat→Value)(t:Nat)(v:Value):Nat→Value:=fun s=>bif Nat.beq s t then v else e s
def mkA(dfs:List Deferred)(n:Nat)(e:Nat→Value):Act:=⟨Array.ofFn (n:=n) fun i=>e i.val,dfs⟩
def ev(n:Nat)(e:Nat→Value):Operand→Value
  | .tmp t=>bif Nat.blt t n then e t else undef
  | .const v=>v
  | .global g=> .pointer (some ⟨g,0,none⟩)
  | .func f=> .func (.func f) #[] #[]
theorem Qkb{a b:Nat}(h:a<b):Nat.blt a b=true:=by
  unfold Nat.blt;exact Nat.ble_eq_true_of_le h
theorem QhS{a b:Nat}(h: ¬a<b):Nat.blt a b=false:=by
  cases hb:Nat.blt a b with
  |false=>rfl
  |true=>exact absurd (Nat.le_of_ble_eq_true hb) h
theorem Yy(n:Nat)(e:Nat→Value):(mkA dfs n e).eval=ev n e:=by
  funext x
  cases x with
  |tmp t=>
    simp only[Act.eval,ev,mkA]
    by_cases h:t<n
    · rw[Qkb h];simp [Array.getD,h]
    · rw[QhS h];simp [Array.getD,h]
  |const v=>rfl
  |global g=>rfl
  |func f=>rfl
theorem QuD{a b:Nat}(h:a≠b):Nat.beq a b=false:=by
  cases hb:Nat.beq a b with
  |false=>rfl
  |true=>exact absurd (Nat.eq_of_beq_eq_true hb) h
theorem upd_same(e:Nat→Value)(t:Nat)(v:Value):upd e t v t=v:=by simp [upd]
theorem QiY(e:Nat→Value){t s:Nat}(v:Value)(h:s≠t):upd e t v s=e s:=by
  simp only[upd,QuD h,cond_false]
theorem Qr9{e:Nat→Value}{t:Nat}{v:Value}(h:e t=v):upd e t v=e:=by
  funext s
  by_cases hs:s=t
  · subst hs;rw[upd_same,h]
  · rw[QiY e v hs]
theorem sq{e:Nat→Value}{t:Nat}{v:Value}(h:e t=v): ∃r,e=upd r t v:=⟨e,(Qr9 h).symm⟩
theorem Zp(n:Nat)(e:Nat→Value)(d:Nat)(v:Value):(mkA dfs n e).put (some d) v=mkA dfs n (upd e d v):=by
  unfold Act.put mkA
  simp only[Act.mk.injEq,and_true]
  apply Array.ext
  · simp
  · intro i h1 h2
    simp at h1 h2
    by_cases hd:i=d
    · subst hd;simp [upd_same]
    · rw[Array.getElem_setIfInBounds (by simpa using h1),if_neg (Ne.symm hd)]
      simp [QiY e v hd]
theorem QqU(a:Act)(v:Value):a.put none v=a:=rfl
theorem Qh7(n:Nat)(args:Array Value)(h:args.size≤n):
    (⟨args++Array.replicate (n -args.size) undef,[]⟩:Act)=mkA [] n (fun t=>args.getD t undef):=by
  unfold mkA
  simp only[Act.mk.injEq,and_true]
  apply Array.ext
  · simp;omega
  · intro i h1 h2
    simp at h1 h2
    by_cases hi:i<args.size
    · simp [Array.getElem_append_left hi,Array.getD,hi]
    · simp [Array.getElem_append_right (Nat.le_of_not_lt hi),Array.getD,hi]
theorem Qqm(n:Nat)(e:Nat→Value)(t:Nat):(mkA dfs n e).tmps.getD t undef=ev n e (.tmp t):=by
  rw[←Yy];rfl
theorem Qbi(n:Nat)(e:Nat→Value):(mkA dfs n e).defers=dfs:=rfl
structure Frm (G:Nat→Prop) (w w':World):Prop where
  os:w'.os=w.os
  tape:w'.tape=w.tape
  output:w'.output=w.output
  size:w.heap.size≤w'.heap.size
  drawn:w.drawn≤w'.drawn
  block: ∀k,k<w.heap.size→ ¬G k→w'.heap[k]? =w.heap[k]?
abbrev Ext(w w':World):Prop:=Frm (fun _=>False) w w'
theorem Frm.refl(G:Nat→Prop)(w:World):Frm G w w:=⟨rfl,rfl,rfl,Nat.le_refl _,Nat.le_refl _,fun _ _ _=>rfl⟩
theorem Frm.trans{G:Nat→Prop}{a b c:World}(h:Frm G a b)(k:Frm G b c):Frm G a c:=
  ⟨k.os.trans h.os,k.tape.trans h.tape,k.output.trans h.output,Nat.le_trans h.size k.size,Nat.le_trans h.drawn k.drawn,
    fun i hi hg=>(k.block i (Nat.lt_of_lt_of_le hi h.size) hg).trans (h.block i hi hg)⟩
theorem Frm.mono{G G':Nat→Prop}{w w':World}(h:Frm G w w')(hG: ∀b,b<w.heap.size→G b→G' b):Frm G' w w':=
  ⟨h.os,h.tape,h.output,h.size,h.drawn,fun k hk hg=>h.block k hk fun g=>hg (hG k hk g)⟩
theorem Frm.of_ext{G:Nat→Prop}{w w':World}(h:Ext w w'):Frm G w w':=h.mono fun _ _ f=>f.elim
theorem Frm.xr{G:Nat→Prop}{a b c:World}(h:Frm G a b)(k:Ext b c):Frm G a c:=h.trans k.of_ext
theorem Frm.rx{G:Nat→Prop}{a b c:World}(h:Ext a b)(k:Frm G b c):Frm G a c:=h.of_ext.trans k
theorem Frm.tr{G H:Nat→Prop}{a b c:World}(h:Frm G a b)(k:Frm H b c):Frm (fun x=>G x∨H x) a c:=
  (h.mono fun _ _ g=> .inl g).trans (k.mono fun _ _ g=> .inr g)
theorem Frm.below{w w':World}(h:Ext w w'):Below w.heap.size w w':=⟨h.os,h.tape,h.output,h.size,fun k hk=>h.block k hk fun f=>f⟩
theorem Qp4(w:World):Ext w w.drew:=⟨rfl,rfl,rfl,Nat.le_refl _,Nat.le_succ _,fun _ _ _=>rfl⟩
theorem Frm.cell{G:Nat→Prop}{w w':World}(h:Frm G w w'){p:Addr}(hp:p.block<w.heap.size)(hg: ¬G p.block):w'.cell? p=w.cell? p:=
  World.cell?_of_block (w:=w) (h.block p.block hp hg)
def Blk(w:World)(g:Nat)(t:TypeId)(cs:List Value):Prop:=w.heap[g]? =some (.cells cs.toArray t (0,0))
theorem Blk.lt{w:World}{g:Nat}{t:TypeId}{cs:List Value}(h:Blk w g t cs):g<w.heap.size:=by
  rcases Nat.lt_or_ge g w.heap.size with hlt|hge
  · exact hlt
  · unfold Blk at h;rw[Array.getElem?_eq_none hge] at h;cases h
theorem Blk.frm{G:Nat→Prop}{w w':World}{g:Nat}{t:TypeId}{cs:List Value}(h:Blk w g t cs)(k:Frm G w w')(hg: ¬G g):Blk w' g t cs:=
  (k.block g h.lt hg).trans h
theorem Blk.ext{w w':World}{g:Nat}{t:TypeId}{cs:List Value}(h:Blk w g t cs)(k:Ext w w'):Blk w' g t cs:=h.frm k fun f=>f
theorem Blk.cell{w:World}{g:Nat}{t:TypeId}{cs:List Value}(h:Blk w g t cs)(i:Nat):w.cell? ⟨g,i,none⟩=cs[i]? :=by
  unfold Blk at h;simp [World.cell?,h]
theorem Blk.at_{w:World}{g:Nat}{t:TypeId}{cs:List Value}(h:Blk w g t cs){i:Nat}{v:Value}(hv:cs[i]? =some v):w.cell? ⟨g,i,none⟩=some v:=by
  rw[h.cell,hv]
theorem Blk.new(w:World)(t:TypeId)(cs:List Value):Blk (w.alloc (.cells cs.toArray t)) w.heap.size t cs:=by
  show(w.heap.push _)[w.heap.size]? =_
  simp
theorem Qbc(w:World)(o:Obj):Ext w (w.alloc o):=
  ⟨rfl,rfl,rfl,by simp,Nat.le_refl _,fun k hk _=>Below.heap_alloc _ _ _ hk⟩
theorem Blk.inj{w:World}{g:Nat}{t t':TypeId}{cs cs':List Value}(h:Blk w g t cs)(h':Blk w g t' cs'):t=t'∧cs=cs':=by
  unfold Blk at h h'
  rw[h] at h'
  simp at h'
  exact⟨h'.2,h'.1⟩
def Ev(P:Program)(n:Nat)(e:Nat→Value)(o:Oper)(w:World)(v:Value):Prop:=(execOp (ev n e) o).run P w= .ok (.value v) w
theorem Ev.un{P:Program}{n:Nat}{e:Nat→Value}{o:Oper}{w:World}{v:Value}(h:Ev P n e o w v):(execOp (ev n e) o).run P w= .ok (.value v) w:=h
theorem QsZ{P:Program}{n:Nat}{e:Nat→Value}{w:World}{x:Operand}{d:Option Nat}{ty:TypeId}{pos:String}{af:Array Edge}{gd:Option (Nat×Bool)}{v:Value}(hx:ev n e x=v):Ev P n e ⟨d,.move x,ty,pos,af,gd⟩ w v:=by subst hx;rfl
theorem Qno{P:Program}{n:Nat}{e:Nat→Value}{w:World}{x:Operand}{d:Option Nat}{ty:TypeId}{pos:String}{af:Array Edge}{gd:Option (Nat×Bool)}{v:Value}(hx:ev n e x=v):Ev P n e ⟨d,.assign x,ty,pos,af,gd⟩ w v:=by subst hx;rfl
def guardOf(n:Nat)(e:Nat→Value)(ops:Array Oper)(j:Nat):Option Bool:=
  match(ops[j]?).bind (·.dst) with
  |some t=>match ev n e (.tmp t) with | .bool b=>some b|_=>none
  |none=>none
theorem Qj7(n:Nat)(e:Nat→Value)(ops:Array Oper)(j:Nat):yielded ops (mkA dfs n e).tmps j=guardOf n e ops j:=by
  unfold yielded guardOf
  cases h:(ops[j]?).bind (·.dst) with
  |none=>rfl
  |some t=>
    simp only[Option.bind_some]
    by_cases ht:t<n
    · simp [mkA,ht,ev,Qkb ht]
      cases e t<;>rfl
    · simp [mkA,ht,ev,QhS ht,undef]
def QbG(n:Nat)(e:Nat→Value)(ops:Array Oper)(g:Option (Nat×Bool)):Bool:=
  match g with
  |none=>true
  |some (j,want)=>guardOf n e ops j==some want
theorem ZD(n:Nat)(e:Nat→Value)(ops:Array Oper)(o:Oper):Region.wanted o (yielded ops (mkA dfs n e).tmps)=QbG n e ops o.guard:=by
  unfold Region.wanted QbG
  cases o.guard with
  |none=>rfl
  |some g=>simp only[Qj7]
abbrev fR(ro:Option Nat):Fence:={Fence.wide with round:=ro}
theorem QoO{ro:Option Nat}{ρ:Operand→Value}{o:Oper}(h: ∀c,o.op≠ .defer c):Oper.semAt ro ρ o=execOp ρ o:=by
  cases ro with
  |none=>rfl
  |some l=>exact Oper.semAt_some l _ _ h
theorem Qw7{P:Program}{ro:Option Nat}{m:Nat}{o:Oper}{a:Act}{w:World}{K:Act→World→Prop}{Q:Exit→Act→World→Prop}(hn: ∀c,o.op≠ .defer c)(h:Oper.wp P o a w K Q):o.wpIn (fR ro) m P a w K Q:=by
  refine⟨fun _ _=>trivial,?_⟩
  rw[QoO hn]
  unfold Oper.wp at h
  generalize(execOp a.eval o).run P w=r at *
  cases r with
  |ok x w'=>
    cases x<;>simp only[Oper.upon,Oper.uponIn] at h⊢ <;>
      first
        | exact h
        | exact h.elim
        | exact⟨fun hh=>(by cases hh),callsIn_wide.2 h⟩
        | exact⟨fun hh=>(by cases hh),fun c cs _=>let⟨v,w'',r,s⟩:=h c cs;⟨v,w'',r,stepsIn_wide.2 s⟩⟩
  |halt x w'=>cases x<;>simp only[Oper.upon,Oper.uponIn] at h⊢ <;>exact h
def CW(P:Program)(c:Code)(Q:Exit→Act→World→Prop)(a:Act)(w:World):Prop:= ∀ro m,c.wpIn (fR ro) m P Q a w
def WL(P:Program)(ops:Array Oper)(Q:Exit→Act→World→Prop)(l:List Oper)(a:Act)(w:World):Prop:= ∀ro m,wpListIn (fR ro) m P ops Q l a w
def EX(Q:Exit→Act→World→Prop)(x:Exit)(a:Act)(w:World):Prop:=Q x a w
def OpW(P:Program)(o:Oper)(a:Act)(w:World)(K:Act→World→Prop)(Q:Exit→Act→World→Prop):Prop:=(∀c,o.op≠ .defer c)∧Oper.wp P o a w K Q
theorem Ev.nd{P:Program}{n:Nat}{e:Nat→Value}{o:Oper}{w:World}{v:Value}(h:Ev P n e o w v): ∀c,o.op≠ .defer c:=by
  intro c hc
  unfold Ev at h
  simp only[execOp,hc,Sem.run_bind] at h
  generalize Sem.run P _ w=r at h
  cases r<;>simp [Result.andThen] at h
section seq
variable{P:Program}{ops:Array Oper}{Q:Exit→Act→World→Prop}{n:Nat}{e:Nat→Value}{w:World}{rest:List Oper}{o:Oper}
theorem sEv{d:Nat}{v:Value}(hv:Ev P n e o w v)(hd:o.dst=some d)(hg:QbG n e ops o.guard=true)
    (k:WL P ops Q rest (mkA dfs n (upd e d v)) w):WL P ops Q (o::rest) (mkA dfs n e) w:=fun ro m=>by
  unfold wpListIn
  rw[ZD,hg,if_pos rfl]
  refine⟨fun _ _=>trivial,?_⟩
  rw[QoO hv.nd,Yy,hv.un]
  show wpListIn (fR ro) m P ops Q rest ((mkA dfs n e).put o.dst v) w
  rw[hd,Zp]
  exact k ro m
theorem QwP{d:Nat}(hd:o.dst=some d)(hg:QbG n e ops o.guard=false)
    (k:WL P ops Q rest (mkA dfs n (upd e d undef)) w):WL P ops Q (o::rest) (mkA dfs n e) w:=fun ro m=>by
  unfold wpListIn
  rw[ZD,hg,if_neg (by simp),hd,Zp]
  exact⟨fun _ _=>trivial,k ro m⟩
theorem sOp(hg:QbG n e ops o.guard=true)(k:OpW P o (mkA dfs n e) w (WL P ops Q rest) Q):WL P ops Q (o::rest) (mkA dfs n e) w:=fun ro m=>by
  unfold wpListIn
  rw[ZD,hg,if_pos rfl]
  exact Oper.wpIn_mono (fun _ _ h=>h ro m) (Qw7 k.1 k.2)
theorem QwO{n:Nat}{e:Nat→Value}{w:World}(h:EX Q .normal (mkA dfs n e) w):WL P ops Q [] (mkA dfs n e) w:=fun _ _=>h
end seq
section draw
variable{P:Program}{ops:Array Oper}{Q:Exit→Act→World→Prop}{md:Region.Mode}{R:World→World→Prop}
def Zx(P:Program)(ops:Array Oper)(R:World→World→Prop)(w:World)(o:Oper)(v:Value)(a:Act):Prop:=
  (Region.wanted o (yielded ops a.tmps)=true∧ ∀w',R w w'→(execOp a.eval o).run P w'= .ok (.value v) w')∨
  (Region.wanted o (yielded ops a.tmps)=false∧v=undef)
theorem Zx.later(ht: ∀a b c,R a b→R b c→R a c){w w':World}{o:Oper}{v:Value}{a:Act}(h:Zx P ops R w o v a)(hr:R w w'):Zx P ops R w' o v a:=
  h.imp (fun⟨hw,hv⟩=>⟨hw,fun w2 h2=>hv w2 (ht _ _ _ hr h2)⟩) id
theorem Zx.of_same{w:World}{o:Oper}{v:Value}{a a':Act}(hy:Zx P ops R w o v a)(he:execOp a'.eval o=execOp a.eval o)
    (hw:Region.wanted o (yielded ops a'.tmps)=Region.wanted o (yielded ops a.tmps)):Zx P ops R w o v a':=by
  unfold Zx at *
  rw[he,hw]
  exact hy
theorem Zx.wpOp(hr: ∀a,R a a){i:Nat}{o:Oper}{v:Value}{a:Act}{w:World}(hi:ops[i]? =some o)(hy:Zx P ops R w o v a)
    {K:Act→World→Prop}(h:K (a.put o.dst v) w):wpOp P ops Q i K a w:=by
  unfold Go.wpOp
  simp only[hi]
  rcases hy with⟨hw,hv⟩| ⟨hw,rfl⟩
  · simp only[hw,if_true,Oper.wp,hv w (hr w),Oper.upon];exact .inl h
  · simp only[hw,Bool.false_eq_true,if_false];exact h
theorem Qpn{j:Nat}{oi oj:Oper}{v:Value}(hj:ops[j]? =some oj)(hap:oi.apart ops oj=true)
    (hsi: ∀cs b,oi.op≠ .select cs b)(hsj: ∀cs b,oj.op≠ .select cs b)
    (hQ: ∀c a w,Q (.panic c) (a.put oi.dst v) w→Q (.panic c) a w){K:Act→World→Prop}{a:Act}{w:World}
    (hy:Zx P ops R w oi v a)(h:wpOp P ops Q j K (a.put oi.dst v) w):
    wpOp P ops Q j (fun a' w'=>Zx P ops R w oi v a'∧K (a'.put oi.dst v) w') a w:=by
  obtain⟨h1,h2,h3⟩:=Oper.apart_spec hap
  have keep: ∀(a:Act),Zx P ops R w oi v a→ ∀u,Zx P ops R w oi v (a.put oj.dst u):=fun a hy u=>
    hy.of_same (execOp_put oi hsi a oj.dst u h3) (wanted_put oi a oj.dst u h3)
  have keepD: ∀d,Zx P ops R w oi v {a with defers:=d::a.defers}:=fun d=>hy.of_same rfl rfl
  unfold wpOp at *
  simp only[hj] at *
  rw[wanted_put oj a oi.dst v h1] at h
  split
  · rename_i hw
    simp only[hw,if_true] at h
    rcases h with h| ⟨hasks,hlets⟩
    case inr=>exact .inr ⟨by unfold Oper.asks at *;rw[execOp_put oj hsj a oi.dst v h1] at hasks;exact hasks,hlets⟩
    refine .inl ?_
    unfold Oper.wp at *
    rw[execOp_put oj hsj a oi.dst v h1] at h
    generalize(execOp a.eval oj).run P w=r at *
    cases r with
    |ok n w'=>
      cases n<;>simp only[Oper.upon] at h⊢
      case value u=>exact⟨keep a hy u,by rw[←Act.put_comm a v u h2];exact h⟩
      case skip=>exact⟨keep a hy _,by rw[←Act.put_comm a v undef h2];exact h⟩
      case defer d=>
        refine⟨keep _ (keepD d) _,?_⟩
        rw[←Act.put_comm _ v undef h2,←Act.put_defers]
        exact h
      case enter f args=>
        refine Calls.mono h fun e w'' he=> ?_
        cases e with
        |returned u=>exact⟨keep a hy u,by rw[←Act.put_comm a v u h2];exact he⟩
        |panicked c=>exact hQ _ _ _ he
        |outgrown=>exact he
      case row row args=>exact Rows.mono h fun u w'' he=>⟨keep a hy u,by rw[←Act.put_comm a v u h2];exact he⟩
    |halt x w'=>
      cases x<;>simp only[Oper.upon] at h⊢
      case panic u=>exact hQ _ _ _ h
  · rename_i hw
    simp only[hw] at h
    exact⟨keep a hy _,by rw[←Act.put_comm a v undef h2];exact h⟩
end draw
attribute [irreducible] mkA OpW Ev CW WL EX
theorem Frm.dE{G:Nat→Prop}{a b c:World}(k:Ext b c)(h:Frm G a b):Frm G a c:=Frm.xr h k
theorem Frm.dG{G H:Nat→Prop}{a b c:World}(k:Frm H b c)(h:Frm G a b):Frm (fun x=>G x∨H x) a c:=Frm.tr h k
theorem Frm.dX{H:Nat→Prop}{a b c:World}(k:Frm H b c)(h:Ext a b):Frm H a c:=Frm.rx h k
theorem Qxo{w w':World}(f:Ext w w':=by(repeat(first |assumption| (apply Frm.dE;assumption)));first |done|fail):Ext w w':=f
theorem zrd{G:Nat→Prop}{w w':World}(f:Frm G w w':=by(repeat(first |assumption| (apply Frm.dE;assumption)| (apply Frm.dX;assumption;exact Qxo)| (apply Frm.dG;assumption)));first |done|fail):Frm G w w':=f
theorem zq6{p:Prop}(h:p:=by intro b hlt hb hh;(try simp only[false_or,or_false] at hb hh)<;>omega):p:=h
theorem zq8{p:Prop}(h:p:=by intro hh;(try simp only[false_or,or_false] at hh)<;>omega):p:=h
theorem Blk.t{w w':World}{g:Nat}{t:TypeId}{cs:List Value}{G:Nat→Prop}(h:Blk w g t cs)(f:Frm G w w':=by exact zrd)(hg: ¬G g:=by exact zq8):Blk w' g t cs:=h.frm f hg
end Go.Gx
namespace Go.Gx
open Go.RowKit
variable{dfs:List Deferred}
section control
variable{P:Program}{Q:Exit→Act→World→Prop}{n:Nat}{e:Nat→Value}{w:World}
theorem cwI{c:Code}{a:Act}(h: ∀ro m,c.wpIn (fR ro) m P Q a w):CW P c Q a w:=by unfold CW;exact h
theorem cwE{c:Code}{a:Act}(h:CW P c Q a w): ∀ro m,c.wpIn (fR ro) m P Q a w:=by unfold CW at h;exact h
theorem cw'{c:Code}{a:Act}(h:CW P c Q a w):c.wp P Q a w:=wpIn_wide.1 (cwE h none 0)
theorem ex{x:Exit}{a:Act}(h:Q x a w):EX Q x a w:=by unfold EX;exact h
theorem ex'{x:Exit}{a:Act}(h:EX Q x a w):Q x a w:=by unfold EX at h;exact h
theorem wlE{ops:Array Oper}{l:List Oper}{a:Act}(h:WL P ops Q l a w): ∀ro m,wpListIn (fR ro) m P ops Q l a w:=by unfold WL at h;exact h
theorem cT{c:Operand}{x y:Code}(hc:ev n e c= .bool true)(h:CW P x Q (mkA dfs n e) w):CW P (Code.cond c x y) Q (mkA dfs n e) w:=
  cwI fun ro m=>wpIn_cond_true (by rw[Yy];exact hc) (cwE h ro m)
theorem cF{c:Operand}{x y:Code}(hc:ev n e c= .bool false)(h:CW P y Q (mkA dfs n e) w):CW P (Code.cond c x y) Q (mkA dfs n e) w:=
  cwI fun ro m=>wpIn_cond_false (by rw[Yy];exact hc) (cwE h ro m)
theorem cB{c:Operand}{x y:Code}(b:Bool)(hc:ev n e c= .bool b)(ht:b=true→CW P x Q (mkA dfs n e) w)(hf:b=false→CW P y Q (mkA dfs n e) w):
    CW P (Code.cond c x y) Q (mkA dfs n e) w:=by
  cases b
  · exact cF hc (hf rfl)
  · exact cT hc (ht rfl)
theorem QfG{K K':Act→World→Prop}(h: ∀a w,K a w→K' a w): ∀e a w,Exit.then K Q e a w→Exit.then K' Q e a w:=fun e a w hq=>by
  cases e<;>first | exact h _ _ hq| exact hq
theorem zcQ{a:Act}{x y:Code}(h: ∀K:Act→World→Prop,(∀a w,CW P y Q a w→K a w)→CW P x (Exit.then K Q) a w):CW P (Code.seq x y) Q a w:=
  cwI fun ro m=>wpIn_seq (Go.wpIn_mono (cwE (h (CW P y Q) fun _ _ h=>h) ro m) (QfG fun _ _ h=>cwE h ro m))
theorem zcG{a:Act}{id:Nat}{l:List Oper}(h:WL P l.toArray Q l a w):CW P (Code.region id l.toArray false) Q a w:=cwI fun ro m=>wpIn_region_lit (wlE h ro m)
theorem zcK{a:Act}{id:Nat}{c:Code}(h:CW P c (Exit.inBlock id Q) a w):CW P (.block id c) Q a w:=cwI fun ro m=>wpIn_block (cwE h ro m)
theorem zcN{a:Act}(h:EX Q .normal a w):CW P .skip Q a w:=cwI fun _ _=>wpIn_skip (ex' h)
theorem zcX{a:Act}{id:Nat}(h:EX Q (.exit id) a w):CW P (.exit id) Q a w:=cwI fun _ _=>wpIn_exit (ex' h)
theorem zcR{a:Act}(h:EX Q .ret a w):CW P .ret Q a w:=cwI fun _ _=>wpIn_ret (ex' h)
theorem zcL{a:Act}{l:Nat}(h:EX Q .normal a w):CW P (.label l) Q a w:=cwI fun _ _=>wpIn_label (ex' h)
theorem Qaa{b:Frame}{a:Act}{k:List Item}{cs:List Frame}{c:Code}:step P (lone (b.atR a (.code (.scope c)::k)) cs w)= .next (lone (b.atR a (.code c:: .inScope c::k)) cs w):=
  step_lone_go (by simp [stepG,stepG.exec,Frame.atR])
theorem QhF{b:Frame}{a:Act}{k:List Item}{cs:List Frame}{c:Code}:step P (lone (b.atR a (.inScope c::k)) cs w)= .next (lone (b.atR a k) cs w):=
  step_lone_go (by simp [stepG,stepG.exec,Frame.atR])
theorem QcR{F:Fence}{m:Nat}{a:Act}{c:Code}(h:c.wpIn F m P (Exit.noGoto Q) a w):(Code.scope c).wpIn F m P Q a w:=by
  intro b k cs hro hb hr
  have h0:(lone (b.atR a (.code (.scope c)::k)) cs w).fenced P F:=fenced_calm hb hr rfl
  obtain⟨e,a₁,w₁,hq,harr⟩:=h b (.inScope c::k) cs hro hb hr
  cases e with
  |normal=>exact⟨.normal,a₁,w₁,hq,.head h0 Qaa (StepsIn.trans harr (.one (fenced_calm hb hr rfl) QhF))⟩
  |exit id=>
    have hx:exitTo id (.inScope c::k)=exitTo id k:=by simp [exitTo]
    exact⟨.exit id,a₁,w₁,hq,fun k' hk=> .head h0 Qaa (harr.1 k' (by rw[hx];exact hk)),
      fun hr' hk=>let⟨k₁,h1,h2⟩:=harr.2 hr' (by rw[hx];exact hk);⟨k₁,h1,.head h0 Qaa h2⟩⟩
  |goto l=>exact hq.elim
  |ret=>exact⟨_,a₁,w₁,hq,.of_steps (.one h0 Qaa) harr⟩
  |panic ch=>exact⟨_,a₁,w₁,hq,.of_steps (.one h0 Qaa) harr⟩
  |outgrown=>exact⟨_,a₁,w₁,hq,.of_steps (.one h0 Qaa) harr⟩
theorem zcS{a:Act}{c:Code}(h:CW P c (Exit.noGoto Q) a w):CW P (.scope c) Q a w:=cwI fun ro m=>QcR (cwE h ro m)
theorem xN{K:Act→World→Prop}{a:Act}(h:K a w):Exit.then K Q .normal a w:=h
theorem xE{K:Act→World→Prop}{a:Act}{id:Nat}(h:Q (.exit id) a w):Exit.then K Q (.exit id) a w:=h
theorem xR{K:Act→World→Prop}{a:Act}(h:Q .ret a w):Exit.then K Q .ret a w:=h
theorem bN{a:Act}{id:Nat}(h:Q .normal a w):Exit.inBlock id Q .normal a w:=h
theorem bR{a:Act}{id:Nat}(h:Q .ret a w):Exit.inBlock id Q .ret a w:=h
theorem bE{a:Act}{id:Nat}(h:Q .normal a w):Exit.inBlock id Q (.exit id) a w:=by
  show(if id=id then Q .normal a w else Q (.exit id) a w)
  rw[if_pos rfl];exact h
theorem bO{a:Act}{id j:Nat}(hj:Nat.beq j id=false)(h:Q (.exit j) a w):Exit.inBlock id Q (.exit j) a w:=by
  show(if j=id then Q .normal a w else Q (.exit j) a w)
  rw[if_neg (fun e=>by subst e;simp at hj)];exact h
theorem zeE{K:Act→World→Prop}{a:Act}{id:Nat}(h:EX Q (.exit id) a w):EX (Exit.then K Q) (.exit id) a w:=ex (xE (ex' h))
theorem zeR{K:Act→World→Prop}{a:Act}(h:EX Q .ret a w):EX (Exit.then K Q) .ret a w:=ex (xR (ex' h))
theorem zfN{a:Act}{id:Nat}(h:EX Q .normal a w):EX (Exit.inBlock id Q) .normal a w:=ex (bN (ex' h))
theorem zfT{a:Act}{id:Nat}(h:EX Q .ret a w):EX (Exit.inBlock id Q) .ret a w:=ex (bR (ex' h))
theorem zfE{a:Act}{id:Nat}(h:EX Q .normal a w):EX (Exit.inBlock id Q) (.exit id) a w:=ex (bE (ex' h))
theorem zfO{a:Act}{id j:Nat}(hj:Nat.beq j id=false)(h:EX Q (.exit j) a w):EX (Exit.inBlock id Q) (.exit j) a w:=ex (bO hj (ex' h))
theorem zgN{a:Act}(h:EX Q .normal a w):EX (Exit.noGoto Q) .normal a w:=ex (show Exit.noGoto Q .normal a w from(show Q .normal a w from ex' h))
theorem zgR{a:Act}(h:EX Q .ret a w):EX (Exit.noGoto Q) .ret a w:=ex (show Exit.noGoto Q .ret a w from(show Q .ret a w from ex' h))
theorem zgE{a:Act}{id:Nat}(h:EX Q (.exit id) a w):EX (Exit.noGoto Q) (.exit id) a w:=ex (show Exit.noGoto Q (.exit id) a w from(show Q (.exit id) a w from ex' h))
def Qus(n:Nat)(I:Nat→(Nat→Value)→World→Prop)(m:Nat)(a:Act)(w:World):Prop:= ∃m' e',a=mkA dfs n e'∧m'<m∧I m' e' w
theorem lsN{p:Nat→Prop}: ∀m,p m→ ∃k,p k∧ ∀j,p j→k≤j:=fun m=>by
  induction m using Nat.strongRecOn with
  |_ m ih=>
    intro h
    by_cases hx: ∃j,j<m∧p j
    · obtain⟨j,hj,hp⟩:=hx;exact ih j hj hp
    · exact⟨m,h,fun j hj=>Nat.le_of_not_lt fun hlt=>hx ⟨j,hlt,hj⟩⟩
open Classical in
theorem QwE{c:Code}(I:Nat→(Nat→Value)→World→Prop)(m0:Nat)(h0:I m0 e w)
    (round: ∀m e w,I m e w→CW P c (Exit.then (Qus (dfs:=dfs) n I m) Q) (mkA dfs n e) w):CW P (Code.loop c) Q (mkA dfs n e) w:=cwI fun ro d=>by
  let J:Act→World→Nat→Prop:=fun a w m=> ∃e,a=mkA dfs n e∧I m e w
  refine wpIn_loop (fun a w=> ∃m,J a w m) (fun a w=>if h: ∃m,J a w m then(lsN (p:=J a w) h.choose h.choose_spec).choose else 0) ⟨m0,e,rfl,h0⟩ ?_
  rintro a w hJ
  have hsp:=(lsN (p:=J a w) hJ.choose hJ.choose_spec).choose_spec
  obtain⟨e1,rfl,hI⟩:=hsp.1
  refine Go.wpIn_mono (cwE (round _ e1 w hI) ro d) (QfG fun a' w' ⟨m',e',ha,hlt,hI'⟩=> ?_)
  have hJ': ∃m,J a' w' m:=⟨m',e',ha,hI'⟩
  refine⟨hJ',?_⟩
  simp only[dif_pos hJ,dif_pos hJ']
  exact Nat.lt_of_le_of_lt ((lsN (p:=J a' w') hJ'.choose hJ'.choose_spec).choose_spec.2 m' ⟨e',ha,hI'⟩) hlt
theorem Qv5{c:Code}{a:Act}(J:(Nat→Value)→World→Prop)(h:CW P c (fun ex a w=>ex= .normal∧ ∃e,a=mkA dfs n e∧J e w) a w)(k: ∀e w,J e w→EX Q .normal (mkA dfs n e) w):CW P c Q a w:=
  cwI fun ro m=>Go.wpIn_mono (cwE h ro m) fun ex a w ⟨h1,e,h2,hj⟩=>by subst h1 h2;exact ex' (k e w hj)
end control
def Ret(φ:Value→World→Prop):Ending→World→Prop:=fun en w'=> ∃v,en= .returned v∧φ v w'
theorem Ret.mono{φ ψ:Value→World→Prop}{P:Program}{f:FuncId}{args:Array Value}{w:World}(h:Calls P f args w (Ret φ))(k: ∀v w',φ v w'→ψ v w'):Calls P f args w (Ret ψ):=
  Calls.mono h fun _ w' ⟨v,he,hv⟩=>⟨v,he,k v w' hv⟩
theorem enter{P:Program}{f:FuncId}{fn:Func}{c:Code}{n:Nat}{args:Array Value}{w:World}{R:Ending→World→Prop}
    (hf:P.funcs[f]? =some fn)(hb:fn.body=some c)(hn:fn.ntmps=n)(hs:Nat.ble args.size n=true)
    (h:CW P c (bodyPost P fn R) (mkA [] n fun t=>args.getD t undef) w):Calls P f args w R:=by
  replace h:=cw' h
  refine calls_of_wp hf hb ?_
  rw[hn,Qh7 n args (Nat.le_of_ble_eq_true hs)]
  exact h
def Qmu(P:Program)(n:Nat)(e:Nat→Value)(w:World):ResultVar→Value→Prop
  | .tmp t,v=>ev n e (.tmp t)=v
  | .cell a t,v=> ∃p,ev n e (.tmp a)= .pointer (some p)∧(loadVar t p).run P w= .ok v w
theorem Qu9(n:Nat)(e:Nat→Value)(t:Nat):(mkA dfs n e).tmps[t]?.getD undef=ev n e (.tmp t):=by
  rw[←Qqm (dfs:=dfs)];simp
theorem QlC(p:Addr):asAddr (.pointer (some p))=pure p:=rfl
theorem Qxk{P:Program}{w:World}(f:ResultVar→Sem Value){r:ResultVar}{v:Value}(h:(f r).run P w= .ok v w):
    ((do let vs← #[r].mapM f;pure (if h:vs.size=1 then vs[0] else .tuple vs)):Sem Value).run P w= .ok v w:=by
  simp [h]
theorem Qxl{P:Program}{w:World}(f:ResultVar→Sem Value){r s:ResultVar}{v u:Value}(h:(f r).run P w= .ok v w)(h':(f s).run P w= .ok u w):
    ((do let vs← #[r,s].mapM f;pure (if h:vs.size=1 then vs[0] else .tuple vs)):Sem Value).run P w= .ok (.tuple #[v,u]) w:=by
  simp [h,h']
theorem Qxm{P:Program}{w:World}(f:ResultVar→Sem Value){r s t:ResultVar}{v u x:Value}(h:(f r).run P w= .ok v w)(h':(f s).run P w= .ok u w)(h'':(f t).run P w= .ok x w):
    ((do let vs← #[r,s,t].mapM f;pure (if h:vs.size=1 then vs[0] else .tuple vs)):Sem Value).run P w= .ok (.tuple #[v,u,x]) w:=by
  simp [h,h',h'']
theorem Qxn{P:Program}{w:World}{f:ResultVar→Sem Value}{r s t q:ResultVar}{v u x y:Value}(h:(f r).run P w= .ok v w)(h':(f s).run P w= .ok u w)(h'':(f t).run P w= .ok x w)(h3:(f q).run P w= .ok y w):
    ((do let vs← #[r,s,t,q].mapM f;pure (if h:vs.size=1 then vs[0] else .tuple vs)):Sem Value).run P w= .ok (.tuple #[v,u,x,y]) w:=by
  simp [h,h',h'',h3]
def Qel(P:Program)(f:FuncId):Prop:= ∀(args:Array Value)(w:World),(callFunc f args).run P w= .ok (.enter f args) w
theorem Xb{P:Program}{f:FuncId}{fn:Func}(hf:P.funcs[f]? =some fn)(hn:(fn.name== "runtime.NumGoroutine")=false)(hb:fn.body.isNone=false):Qel P f:=by
  intro args w
  have h1: ¬fn.name= "runtime.NumGoroutine" :=by simpa using hn
  have h2: ¬fn.body=none:=by intro h;rw[h] at hb;cases hb
  simp [callFunc,program,Sem.run,hf,h1,h2]
section ops
variable{P:Program}{n:Nat}{e:Nat→Value}{w:World}{K:Act→World→Prop}{Q:Exit→Act→World→Prop}{ty:TypeId}{pos:String}{af:Array Edge}{gd:Option (Nat×Bool)}
theorem QwI{φ:Value→World→Prop}{d:Nat}{x:Operand}{xs:List Operand}{ts:Array TypeId}{f:FuncId}{fs cs args:List Value}(hx:ev n e x= .func (.func f) fs.toArray cs.toArray)(hc:Qel P f)
    (h:Calls P f args.toArray w (Ret φ))(ha:fs++(xs.map (ev n e)++cs)=args)(k: ∀v w',φ v w'→K (mkA dfs n (upd e d v)) w'):
    OpW P ⟨some d,.call {callee:= .value x,args:=xs.toArray,argTypes:=ts},ty,pos,af,gd⟩ (mkA dfs n e) w K Q:=by
  have ha':fs.toArray++xs.toArray.map (ev n e)++cs.toArray=args.toArray:=by rw[←ha];simp
  unfold OpW
  refine⟨(by intro c hc;cases hc),?_⟩
  unfold Oper.wp
  rw[Yy]
  simp only[execOp,resolve,hx,Deferred.ofValue,invoke,Sem.run_bind,Sem.run_pure,Result.andThen_ok,ha',hc args.toArray w,Oper.upon]
  exact Calls.mono h fun en w' ⟨v,he,hv⟩=>by subst he;simp only[Zp];exact k v w' hv
theorem Qw6{d:Nat}{t:TypeId}{x:Operand}{v:Value}(cs:List Value)(hx:ev n e x=v)(hc:v.cells=cs.toArray)
    (k: ∀g w',g=w.heap.size→Ext w w'→w'.heap.size=g+1→Blk w' g t cs→K (mkA dfs n (upd e d (.pointer (some ⟨g,0,none⟩)))) w'):
    OpW P ⟨some d,.box t x,ty,pos,af,gd⟩ (mkA dfs n e) w K Q:=by
  unfold OpW
  refine⟨(by intro c hc;cases hc),?_⟩
  unfold Oper.wp
  rw[Yy]
  have :=k w.heap.size (w.alloc (.cells cs.toArray t)) rfl (Qbc _ _) (by simp) (Blk.new _ _ _)
  simp only[execOp,hx,Instr.box,newVar,newRow,newObj,hc,Sem.run_bind,Sem.run_pure,Result.andThen_ok,Sem.run,Oper.upon,Zp]
  exact this
theorem QvB{d:Nat}{t:TypeId}{z:Value}(cs:List Value)(hz: ∀w,(zeroValue t).run P w= .ok z w)(hc:z.cells=cs.toArray)
    (k: ∀g w',g=w.heap.size→Ext w w'→w'.heap.size=g+1→Blk w' g t cs→K (mkA dfs n (upd e d (.pointer (some ⟨g,0,none⟩)))) w'):
    OpW P ⟨some d,.alloc t,ty,pos,af,gd⟩ (mkA dfs n e) w K Q:=by
  unfold OpW
  refine⟨(by intro c hc;cases hc),?_⟩
  unfold Oper.wp
  rw[Yy]
  have :=k w.heap.size (w.alloc (.cells cs.toArray t)) rfl (Qbc _ _) (by simp) (Blk.new _ _ _)
  simp only[execOp,Instr.alloc,hz w,newVar,newRow,newObj,hc,Sem.run_bind,Sem.run_pure,Result.andThen_ok,Sem.run,Oper.upon,Zp]
  exact this
theorem QkO{t t':TypeId}{a x:Operand}{g off:Nat}{v:Value}{cs:List Value}(vs:List Value)(ha:ev n e a= .pointer (some ⟨g,off,none⟩))(hx:ev n e x=v)
    (hv:v.cells=vs.toArray)(hs: ∀w,(sizeOf t).run P w= .ok vs.length w)(h1:vs.all Value.oneCell'=true)(hb:Blk w g t' cs)(hl:off+vs.length≤cs.length)
    (k: ∀w',Frm (· =g) w w'→w'.heap.size=w.heap.size→Blk w' g t' (cs.take off++vs++cs.drop (off+vs.length))→K (mkA dfs n e) w'):
    OpW P ⟨none,.store t a x,ty,pos,af,gd⟩ (mkA dfs n e) w K Q:=by
  unfold OpW
  refine⟨(by intro c hc;cases hc),?_⟩
  unfold Oper.wp
  rw[Yy]
  have hst:=run_storeCells_at P g off t' vs 0 cs.toArray w hb (by simpa using hl) (List.all_eq_true.1 h1)
  simp only[Nat.add_zero] at hst
  simp only[execOp,ha,hx,Instr.storeAt,Instr.sureAddr,storeVar,hv,hs w,Sem.run_bind,Sem.run_pure,Result.andThen_ok,List.size_toArray,ne_eq,not_true_eq_false,if_false,hst,Oper.upon,QqU]
  refine k _ ⟨rfl,rfl,rfl,by simp [World.setRow],Nat.le_refl _,fun j _ hj=> ?_⟩ (by simp [World.setRow]) ?_
  · simp only[World.setRow,Array.getElem?_modify]
    rw[if_neg fun h=>hj h.symm]
  · have :=setRow_heap w g cs.toArray (cs.take off++vs++cs.drop (off+vs.length)).toArray t' (0,0) hb
    exact this
theorem QwJ{d:Nat}{t el:TypeId}{l c:Operand}{k1 k2:IntKind}{z:Value}{size bytes:Nat}(m:Nat)(ht:P.underlying t=some (.slice el))
    (hi:(P.info? el).map (fun i=>(i.zero,i.size,i.bytes))=some (some z,size,bytes))(hl:ev n e l= .int k1 (m:Int))(hc:ev n e c= .int k2 (m:Int))
    (hb:bytes*m≤281474976710656)(hm:m≤9223372036854775807)
    (k: ∀g w',g=w.heap.size→Ext w w'→w'.heap.size=g+1→Blk w' g el (madeCells z.cells (m*size)).toList→K (mkA dfs n (upd e d (.slice (some ⟨g,0,none⟩) m m))) w'):
    OpW P ⟨some d,.makeSlice t l c,ty,pos,af,gd⟩ (mkA dfs n e) w K Q:=by
  obtain⟨i,hi',hz,rfl,rfl⟩:=info_parts hi
  have hb':(i.bytes:Int)*(m:Int)≤281474976710656:=by
    have h:((i.bytes*m:Nat):Int)≤281474976710656:=by omega
    rwa [Int.natCast_mul] at h
  have hr:=run_make (P:=P) w t el i z ht hi' hz k1 k2 m m (by omega) (Int.le_refl _) hb' (by omega)
  simp only[Int.toNat_natCast] at hr
  unfold OpW
  refine⟨(by intro c hc;cases hc),?_⟩
  unfold Oper.wp
  rw[Yy]
  simp only[execOp,hl,hc,Sem.run_bind,hr,Sem.run_pure,Result.andThen_ok,Oper.upon,Zp]
  refine k _ _ rfl (Qbc _ _) (by simp) ?_
  have :=Blk.new w el (madeCells z.cells (m*i.size)).toList
  simpa using this
theorem addr_add(b o i:Nat):(⟨b,o,none⟩:Addr).add i=⟨b,o+i,none⟩:=by
  unfold Addr.add;split<;>simp_all
def QfV(P:Program)(t:TypeId):Bool:=match P.underlying t with |some (.struct _)|some (.array _ _)|none=>false|_=>true
theorem Qdp{t:TypeId}(h:QfV P t=true)(w:World):(isAgg t).run P w= .ok false w:=by
  unfold QfV at h
  cases hu:P.underlying t with
  |none=>simp [hu] at h
  |some d=>cases d<;>simp [hu] at h<;>simp [isAgg,run_underlying hu]
def Qv9(P:Program)(t:TypeId):Bool:=match P.underlying t with |some (.struct _)|some (.array _ _)=>true|_=>false
theorem Qhw{t:TypeId}(h:Qv9 P t=true)(w:World):(isAgg t).run P w= .ok true w:=by
  unfold Qv9 at h
  cases hu:P.underlying t with
  |none=>simp [hu] at h
  |some d=>cases d<;>simp [hu] at h<;>simp [isAgg,run_underlying hu]
theorem Qhx{p:Addr}{v:Value}(h:w.cell? p=some v):(load p).run P w= .ok v w:=by simp [load,Sem.run,h]
theorem QiL{t:TypeId}{p:Addr}{v:Value}(ht:QfV P t=true)(h:w.cell? p=some v):(loadVar t p).run P w= .ok v w:=by
  have h1:=Qdp ht w
  have h2:=Qhx (P:=P) h
  simp only[loadVar,Sem.run_bind,h1,Result.andThen_ok,Bool.false_eq_true,if_false,h2]
theorem QiM{t:TypeId}{p:Addr}{cs:List Value}(ht:Qv9 P t=true)(hs: ∀w,(sizeOf t).run P w= .ok cs.length w)(h: ∀(j:Nat) v,cs[j]? =some v→w.cell? (p.add j)=some v):
    (loadVar t p).run P w= .ok (.agg cs.toArray) w:=by
  simp [loadVar,Qhw ht,hs,run_loadCells_list w p cs h]
theorem Qnk{d:Option Nat}{t el:TypeId}{x ix:Operand}{b off len cap size:Nat}{k:IntKind}{z:Int}(i:Nat)(ht:P.underlying t=some (.slice el))(hs: ∀w,(sizeOf el).run P w= .ok size w)
    (hx:ev n e x= .slice (some ⟨b,off,none⟩) len cap)(hi:ev n e ix= .int k z)(hz:z=(i:Int))(hlt:i<len)(p:Nat)(hp:off+i*size=p):
    Ev P n e ⟨d,.indexAddr t x ix,ty,pos,af,gd⟩ w (.pointer (some ⟨b,p,none⟩)):=by
  subst hz hp
  have h1:(0:Int)≤(i:Int)∧(i:Int)<(len:Int):=⟨by omega,by omega⟩
  simp [Ev,execOp,hx,hi,Instr.indexAt,asIntOf,run_underlying ht,hs,hlt,addr_add]
theorem Qg5{d:Option Nat}{t el:TypeId}{x:Operand}{lo hi:Option Operand}{A:Option Addr}{len cap size:Nat}(l h:Nat)(ht:P.underlying t=some (.slice el))(hs: ∀w,(sizeOf el).run P w= .ok size w)
    (hx:ev n e x= .slice A len cap)
    (hlo:match lo with |none=>l=0|some y=> ∃k z,ev n e y= .int k z∧z=(l:Int))
    (hhi:match hi with |none=>h=len|some y=> ∃k z,ev n e y= .int k z∧z=(h:Int))
    (h1:l≤h)(h2:h≤cap):
    Ev P n e ⟨d,.slice t x lo hi none,ty,pos,af,gd⟩ w (.slice (if cap=l then A else A.map (·.add (l*size))) (h -l) (cap -l)):=by
  have e1:((h:Int)≤(cap:Int)):=by omega
  have e2:((l:Int)≤(h:Int)):=by omega
  cases lo with
  |none=>
    cases hi with
    |none=>
      subst hlo hhi
      simp [Ev,execOp,hx,Instr.sliceAt,Instr.slice,Instr.sliceBounds,run_underlying ht,hs]
    |some y=>
      obtain⟨k,z,hy,rfl⟩:=hhi
      subst hlo
      simp [Ev,execOp,hx,hy,Instr.sliceAt,Instr.slice,Instr.sliceBounds,Instr.sliceBound,asIntOf,run_underlying ht,hs,h2]
  |some y=>
    obtain⟨k,z,hy,rfl⟩:=hlo
    cases hi with
    |none=>
      subst hhi
      simp [Ev,execOp,hx,hy,Instr.sliceAt,Instr.slice,Instr.sliceBounds,Instr.sliceBound,asIntOf,run_underlying ht,hs,h1]
    |some y'=>
      obtain⟨k',z',hy',rfl⟩:=hhi
      simp [Ev,execOp,hx,hy,hy',Instr.sliceAt,Instr.slice,Instr.sliceBounds,Instr.sliceBound,asIntOf,run_underlying ht,hs,h1,h2]
theorem Qjq{d:Option Nat}{op:BinOp}{t t':TypeId}{x y:Operand}{k:IntKind}{a b:Int}(z:Int)(hx:ev n e x= .int k a)(hy:ev n e y= .int k b)
    (h:(op= .add∧k.wrap (a+b)=z)∨(op= .sub∧k.wrap (a -b)=z)∨(op= .mul∧k.wrap (a*b)=z)):
    Ev P n e ⟨d,.binOp op t x y t',ty,pos,af,gd⟩ w (.int k z):=by
  rcases h with⟨rfl,h⟩| ⟨rfl,h⟩| ⟨rfl,h⟩<;>simp [Ev,execOp,hx,hy,eqGuard,binOp,Op.intArith,h]
theorem Qwk{d:Option Nat}{t t':TypeId}{x y:Operand}{k:IntKind}{a b:Int}(z:Int)(hx:ev n e x= .int k a)(hy:ev n e y= .int k b)(h:k.wrap (a+b)=z):
    Ev P n e ⟨d,.binOp .add t x y t',ty,pos,af,gd⟩ w (.int k z):=Qjq z hx hy (.inl ⟨rfl,h⟩)
theorem QwA{d:Option Nat}{t t':TypeId}{x y:Operand}{k:IntKind}{a b:Int}(z:Int)(hx:ev n e x= .int k a)(hy:ev n e y= .int k b)(h:k.wrap (a -b)=z):
    Ev P n e ⟨d,.binOp .sub t x y t',ty,pos,af,gd⟩ w (.int k z):=Qjq z hx hy (.inr (.inl ⟨rfl,h⟩))
theorem Qws{d:Option Nat}{t t':TypeId}{x y:Operand}{k:IntKind}{a b:Int}(z:Int)(hx:ev n e x= .int k a)(hy:ev n e y= .int k b)(h:k.wrap (a*b)=z):
    Ev P n e ⟨d,.binOp .mul t x y t',ty,pos,af,gd⟩ w (.int k z):=Qjq z hx hy (.inr (.inr ⟨rfl,h⟩))
theorem Qww{d:Option Nat}{t t':TypeId}{x y:Operand}{k:IntKind}{a b:Int}(z:Int)(hx:ev n e x= .int k a)(hy:ev n e y= .int k b)(hb:b≠0)(h:k.wrap (a.tdiv b)=z):
    Ev P n e ⟨d,.binOp .quo t x y t',ty,pos,af,gd⟩ w (.int k z):=by
  simp [Ev,execOp,hx,hy,eqGuard,binOp,Op.intDiv,hb,h]
theorem Qwx{d:Option Nat}{t t':TypeId}{x y:Operand}{k:IntKind}{a b:Int}(z:Int)(hx:ev n e x= .int k a)(hy:ev n e y= .int k b)(hb:b≠0)(h:a.tmod b=z):
    Ev P n e ⟨d,.binOp .rem t x y t',ty,pos,af,gd⟩ w (.int k z):=by
  simp [Ev,execOp,hx,hy,eqGuard,binOp,Op.intDiv,hb,h]
theorem Qwp{d:Option Nat}{t t':TypeId}{x y:Operand}{k:IntKind}{a b:Int}(r:Bool)(hx:ev n e x= .int k a)(hy:ev n e y= .int k b)(h:decide (a<b)=r):
    Ev P n e ⟨d,.binOp .lss t x y t',ty,pos,af,gd⟩ w (.bool r):=by
  subst h;simp [Ev,execOp,hx,hy,eqGuard,binOp,Op.intCmp]
theorem Qwo{d:Option Nat}{t t':TypeId}{x y:Operand}{k:IntKind}{a b:Int}(r:Bool)(hx:ev n e x= .int k a)(hy:ev n e y= .int k b)(h:decide (a≤b)=r):
    Ev P n e ⟨d,.binOp .leq t x y t',ty,pos,af,gd⟩ w (.bool r):=by
  subst h;simp [Ev,execOp,hx,hy,eqGuard,binOp,Op.intCmp]
theorem Qwn{d:Option Nat}{t t':TypeId}{x y:Operand}{k:IntKind}{a b:Int}(r:Bool)(hx:ev n e x= .int k a)(hy:ev n e y= .int k b)(h:decide (a>b)=r):
    Ev P n e ⟨d,.binOp .gtr t x y t',ty,pos,af,gd⟩ w (.bool r):=by
  subst h;simp [Ev,execOp,hx,hy,eqGuard,binOp,Op.intCmp]
theorem Qwm{d:Option Nat}{t t':TypeId}{x y:Operand}{k:IntKind}{a b:Int}(r:Bool)(hx:ev n e x= .int k a)(hy:ev n e y= .int k b)(h:decide (a≥b)=r):
    Ev P n e ⟨d,.binOp .geq t x y t',ty,pos,af,gd⟩ w (.bool r):=by
  subst h;simp [Ev,execOp,hx,hy,eqGuard,binOp,Op.intCmp]
theorem Qwl{d:Option Nat}{t t':TypeId}{x y:Operand}{k:IntKind}{a b:Int}(r:Bool)(hx:ev n e x= .int k a)(hy:ev n e y= .int k b)(h:decide (a=b)=r):
    Ev P n e ⟨d,.binOp .eql t x y t',ty,pos,af,gd⟩ w (.bool r):=by
  subst h;simp [Ev,execOp,hx,hy,eqGuard,binOp,Op.intCmp,BEq.beq]
theorem Qwu{d:Option Nat}{t t':TypeId}{x y:Operand}{k:IntKind}{a b:Int}(r:Bool)(hx:ev n e x= .int k a)(hy:ev n e y= .int k b)(h:decide (a≠b)=r):
    Ev P n e ⟨d,.binOp .neq t x y t',ty,pos,af,gd⟩ w (.bool r):=by
  subst h
  have :(a !=b)=decide (a≠b):=by by_cases hab:a=b<;>simp [hab]
  simp [Ev,execOp,hx,hy,eqGuard,binOp,Op.intCmp,this]
theorem QuX{d:Option Nat}{t t':TypeId}{x y:Operand}{a b:Bool}(r:Bool)(hu:P.underlying t=some .bool)(hx:ev n e x= .bool a)(hy:ev n e y= .bool b)(h:(a==b)=r):
    Ev P n e ⟨d,.binOp .eql t x y t',ty,pos,af,gd⟩ w (.bool r):=by
  subst h
  have h1:=run_eql_bool (P:=P) w t a b hu
  simp [Ev,execOp,hx,hy,eqGuard,h1]
theorem Qu0{d:Option Nat}{t t':TypeId}{x y:Operand}{a b:Bool}(r:Bool)(hu:P.underlying t=some .bool)(hx:ev n e x= .bool a)(hy:ev n e y= .bool b)(h:(a !=b)=r):
    Ev P n e ⟨d,.binOp .neq t x y t',ty,pos,af,gd⟩ w (.bool r):=by
  subst h
  have h1:=run_equal_bool (P:=P) w t a b hu
  have h2:(binOp .neq t (.bool a) (.bool b)).run P w= .ok (.bool (a !=b)) w:=by
    unfold binOp
    simp [h1,bne]
  simp [Ev,execOp,hx,hy,eqGuard]
  rw[h2]
  rfl
theorem QuW{d:Option Nat}{s t:TypeId}{ds:TypeDesc}{x:Operand}{k k':IntKind}{a:Int}(z:Int)(hs:P.underlying s=some ds)(ht:P.underlying t=some (.int k'))(hx:ev n e x= .int k a)(h:k'.wrap a=z):
    Ev P n e ⟨d,.convert s t x,ty,pos,af,gd⟩ w (.int k' z):=by
  subst h;simp [Ev,execOp,hx,convert,run_underlying hs,run_underlying ht,Conv.intToInt]
theorem Qwy{d:Option Nat}{t t':TypeId}{x y:Operand}{k k':IntKind}{a b:Int}(z:Int)(hx:ev n e x= .int k a)(hy:ev n e y= .int k' b)(hb:0≤b)(h:k.wrap (a*2^ (min b.toNat k.bits))=z):
    Ev P n e ⟨d,.binOp .shl t x y t',ty,pos,af,gd⟩ w (.int k z):=by
  subst h
  have : ¬b<0:=by omega
  simp [Ev,execOp,hx,hy,eqGuard,binOp,Op.shift,this]
theorem Qwz{d:Option Nat}{t t':TypeId}{x y:Operand}{k k':IntKind}{a b:Int}(z:Int)(hx:ev n e x= .int k a)(hy:ev n e y= .int k' b)(hb:0≤b)(h:a.fdiv (2^ (min b.toNat k.bits))=z):
    Ev P n e ⟨d,.binOp .shr t x y t',ty,pos,af,gd⟩ w (.int k z):=by
  subst h
  have : ¬b<0:=by omega
  simp [Ev,execOp,hx,hy,eqGuard,binOp,Op.shift,this]
theorem Qwt{d:Option Nat}{t:TypeId}{x:Operand}{k:IntKind}{a:Int}(z:Int)(hx:ev n e x= .int k a)(h:k.wrap (0 -a)=z):Ev P n e ⟨d,.unOp .neg t x,ty,pos,af,gd⟩ w (.int k z):=by
  subst h;simp [Ev,execOp,hx,Op.unary,Op.intArith]
theorem Qwv{d:Option Nat}{t:TypeId}{x:Operand}{b:Bool}(r:Bool)(hx:ev n e x= .bool b)(h:(!b)=r):Ev P n e ⟨d,.unOp .not t x,ty,pos,af,gd⟩ w (.bool r):=by
  subst h;simp [Ev,execOp,hx,Op.unary]
theorem Qqc{d:Option Nat}{t el:TypeId}{x:Operand}{A:Option Addr}{len cap:Nat}(ht:P.underlying t=some (.slice el))(hx:ev n e x= .slice A len cap):
    Ev P n e ⟨d,.call {callee:= .builtin .len,args:= #[x],argTypes:= #[t]},ty,pos,af,gd⟩ w (.int .i64 (len:Int)):=by
  simp [Ev,execOp,resolve,hx,invoke,builtin,Builtin.len_,run_underlying ht,goInt]
theorem Qwq{d:Option Nat}{ts:Array TypeId}{x y:Operand}{k k':IntKind}{a b:Int}(z:Int)(hx:ev n e x= .int k a)(hy:ev n e y= .int k' b)(h:(if b>a then b else a)=z):
    Ev P n e ⟨d,.call {callee:= .builtin .max,args:= #[x,y],argTypes:=ts},ty,pos,af,gd⟩ w (.int k z):=by
  subst h;simp [Ev,execOp,resolve,hx,hy,invoke,builtin,Builtin.max_,Builtin.max2]
theorem Qwr{d:Option Nat}{ts:Array TypeId}{x y:Operand}{k k':IntKind}{a b:Int}(z:Int)(hx:ev n e x= .int k a)(hy:ev n e y= .int k' b)(h:(if b<a then b else a)=z):
    Ev P n e ⟨d,.call {callee:= .builtin .min,args:= #[x,y],argTypes:=ts},ty,pos,af,gd⟩ w (.int k z):=by
  subst h;simp [Ev,execOp,resolve,hx,hy,invoke,builtin,Builtin.min_,Builtin.min2]
end ops
section more
variable{P:Program}{n:Nat}{e:Nat→Value}{w:World}{K:Act→World→Prop}{Q:Exit→Act→World→Prop}{ty:TypeId}{pos:String}{af:Array Edge}{gd:Option (Nat×Bool)}
theorem Qw2{d:Option Nat}{s:TypeId}{x:Operand}{f off:Nat}{b o:Nat}(p:Nat)(hf: ∀a w,(Instr.fieldAt s (.pointer (some a)) f).run P w= .ok (.pointer (some (a.add off))) w)
    (hx:ev n e x= .pointer (some ⟨b,o,none⟩))(hp:o+off=p):Ev P n e ⟨d,.fieldAddr s x f,ty,pos,af,gd⟩ w (.pointer (some ⟨b,p,none⟩)):=by
  subst hp
  simp [Ev,execOp,hx,hf,addr_add]
end more
theorem Qwb{x z:Int}(h:x=z∧ -9223372036854775808≤z∧z≤9223372036854775807):IntKind.i64.wrap x=z:=by
  obtain⟨rfl,h1,h2⟩:=h
  simp only[IntKind.wrap,IntKind.bits,IntKind.signed]
  simp only[Bool.true_and]
  split<;>rename_i hh<;>simp at hh<;>omega
theorem Qwc{x z:Int}(h:x=z∧0≤z∧z<4294967296):IntKind.u32.wrap x=z:=by
  obtain⟨rfl,h1,h2⟩:=h
  simp only[IntKind.wrap,IntKind.bits,IntKind.signed]
  simp
  omega
theorem Qur{x z:Int}(h:x=z∧0≤z∧z<18446744073709551616):IntKind.u64.wrap x=z:=by
  obtain⟨rfl,h1,h2⟩:=h
  simp only[IntKind.wrap,IntKind.bits,IntKind.signed]
  simp
  omega
theorem Qpl{x z:Int}(h:z=x % 4294967296):IntKind.u32.wrap x=z:=by
  subst h
  simp [IntKind.wrap,IntKind.bits,IntKind.signed]
theorem Qv4{x z:Int}(h:z=x % 18446744073709551616):IntKind.u64.wrap x=z:=by
  subst h
  simp [IntKind.wrap,IntKind.bits,IntKind.signed]
theorem dT{p:Prop}[Decidable p](h:p):decide p=true:=decide_eq_true h
theorem dF{p:Prop}[Decidable p](h: ¬p):decide p=false:=decide_eq_false h
end Go.Gx
namespace Go.Gx
variable{dfs:List Deferred}
theorem oEv{P:Program}{n:Nat}{e:Nat→Value}{w:World}{K:Act→World→Prop}{Q:Exit→Act→World→Prop}{o:Oper}{d:Nat}{v:Value}(hv:Ev P n e o w v)(hd:o.dst=some d)(k:K (mkA dfs n (upd e d v)) w):
    OpW P o (mkA dfs n e) w K Q:=by
  unfold OpW
  refine⟨hv.nd,?_⟩
  unfold Oper.wp
  rw[Yy,hv.un]
  show K ((mkA dfs n e).put o.dst v) w
  rw[hd,Zp]
  exact k
end Go.Gx
namespace Go.Gx
open Go.RowKit
variable{dfs:List Deferred}
def trimB{α:Type}(p:α→Bool)(l:List α):List α:=(l.reverse.dropWhile p).reverse
theorem YV{α:Type}(p:α→Bool)(l:List α)(x:α)(h:p x=true):trimB p (l++[x])=trimB p l:=by
  simp [trimB,h]
theorem XU{α:Type}(p:α→Bool)(l:List α)(x:α)(h:p x=false):trimB p (l++[x])=l++[x]:=by
  simp [trimB,h]
theorem Xw{α:Type}(l:List α):l=[]∨ ∃k x,l=k++[x]:=by
  rcases List.eq_nil_or_concat l with h| ⟨k,x,h⟩
  · exact .inl h
  · exact .inr ⟨k,x,by simpa using h⟩
theorem QhJ{α:Type}(p:α→Bool): ∀(m:Nat)(l:List α)(k:Nat),l.length=k+m→(∀(j:Nat) x,k≤j→l[j]? =some x→p x=true)→(k=0∨ ∃x,l[k-1]? =some x∧p x=false)→trimB p l=l.take k
  |0,l,k,hl,_,hk=>by
    rw[List.take_of_length_le (by omega)]
    rcases Xw l with h| ⟨l',x,rfl⟩
    · subst h;rfl
    · rcases hk with hk| ⟨y,hy,hp⟩
      · subst hk;simp at hl
      · simp at hl
        have :(l'++[x])[k-1]? =some x:=by
          rw[show k -1=l'.length by omega];simp
        rw[this] at hy
        injection hy with hy
        subst hy
        exact XU p l' x hp
  |m+1,l,k,hl,hz,hk=>by
    rcases Xw l with h| ⟨l',x,rfl⟩
    · subst h;simp at hl
    · simp at hl
      have hx:p x=true:=hz l'.length x (by omega) (by simp)
      rw[YV p l' x hx]
      rw[QhJ p m l' k (by omega) (fun j y hj hy=>hz j y hj (by
        rw[List.getElem?_append_left]
        · exact hy
        · rcases Nat.lt_or_ge j l'.length with h|h
          · exact h
          · rw[List.getElem?_eq_none h] at hy;cases hy)) ?_]
      · rw[List.take_append_of_le_length (by omega)]
      · rcases hk with hk| ⟨y,hy,hp⟩
        · exact .inl hk
        · refine .inr ⟨y,?_,hp⟩
          rcases Nat.eq_zero_or_pos k with h0|h0
          · subst h0
            have :=hz 0 y (Nat.le_refl _) hy
            rw[this] at hp;cases hp
          · rw[List.getElem?_append_left (by omega)] at hy
            exact hy
theorem Qb8{α:Type}(p:α→Bool)(l:List α): ∃k,k≤l.length∧trimB p l=l.take k:=by
  have h: ∀(m:Nat)(l:List α),l.length=m→ ∃k,k≤l.length∧trimB p l=l.take k:=by
    intro m
    induction m with
    |zero=>intro l hl;exact⟨0,by omega,by simp [List.eq_nil_of_length_eq_zero hl,trimB]⟩
    |succ m ih=>
      intro l hl
      rcases Xw l with h| ⟨l',x,rfl⟩
      · subst h;simp at hl
      · cases hx:p x with
        |true=>
          obtain⟨k,hk,e⟩:=ih l' (by simpa using hl)
          exact⟨k,by simp;omega,by rw[YV p l' x hx,e,List.take_append_of_le_length hk]⟩
        |false=>exact⟨l'.length+1,by simp,by rw[XU p l' x hx,List.take_of_length_le (by simp)]⟩
  exact h _ l rfl
theorem QaV{α:Type}(p:α→Bool)(l:List α):(trimB p l).length≤l.length:=by
  obtain⟨k,hk,e⟩:=Qb8 p l
  rw[e,List.length_take];omega
theorem QdZ{α:Type}(p:α→Bool)(l:List α):trimB p l=l.take (trimB p l).length:=by
  obtain⟨k,hk,e⟩:=Qb8 p l
  rw[e,List.length_take,Nat.min_eq_left hk]
theorem Qb7{α:Type}(p:α→Bool)(l:List α){x:α}(h:x∈trimB p l):x∈l:=by
  obtain⟨k,hk,e⟩:=Qb8 p l
  rw[e] at h;exact List.mem_of_mem_take h
theorem Qbs{α:Type}(p:α→Bool)(l:List α){k:List α}{x:α}(h:trimB p l=k++[x]):p x=false:=by
  have h2: ∀(m:Nat)(l:List α),l.length=m→ ∀k x,trimB p l=k++[x]→p x=false:=by
    intro m
    induction m with
    |zero=>intro l hl k x h;simp [List.eq_nil_of_length_eq_zero hl,trimB] at h
    |succ m ih=>
      intro l hl k x h
      rcases Xw l with h0| ⟨l',y,rfl⟩
      · subst h0;simp at hl
      · cases hy:p y with
        |true=>rw[YV p l' y hy] at h;exact ih l' (by simpa using hl) k x h
        |false=>
          rw[XU p l' y hy] at h
          have :=List.append_inj_right' h rfl
          simp at this
          subst this
          exact hy
  exact h2 _ l rfl k x h
theorem Qml{α:Type}(p:α→Bool)(l:List α):trimB p (trimB p l)=trimB p l:=by
  rcases Xw (trimB p l) with h| ⟨k,x,h⟩
  · rw[h];rfl
  · rw[h];exact XU p k x (Qbs p l h)
def Canon{α:Type}(p:α→Bool)(l:List α):Prop:=trimB p l=l
theorem Xs{α:Type}(p:α→Bool)(l:List α):Canon p (trimB p l):=Qml p l
theorem QcX{α:Type}(p:α→Bool):Canon p ([]:List α):=rfl
theorem Yp{α:Type}{p:α→Bool}{l:List α}{x:α}:Canon p (l++[x])↔p x=false:=by
  constructor
  · intro h;exact Qbs p _ h
  · intro h;exact XU p l x h
abbrev BS:Nat:=4294967296
def isZ(d:Nat):Bool:=d==0
abbrev YK(ds:List Nat):List Nat:=trimB isZ ds
def val:List Nat→Nat
  | []=>0
  |d::ds=>d+BS*val ds
theorem val_append(a b:List Nat):val (a++b)=val a+BS^a.length*val b:=by
  induction a with
  |nil=>simp [val]
  |cons d a ih=>simp only[List.cons_append,val,ih,List.length_cons,Nat.pow_succ];rw[Nat.mul_add,←Nat.mul_assoc,Nat.mul_comm (BS^a.length) BS,Nat.add_assoc]
theorem YQ(a:List Nat)(d:Nat):val (a++[d])=val a+BS^a.length*d:=by
  rw[val_append];simp [val]
theorem QbF(a:List Nat):val (a++[0])=val a:=by rw[YQ];simp
theorem QhL(ds:List Nat):val (YK ds)=val ds:=by
  have h: ∀(m:Nat)(l:List Nat),l.length=m→val (YK l)=val l:=by
    intro m
    induction m with
    |zero=>intro l hl;simp [List.eq_nil_of_length_eq_zero hl,trimB]
    |succ m ih=>
      intro l hl
      rcases Xw l with h0| ⟨l',y,rfl⟩
      · subst h0;simp at hl
      · cases hy:isZ y with
        |true=>
          have :y=0:=by simpa [isZ] using hy
          subst this
          show val (trimB isZ _)=_
          rw[YV isZ l' 0 hy,QbF]
          exact ih l' (by simpa using hl)
        |false=>
          show val (trimB isZ _)=_
          rw[XU isZ l' y hy]
  exact h _ ds rfl
theorem Za: ∀(ds:List Nat),(∀d∈ds,d<BS)→val ds<BS^ds.length
  | [],_=>by simp [val]
  |d::ds,h=>by
    have h1:=h d (by simp)
    have h2:=Za ds fun x hx=>h x (by simp [hx])
    simp only[val,List.length_cons,Nat.pow_succ]
    have h3:BS*(val ds+1)≤BS*BS^ds.length:=Nat.mul_le_mul_left _ h2
    rw[Nat.mul_comm (BS^ds.length) BS]
    have :BS*(val ds+1)=BS*val ds+BS:=by rw[Nat.mul_add,Nat.mul_one]
    omega
theorem YZ(ds:List Nat)(k:Nat):val (ds.take (k+1))=val (ds.take k)+BS^k*ds.getD k 0:=by
  rcases Nat.lt_or_ge k ds.length with h|h
  · rw[List.take_succ_eq_append_getElem h,YQ]
    rw[List.length_take,Nat.min_eq_left (by omega)]
    simp [List.getD,h]
  · rw[List.take_of_length_le (by omega),List.take_of_length_le h]
    simp [List.getD,List.getElem?_eq_none h]
abbrev Qax:Nat:=9223372036854775807
def Rd(w:World)(S:Nat→Prop)(A:Option Addr)(n c k:Nat)(cs:List Value):Prop:=
  cs.length=n*k∧n≤c∧c≤Qax∧
    (0<n→ ∃b off,A=some ⟨b,off,none⟩∧S b∧b<w.heap.size∧ ∀(j:Nat) v,cs[j]? =some v→w.cell? ⟨b,off+j,none⟩=some v)
section rd
variable{w w':World}{S S' G:Nat→Prop}{A:Option Addr}{n c k:Nat}{cs:List Value}
theorem Rd.frm(h:Rd w S A n c k cs)(f:Frm G w w')(hd: ∀b,S b→ ¬G b):Rd w' S A n c k cs:=
  ⟨h.1,h.2.1,h.2.2.1,fun hn=>by
    obtain⟨b,off,e,hs,hb,hc⟩:=h.2.2.2 hn
    exact⟨b,off,e,hs,Nat.lt_of_lt_of_le hb f.size,fun j v hj=>(f.cell (p:=⟨b,off+j,none⟩) hb (hd b hs)).trans (hc j v hj)⟩⟩
theorem Rd.frmB(h:Rd w S A n c k cs)(f:Frm G w w')(hd: ∀b,b<w.heap.size→S b→ ¬G b):Rd w' S A n c k cs:=
  ⟨h.1,h.2.1,h.2.2.1,fun hn=>by
    obtain⟨b,off,e,hs,hb,hc⟩:=h.2.2.2 hn
    exact⟨b,off,e,hs,Nat.lt_of_lt_of_le hb f.size,fun j v hj=>(f.cell (p:=⟨b,off+j,none⟩) hb (hd b hb hs)).trans (hc j v hj)⟩⟩
theorem Rd.t(h:Rd w S A n c k cs)(f:Frm G w w':=by exact zrd)(hd: ∀b,b<w.heap.size→S b→ ¬G b:=by exact zq6):Rd w' S A n c k cs:=h.frmB f hd
theorem Rd.ext(h:Rd w S A n c k cs)(f:Ext w w'):Rd w' S A n c k cs:=h.frm f fun _ _ g=>g
theorem Rd.sub(h:Rd w S A n c k cs)(hs: ∀b,b<w.heap.size→S b→S' b):Rd w S' A n c k cs:=
  ⟨h.1,h.2.1,h.2.2.1,fun hn=>by
    obtain⟨b,off,e,hS,hb,hc⟩:=h.2.2.2 hn
    exact⟨b,off,e,hs b hb hS,hb,hc⟩⟩
theorem Rd.low(h:Rd w S A n c k cs):Rd w (· <w.heap.size) A n c k cs:=h.sub fun _ hb _=>hb
theorem Rd.nil:Rd w S none 0 0 k []:=⟨by simp,Nat.le_refl _,Nat.zero_le _,fun h=>absurd h (by omega)⟩
theorem Rd.base(h:Rd w S A n c k cs)(hn:0<n): ∃b off,A=some ⟨b,off,none⟩:=by
  obtain⟨b,off,e,_⟩:=h.2.2.2 hn
  exact⟨b,off,e⟩
theorem Rd.cell{b off:Nat}(h:Rd w S (some ⟨b,off,none⟩) n c k cs){j:Nat}{v:Value}(hj:cs[j]? =some v):w.cell? ⟨b,off+j,none⟩=some v:=by
  have hn:0<n:=by
    rcases Nat.eq_zero_or_pos n with h0|h0
    · have :=h.1;rw[h0,Nat.zero_mul] at this
      rw[List.eq_nil_of_length_eq_zero this] at hj;cases hj
    · exact h0
  obtain⟨b',off',e,_,_,hc⟩:=h.2.2.2 hn
  injection e with e
  injection e with e1 e2
  subst e1 e2
  exact hc j v hj
theorem Rd.take{m:Nat}(h:Rd w S A n c k cs)(hm:m≤n):Rd w S A m c k (cs.take (m*k)):=by
  refine⟨by rw[List.length_take,h.1];exact Nat.min_eq_left (Nat.mul_le_mul_right k hm),Nat.le_trans hm h.2.1,h.2.2.1,fun h0=> ?_⟩
  obtain⟨b,off,e,hs,hb,hc⟩:=h.2.2.2 (by omega)
  refine⟨b,off,e,hs,hb,fun j v hj=>hc j v ?_⟩
  rw[List.getElem?_take] at hj
  split at hj
  · exact hj
  · cases hj
theorem Rd.drop{m:Nat}(h:Rd w S A n c k cs)(hm:m≤n):Rd w S (if c=m then A else A.map (·.add (m*k))) (n -m) (c -m) k (cs.drop (m*k)):=by
  have h1:=h.2.1
  refine⟨by rw[List.length_drop,h.1,Nat.sub_mul],by omega,by have :=h.2.2.1;omega,fun h0=> ?_⟩
  obtain⟨b,off,e,hs,hb,hc⟩:=h.2.2.2 (by omega)
  subst e
  rw[if_neg (by omega)]
  refine⟨b,off+m*k,by simp [addr_add],hs,hb,fun j v hj=> ?_⟩
  rw[Nat.add_assoc]
  exact hc (m*k+j) v (by rw[←hj,List.getElem?_drop])
theorem Rd.of_blk{g:Nat}{t:TypeId}(h:Blk w g t cs)(hS:S g)(hl:cs.length=n*k)(hc:n≤c)(hm:c≤Qax):Rd w S (some ⟨g,0,none⟩) n c k cs:=
  ⟨hl,hc,hm,fun _=>⟨g,0,rfl,hS,h.lt,fun j v hj=>by rw[Nat.zero_add];exact h.at_ hj⟩⟩
end rd
def u32(d:Nat):Value:= .int .u32 (d:Int)
def Qay(w:World)(S:Nat→Prop)(A:Option Addr)(n c:Nat)(ds:List Nat):Prop:=Rd w S A n c 1 (ds.map u32)∧ ∀d∈ds,d<BS
section natr
variable{w w':World}{S S' G:Nat→Prop}{A:Option Addr}{n c:Nat}{ds:List Nat}
theorem Qay.frm(h:Qay w S A n c ds)(f:Frm G w w')(hd: ∀b,S b→ ¬G b):Qay w' S A n c ds:=⟨h.1.frm f hd,h.2⟩
theorem Qay.frmB(h:Qay w S A n c ds)(f:Frm G w w')(hd: ∀b,b<w.heap.size→S b→ ¬G b):Qay w' S A n c ds:=⟨h.1.frmB f hd,h.2⟩
theorem Qay.t(h:Qay w S A n c ds)(f:Frm G w w':=by exact zrd)(hd: ∀b,b<w.heap.size→S b→ ¬G b:=by exact zq6):Qay w' S A n c ds:=h.frmB f hd
theorem Qay.ext(h:Qay w S A n c ds)(f:Ext w w'):Qay w' S A n c ds:=⟨h.1.ext f,h.2⟩
theorem Qay.sub(h:Qay w S A n c ds)(hs: ∀b,b<w.heap.size→S b→S' b):Qay w S' A n c ds:=⟨h.1.sub hs,h.2⟩
theorem Qay.low(h:Qay w S A n c ds):Qay w (· <w.heap.size) A n c ds:=⟨h.1.low,h.2⟩
theorem Qay.nil:Qay w S none 0 0 []:=⟨Rd.nil,by simp⟩
theorem Qay.len(h:Qay w S A n c ds):ds.length=n:=by have :=h.1.1;simpa using this
theorem Qay.cap(h:Qay w S A n c ds):n≤c:=h.1.2.1
theorem Qay.max(h:Qay w S A n c ds):c≤9223372036854775807:=h.1.2.2.1
theorem Qay.base(h:Qay w S A n c ds)(hn:0<n): ∃b off,A=some ⟨b,off,none⟩:=h.1.base hn
theorem Qay.lt(h:Qay w S A n c ds)(i:Nat):ds.getD i 0<4294967296:=by
  rcases Nat.lt_or_ge i ds.length with hi|hi
  · simp only[List.getD,List.getElem?_eq_getElem hi,Option.getD_some];exact h.2 _ (List.getElem_mem hi)
  · simp [List.getD,List.getElem?_eq_none hi]
theorem Qay.cell{b off:Nat}(h:Qay w S (some ⟨b,off,none⟩) n c ds){i:Nat}(hi:i<n):w.cell? ⟨b,off+i,none⟩=some (.int .u32 ((ds.getD i 0:Nat):Int)):=by
  refine h.1.cell ?_
  have hl:i<ds.length:=by rw[h.len];exact hi
  simp [List.getElem?_map,List.getElem?_eq_getElem hl,u32]
theorem Qay.take{m:Nat}(h:Qay w S A n c ds)(hm:m≤n):Qay w S A m c (ds.take m):=by
  refine⟨?_,fun d hd=>h.2 d (List.mem_of_mem_take hd)⟩
  have :=h.1.take hm
  rw[Nat.mul_one,←List.map_take] at this
  exact this
theorem Qay.drop{m:Nat}(h:Qay w S A n c ds)(hm:m≤n):Qay w S (if c=m then A else A.map (·.add (m*1))) (n -m) (c -m) (ds.drop m):=by
  refine⟨?_,fun d hd=>h.2 d (List.mem_of_mem_drop hd)⟩
  have :=h.1.drop hm
  rw[Nat.mul_one,←List.map_drop] at this
  rw[Nat.mul_one]
  exact this
theorem Qay.trim(h:Qay w S A n c ds):Qay w S A (YK ds).length c (YK ds):=by
  have h1:=QaV isZ ds
  have h2:=h.take (m:=(YK ds).length) (by rw[←h.len];exact h1)
  rw[←QdZ] at h2
  exact h2
theorem Qay.of_blk{g:Nat}{t:TypeId}(h:Blk w g t (ds.map u32))(hS:S g)(hd: ∀d∈ds,d<BS)(hl:ds.length=n)(hc:n≤c)(hm:c≤Qax):Qay w S (some ⟨g,0,none⟩) n c ds:=
  ⟨Rd.of_blk h hS (by simpa using hl) hc hm,hd⟩
end natr
def Qul(neg:Bool)(ds:List Nat):Int:=if neg then -(val ds:Int) else(val ds:Int)
end Go.Gx
namespace Go.Gx
variable{dfs:List Deferred}
theorem QaR{ds:List Nat}{n:Nat}(h:ds.length≤n): ∀j,n≤j→ds.getD j 0=0:=by
  intro j hj;simp [List.getD,List.getElem?_eq_none (by omega:ds.length≤j)]
theorem Qd1{ds:List Nat}{k:Nat}(h: ∀j,k≤j→ds.getD j 0=0)(h1:ds.getD (k -1) 0=0): ∀j,k -1≤j→ds.getD j 0=0:=by
  intro j hj
  rcases Nat.lt_or_ge j k with hl|hl
  · have :j=k -1:=by omega
    subst this;exact h1
  · exact h j hl
theorem Qcn{ds:List Nat}{k:Nat}(hk:k≤ds.length)(hz: ∀j,k≤j→ds.getD j 0=0)(hl:k=0∨ds.getD (k -1) 0≠0):ds.take k=YK ds:=by
  refine(QhJ isZ (ds.length -k) ds k (by omega) (fun j x hj hx=> ?_) ?_).symm
  · have :=hz j hj;simp [List.getD,hx] at this;simp [isZ,this]
  · rcases Nat.eq_zero_or_pos k with h0|h0
    · exact .inl h0
    · right
      rcases hl with hl|hl
      · omega
      · have hlt:k -1<ds.length:=by omega
        refine⟨ds[k-1],List.getElem?_eq_getElem hlt,?_⟩
        simp [List.getD,hlt] at hl
        simpa [isZ] using hl
end Go.Gx
namespace Go.Gx
open Go.RowKit
variable{dfs:List Deferred}
section copy
variable{P:Program}{n:Nat}{e:Nat→Value}{w:World}{K:Act→World→Prop}{Q:Exit→Act→World→Prop}{ty:TypeId}{pos:String}{af:Array Edge}{gd:Option (Nat×Bool)}
end copy
theorem Qqj(P:List Nat)(m s:Nat)(hm:0<m):(P++List.replicate m 0).set P.length s=(P++[s])++List.replicate (m -1) 0:=by
  obtain⟨j,rfl⟩: ∃j,m=j+1:=⟨m -1,by omega⟩
  rw[List.replicate_succ]
  simp
end Go.Gx
namespace Go.Gx
variable{dfs:List Deferred}
theorem getD_lt{ds:List Nat}{i:Nat}(h: ∀d∈ds,d<BS):ds.getD i 0<4294967296:=by
  rcases Nat.lt_or_ge i ds.length with hi|hi
  · simp only[List.getD,List.getElem?_eq_getElem hi,Option.getD_some];exact h _ (List.getElem_mem hi)
  · simp [List.getD,List.getElem?_eq_none hi]
theorem canon_zero{ds:List Nat}(h:val ds=0):YK ds=[]:=by
  rcases Xw (YK ds) with h0| ⟨k,x,h0⟩
  · exact h0
  · have h1:=Qbs isZ ds h0
    have h2:val (YK ds)=0:=by rw[QhL];exact h
    rw[h0,YQ] at h2
    have h3:x≠0:=by intro e;subst e;simp [isZ] at h1
    have h4:0<BS^k.length*x:=Nat.mul_pos (Nat.pow_pos (by decide)) (by omega)
    omega
end Go.Gx
namespace Go.Gx
open Go.RowKit
variable{dfs:List Deferred}
theorem Qcu(c:List Value): ∀(off k:Nat)(arr:Array Value),k+c.length≤arr.size -off→off≤arr.size→
    ((c.zipIdx k).foldl (fun cs (p:Value×Nat)=>cs.setIfInBounds (off+p.2) p.1) arr)=(arr.toList.take (off+k)++c++arr.toList.drop (off+k+c.length)).toArray:=by
  induction c with
  |nil=>intro off k arr _ _;simp
  |cons v c ih=>
    intro off k arr h1 h2
    simp only[List.zipIdx_cons,List.foldl_cons]
    simp only[List.length_cons] at h1
    rw[ih off (k+1) _ (by simp;omega) (by simp;omega)]
    congr 1
    apply List.ext_getElem?
    intro i
    simp only[Array.toList_setIfInBounds,List.getElem?_append,List.length_take,List.length_append,List.length_set,Array.length_toList,List.getElem?_take,List.getElem?_set,List.getElem?_drop,List.length_cons]
    by_cases hi:i<off+k
    · have c1:i<min (off+(k+1)) arr.size:=by omega
      have c2:i<min (off+k) arr.size:=by omega
      have c3:i<min (off+(k+1)) arr.size+c.length:=by omega
      have c4:i<min (off+k) arr.size+(c.length+1):=by omega
      simp [c1,c2,c3,c4,show ¬off+k=i by omega,show i<off+(k+1) by omega,hi]
    · by_cases hi2:i=off+k
      · subst hi2
        have c1:off+k<min (off+(k+1)) arr.size:=by omega
        have c2: ¬off+k<min (off+k) arr.size:=by omega
        have c3:off+k<min (off+(k+1)) arr.size+c.length:=by omega
        have c4:off+k<min (off+k) arr.size+(c.length+1):=by omega
        simp [c1,c2,c3,c4,show off+k<off+(k+1) by omega,show off+k<arr.size by omega,show off+k -min (off+k) arr.size=0 by omega]
      · have m1:min (off+(k+1)) arr.size=off+(k+1):=by omega
        have m2:min (off+k) arr.size=off+k:=by omega
        rw[m1,m2]
        have c1: ¬i<off+(k+1):=by omega
        by_cases hi3:i<off+k+(c.length+1)
        · simp [c1,hi,hi3,show i<off+(k+1)+c.length by omega,show i -(off+k)=(i -(off+(k+1)))+1 by omega]
        · simp [c1,hi,hi3,show ¬i<off+(k+1)+c.length by omega]
          rw[if_neg (by omega)]
          congr 1
          omega
theorem Qib(size:Nat): ∀(vs:List Value)(css:List (List Value))(k:Nat)(arr:Array Value),vs.map Value.cells=css.map List.toArray→css.all (fun c=>c.length==size)=true→arr.size=(k+vs.length)*size→
    Instr.fill (fun i=>some (i*size,size)) arr ((vs.zipIdx k).map fun(v,i)=>(i,v))=some (arr.toList.take (k*size)++css.flatten).toArray
  | [],css,k,arr,h,_,ha=>by
    have :css=[]:=by cases css with |nil=>rfl|cons a b=>simp at h
    subst this
    simp [Instr.fill]
    rw[List.take_of_length_le (by simp [ha])]
  |v::vs,[],k,arr,h,_,_=>by simp at h
  |v::vs,c::css,k,arr,h,h2,ha=>by
    simp only[List.map_cons,List.cons.injEq] at h
    simp only[List.all_cons,Bool.and_eq_true,beq_iff_eq] at h2
    simp only[List.length_cons] at ha
    have hk:(k+1)*size≤arr.size:=by rw[ha];exact Nat.mul_le_mul_right _ (by omega)
    have hks:k*size+size=(k+1)*size:=by rw[Nat.add_mul,Nat.one_mul]
    have hcs:v.cells.size=size:=by rw[h.1];simp [h2.1]
    simp only[List.zipIdx_cons,List.map_cons,Instr.fill]
    rw[if_neg (by simp [hcs];omega)]
    have hf:(v.cells.zipIdx.foldl (fun cs x=>cs.setIfInBounds (k*size+x.2) x.1) arr)=(arr.toList.take (k*size)++c++arr.toList.drop (k*size+size)).toArray:=by
      rw[h.1]
      have :=Qcu c (k*size) 0 arr (by omega) (by omega)
      simpa [h2.1] using this
    have hf':(v.cells.zipIdx.foldl (fun cs (x:Value×Nat)=>match x with | (c,j)=>cs.setIfInBounds (k*size+j) c) arr)=(arr.toList.take (k*size)++c++arr.toList.drop (k*size+size)).toArray:=hf
    rw[hf']
    rw[Qib size vs css (k+1) _ h.2 h2.2 (by
      simp [h2.1]
      rw[ha] at hk⊢
      have :(k+(vs.length+1))*size=(k+1+vs.length)*size:=by congr 1;omega
      omega)]
    congr 2
    rw[←hks]
    simp only[List.flatten_cons]
    rw[←List.append_assoc]
    congr 1
    rw[List.take_append_of_le_length (by simp [h2.1];omega)]
    rw[List.take_of_length_le (by simp [h2.1];omega)]
section
variable{P:Program}{n:Nat}{e:Nat→Value}{w:World}{K:Act→World→Prop}{Q:Exit→Act→World→Prop}{ty:TypeId}{pos:String}{af:Array Edge}{gd:Option (Nat×Bool)}
theorem Qfn{d:Nat}{t el:TypeId}{size bytes:Nat}{z:Value}{len:Nat}{ps:List (Nat×Operand)}(vs:List Value)(css:List (List Value))(ht:P.underlying t=some (.slice el))
    (hi:(P.info? el).map (fun i=>(i.zero,i.size,i.bytes))=some (some z,size,bytes))(hp:ps.map (fun p=>(p.1,ev n e p.2))=vs.zipIdx.map fun p=>(p.2,p.1))(hc:vs.map Value.cells=css.map List.toArray)
    (hs:css.all (fun c=>c.length==size)=true)(hl:vs.length=len)(hm:Nat.ble (len*size) 16777216=true)
    (k: ∀g w',g=w.heap.size→Ext w w'→w'.heap.size=g+1→Blk w' g el css.flatten→K (mkA dfs n (upd e d (.slice (some ⟨g,0,none⟩) len len))) w'):
    OpW P ⟨some d,.buildSlice t len ps.toArray,ty,pos,af,gd⟩ (mkA dfs n e) w K Q:=by
  obtain⟨i,hi',hz,hsz,hby⟩:=info_parts hi
  have hle: ¬len*size>2^24:=by have :=Nat.le_of_ble_eq_true hm;omega
  have hsize:(sizeOf el).run P w= .ok size w:=by simp [sizeOf,typeInfo,program,Sem.run,hi',hsz]
  have hzero:(zeroValue el).run P w= .ok z w:=by simp [zeroValue,typeInfo,program,Sem.run,hi',hz]
  have hfill: ∀arr:Array Value,arr.size=len*size→Instr.fill (fun i=>some (i*size,size)) arr (ps.map fun p=>(p.1,ev n e p.2))=some css.flatten.toArray:=by
    intro arr ha
    rw[hp]
    have :=Qib size vs css 0 arr hc hs (by rw[ha,←hl];simp)
    simpa using this
  have hmap:(ps.toArray.map fun(x:Nat×Operand)=>match x with | (i,x)=>(i,ev n e x)).toList=ps.map fun p=>(p.1,ev n e p.2):=by simp
  unfold OpW
  refine⟨(by intro c hc;cases hc),?_⟩
  unfold Oper.wp
  rw[Yy]
  have hk:=k w.heap.size (w.alloc (.cells css.flatten.toArray el)) rfl (Qbc _ _) (by simp) (Blk.new _ _ _)
  simp only[execOp,Instr.buildSlice,Sem.run_bind,run_underlying ht,Result.andThen_ok,hsize,hle,if_false,Sem.run_pure]
  by_cases h0:len*size=0
  · rw[if_pos h0]
    simp only[Sem.run_bind,Sem.run_pure,Result.andThen_ok]
    rw[hmap,hfill _ (by simp)]
    simp only[newRow,newObj,Sem.run_bind,Sem.run,Result.andThen_ok,Sem.run_pure,Oper.upon,Zp]
    exact hk
  · rw[if_neg h0]
    simp only[Sem.run_bind,hzero,Sem.run_pure,Result.andThen_ok]
    rw[hmap,hfill _ (by simp)]
    simp only[newRow,newObj,Sem.run_bind,Sem.run,Result.andThen_ok,Sem.run_pure,Oper.upon,Zp]
    exact hk
end
end Go.Gx
namespace Go.Gx
variable{dfs:List Deferred}
section bits
variable{P:Program}{n:Nat}{e:Nat→Value}{w:World}{ty:TypeId}{pos:String}{af:Array Edge}{gd:Option (Nat×Bool)}
theorem QhM(r:BitVec 32):IntKind.u32.wrap (r.toNat:Int)=(r.toNat:Int):=Qwc ⟨rfl,by omega,by have :=r.isLt;omega⟩
theorem Qan(a:Nat):BitVec.ofInt 32 (a:Int)=BitVec.ofNat 32 a:=by simp
theorem QsU{d:Option Nat}{t t':TypeId}{x y:Operand}{a b:Nat}(hx:ev n e x= .int .u32 (a:Int))(hy:ev n e y= .int .u32 (b:Int)):
    Ev P n e ⟨d,.binOp .and t x y t',ty,pos,af,gd⟩ w (.int .u32 (((BitVec.ofNat 32 a&&&BitVec.ofNat 32 b).toNat:Nat):Int)):=by
  have h:=QhM (BitVec.ofNat 32 a&&&BitVec.ofNat 32 b)
  have e1:(Op.intBits .and .u32 (a:Int) (b:Int))=pure (.int .u32 (IntKind.u32.wrap ((BitVec.ofInt 32 (a:Int)&&&BitVec.ofInt 32 (b:Int)).toNat:Int))):=rfl
  rw[Qan,Qan,h] at e1
  simp only[Ev,execOp,hx,hy,eqGuard,binOp,e1]
  simp
theorem QrI{d:Option Nat}{t t':TypeId}{x y:Operand}{a b:Nat}(hx:ev n e x= .int .u32 (a:Int))(hy:ev n e y= .int .u32 (b:Int)):
    Ev P n e ⟨d,.binOp .or t x y t',ty,pos,af,gd⟩ w (.int .u32 (((BitVec.ofNat 32 a|||BitVec.ofNat 32 b).toNat:Nat):Int)):=by
  have h:=QhM (BitVec.ofNat 32 a|||BitVec.ofNat 32 b)
  have e1:(Op.intBits .or .u32 (a:Int) (b:Int))=pure (.int .u32 (IntKind.u32.wrap ((BitVec.ofInt 32 (a:Int)|||BitVec.ofInt 32 (b:Int)).toNat:Int))):=rfl
  rw[Qan,Qan,h] at e1
  simp only[Ev,execOp,hx,hy,eqGuard,binOp,e1]
  simp
theorem QsY{d:Option Nat}{t t':TypeId}{x y:Operand}{a b:Nat}(hx:ev n e x= .int .u32 (a:Int))(hy:ev n e y= .int .u32 (b:Int)):
    Ev P n e ⟨d,.binOp .xor t x y t',ty,pos,af,gd⟩ w (.int .u32 (((BitVec.ofNat 32 a^^^BitVec.ofNat 32 b).toNat:Nat):Int)):=by
  have h:=QhM (BitVec.ofNat 32 a^^^BitVec.ofNat 32 b)
  have e1:(Op.intBits .xor .u32 (a:Int) (b:Int))=pure (.int .u32 (IntKind.u32.wrap ((BitVec.ofInt 32 (a:Int)^^^BitVec.ofInt 32 (b:Int)).toNat:Int))):=rfl
  rw[Qan,Qan,h] at e1
  simp only[Ev,execOp,hx,hy,eqGuard,binOp,e1]
  simp
theorem QsW{d:Option Nat}{t:TypeId}{x:Operand}{a:Nat}(hx:ev n e x= .int .u32 (a:Int)):
    Ev P n e ⟨d,.unOp .xor t x,ty,pos,af,gd⟩ w (.int .u32 (((~~~BitVec.ofNat 32 a).toNat:Nat):Int)):=by
  have h:=QhM (~~~BitVec.ofNat 32 a)
  have e0:IntKind.u32.max=((4294967295:Nat):Int):=by decide
  have e1:(Op.unary .xor (.int .u32 (a:Int)))=pure (.int .u32 (IntKind.u32.wrap ((BitVec.ofInt 32 IntKind.u32.max^^^BitVec.ofInt 32 (a:Int)).toNat:Int))):=rfl
  have e2:(BitVec.ofNat 32 4294967295^^^BitVec.ofNat 32 a)= ~~~BitVec.ofNat 32 a:=by
    rw[show BitVec.ofNat 32 4294967295=BitVec.allOnes 32 by decide]
    rw[BitVec.xor_comm,BitVec.xor_allOnes]
  rw[e0,Qan,Qan,e2,h] at e1
  simp only[Ev,execOp,hx,e1]
  simp
end bits
theorem QpH{x y b d:Nat}(hx:x<4294967296)(hy:y<4294967296)(hb:b≤1)(hd:d=(x+8589934592 -y -b) % 4294967296)(t:Nat)
    (ht:t=((BitVec.ofNat 32 (BitVec.ofNat 32 ((~~~BitVec.ofNat 32 x).toNat)&&&BitVec.ofNat 32 y).toNat|||BitVec.ofNat 32 (BitVec.ofNat 32 (~~~BitVec.ofNat 32 (BitVec.ofNat 32 x^^^BitVec.ofNat 32 y).toNat).toNat&&&BitVec.ofNat 32 d).toNat)).toNat):
    d+y+b=x+4294967296*(t/2147483648)∧t/2147483648≤1:=by
  simp only[BitVec.ofNat_toNat,BitVec.setWidth_eq] at ht
  have hdl:d<4294967296:=by omega
  have hm:t/2147483648=if((~~~BitVec.ofNat 32 x&&&BitVec.ofNat 32 y)||| (~~~ (BitVec.ofNat 32 x^^^BitVec.ofNat 32 y)&&&BitVec.ofNat 32 d)).msb then 1 else 0:=by
    rw[BitVec.msb_eq_decide,←ht]
    have :t<4294967296:=by rw[ht];exact BitVec.isLt _
    split<;>rename_i h<;>simp at h<;>omega
  rw[hm]
  have mx: ∀z,z<4294967296→(BitVec.ofNat 32 z).msb=decide (2147483648≤z):=by
    intro z hz
    rw[BitVec.msb_eq_decide]
    simp [Nat.mod_eq_of_lt hz]
  simp only[BitVec.msb_or,BitVec.msb_and,BitVec.msb_not,BitVec.msb_xor,mx x hx,mx y hy,mx d hdl]
  by_cases c1:2147483648≤x<;>by_cases c2:2147483648≤y<;>by_cases c3:2147483648≤d<;>simp [c1,c2,c3]<;>omega
end Go.Gx
namespace Go.Gx
variable{dfs:List Deferred}
section
variable{P:Program}{n:Nat}{e:Nat→Value}{w:World}{ty:TypeId}{pos:String}{af:Array Edge}{gd:Option (Nat×Bool)}
end
end Go.Gx
namespace Go.Gx
open Go.RowKit
variable{dfs:List Deferred}
section
variable{P:Program}{n:Nat}{e:Nat→Value}{w:World}{ty:TypeId}{pos:String}{af:Array Edge}{gd:Option (Nat×Bool)}
theorem QuZ{d:Option Nat}{t el:TypeId}{len:Nat}{cs:Array Value}{v:Value}{x y:Operand}{k:IntKind}{z:Int}(i:Nat)(ht:P.underlying t=some (.array len el))(h1:QfV P el=true)(hs: ∀w,(sizeOf el).run P w= .ok 1 w)
    (hx:ev n e x= .agg cs)(hy:ev n e y= .int k z)(hz:z=(i:Int))(hi:i<len)(hc:cs[i]? =some v):Ev P n e ⟨d,.index t x y,ty,pos,af,gd⟩ w v:=by
  subst hz
  have hn:(0:Int)≤(i:Int)∧(i:Int)<(len:Int):=by omega
  simp [Ev,execOp,hx,hy,Instr.index,asIntOf,run_underlying ht,hn,hs,part,Qdp h1,hc]
  intro h;omega
end
end Go.Gx
