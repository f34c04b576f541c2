/-
  Am
-/
import Derived.Test.YtjdpemcnlejpfaaGreatDoorCore
import Derived.Test.YtjdpemcnlejpfaaGreatDoorNatMath
import Derived.Laws.AppendOwn
import Derived.RangeFuncRecord
import Derived.RangeFuncCalls
set_option linter.all false
namespace Go.Am
open Go.RowKit Go.Gx
inductive Sh where
  |no|one|ag (n:Nat)
def Sh.size:Sh→Nat
  | .no=>0| .one=>1| .ag n=>n
def Sh.ok:Sh→Value→Prop
  | .no,_=>True
  | .one,v=>v.oneCell'=true
  | .ag n,v=> ∃cs:List Value,v= .agg cs.toArray∧cs.length=n∧ ∀c∈cs,c.oneCell'=true
def Keep(w w':World)(S S':Nat→Prop):Prop:= ∀b,S b→S' b∧w'.heap[b]? =w.heap[b]?
structure AV where
  sh:Sh
  rep:World→(Nat→Prop)→Value→Prop
  ok: ∀{w S v},rep w S v→sh.ok v
  mono: ∀{w w' S S' v},Keep w w' S S'→rep w S v→rep w' S' v
def AV.el(z:Nat)(a:AV):Prop:=a.sh.size=z∧a.sh≠ .no
section
variable{w w':World}{S S':Nat→Prop}
theorem Sh.ok.size{s:Sh}{v:Value}(h:s.ok v)(hs:s≠ .no):v.cells.size=s.size∧ ∀c∈v.cells.toList,c.oneCell'=true:=by
  cases s with
  |no=>exact absurd rfl hs
  |one=>cases v<;>simp_all [Sh.ok,Value.oneCell',Value.cells,Sh.size]
  |ag n=>obtain⟨cs,rfl,h1,h2⟩:=h;exact⟨by simpa [Value.cells,Sh.size] using h1,by simpa [Value.cells] using h2⟩
def shOf:Value→Sh
  | .agg _| .tuple _=> .no
  |_=> .one
def lit(v:Value):AV:=⟨shOf v,fun _ _ u=>u=v,fun h=>by subst h;rename_i u;cases u<;>simp [shOf,Sh.ok,Value.oneCell'],fun _ h=>h⟩
def I(k:IntKind)(x:Int):AV:=lit (.int k x)
def Bo(b:Bool):AV:=lit (.bool b)
def nilS:AV:=lit (.slice none 0 0)
def cst1:Value→AV
  | .int k x=>I k x
  | .bool b=>Bo b
  | .slice none 0 0=>nilS
  |v=>lit v
theorem cst1_eq(v:Value):cst1 v=lit v:=by unfold cst1;split<;>rfl
def any:AV:=⟨.no,fun _ _ _=>True,fun _=>trivial,fun _ _=>trivial⟩
def reps(w:World)(S:Nat→Prop):List AV→List Value→Prop
  | [],[]=>True
  |a::l,v::vs=>a.rep w S v∧reps w S l vs
  |_,_=>False
theorem reps.mono(k:Keep w w' S S'): ∀{l:List AV}{vs:List Value},reps w S l vs→reps w' S' l vs
  | [],[],_=>trivial
  |a::_,_::_,h=>⟨a.mono k h.1,reps.mono k h.2⟩
  | [],_::_,h=>h.elim
  |_::_,[],h=>h.elim
theorem reps.len: ∀{l:List AV}{vs:List Value},reps w S l vs→vs.length=l.length
  | [],[],_=>rfl
  |_::_,_::_,h=>congrArg (· +1) (reps.len h.2)
  | [],_::_,h=>h.elim
  |_::_,[],h=>h.elim
theorem reps.get: ∀{l:List AV}{vs:List Value}{i:Nat}{a:AV},reps w S l vs→l[i]? =some a→ ∃v,vs[i]? =some v∧a.rep w S v
  |_::_,v::_,0,_,h,hi=>by simp at hi;subst hi;exact⟨v,rfl,h.1⟩
  |_::_,_::_,i+1,_,h,hi=>reps.get (i:=i) h.2 (by simpa using hi)
  | [],_,_,_,_,hi=>by simp at hi
  |_::_,[],_,_,h,_=>h.elim
theorem reps.app: ∀{l l':List AV}{vs vs':List Value},reps w S l vs→reps w S l' vs'→reps w S (l++l') (vs++vs')
  | [],_,[],_,_,h=>h
  |_::_,_,_::_,_,h,h'=>⟨h.1,reps.app h.2 h'⟩
  | [],_,_::_,_,h,_=>h.elim
  |_::_,_,[],_,h,_=>h.elim
def agg(l:List AV):AV:=⟨.ag l.length,fun w S v=> ∃vs:List Value,v= .agg vs.toArray∧reps w S l vs∧ ∀c∈vs,c.oneCell'=true,
  fun⟨vs,h1,h2,h3⟩=>⟨vs,h1,h2.len,h3⟩,fun k ⟨vs,h1,h2,h3⟩=>⟨vs,h1,h2.mono k,h3⟩⟩
theorem agg_get{w:World}{S:Nat→Prop}{l:List AV}{v:Value}(h:(agg l).rep w S v){i:Nat}{a:AV}(hi:l[i]? =some a): ∃u,a.rep w S u:=by
  obtain⟨vs,_,h1,_⟩:=h
  obtain⟨u,_,hu⟩:=h1.get hi
  exact⟨u,hu⟩
def cst:Value→AV
  | .agg cs=>if cs.toList.all Value.oneCell' then agg (cs.toList.map cst1) else lit (.agg cs)
  |v=>cst1 v
theorem reps_lit{w:World}{S:Nat→Prop}: ∀(cs:List Value),reps w S (cs.map cst1) cs
  | []=>trivial
  |c::cs=>⟨by rw[cst1_eq];rfl,reps_lit cs⟩
theorem cst_rep{w:World}{S:Nat→Prop}(v:Value):(cst v).rep w S v:=by
  unfold cst
  split
  · rename_i cs
    split
    · rename_i h;exact⟨cs.toList,by simp,reps_lit _,List.all_eq_true.1 h⟩
    · rfl
  · rw[cst1_eq];rfl
def tup(l:List AV):AV:=⟨.no,fun w S v=> ∃vs:List Value,v= .tuple vs.toArray∧reps w S l vs,fun _=>trivial,fun k ⟨vs,h1,h2⟩=>⟨vs,h1,h2.mono k⟩⟩
def lay(w:World)(S:Nat→Prop):List AV→List Value→Prop
  | [],cs=>cs=[]
  |a::l,cs=> ∃v cs',a.rep w S v∧cs=v.cells.toList++cs'∧lay w S l cs'
theorem lay.mono(k:Keep w w' S S'): ∀{l:List AV}{cs:List Value},lay w S l cs→lay w' S' l cs
  | [],_,h=>h
  |a::_,_,⟨v,cs',h1,h2,h3⟩=>⟨v,cs',a.mono k h1,h2,h3.mono k⟩
theorem lay.app: ∀{l l':List AV}{cs cs':List Value},lay w S l cs→lay w S l' cs'→lay w S (l++l') (cs++cs')
  | [],_,_,_,h,h'=>by rw[show _=[] from h];exact h'
  |_::_,_,_,_,⟨v,cs1,h1,h2,h3⟩,h'=>⟨v,cs1++_,h1,by rw[h2,List.append_assoc],h3.app h'⟩
def els(z:Nat)(l:List AV):Prop:= ∀a∈l,a.el z
theorem AV.el.cells{z:Nat}{a:AV}{v:Value}(h:a.el z)(hv:a.rep w S v):v.cells.toList.length=z:=by
  have :=(Sh.ok.size (a.ok hv) h.2).1;simp [this,h.1]
theorem lay.len{z:Nat}: ∀{l:List AV}{cs:List Value},lay w S l cs→els z l→cs.length=l.length*z
  | [],_,h,_=>by rw[show _=[] from h];simp
  |a::l,_,⟨v,cs',h1,h2,h3⟩,he=>by
    rw[h2,List.length_append,(he a (by simp)).cells h1,h3.len fun b hb=>he b (by simp [hb]),List.length_cons,Nat.succ_mul,Nat.add_comm]
theorem lay.one{z:Nat}: ∀{l:List AV}{cs:List Value},lay w S l cs→els z l→ ∀c∈cs,c.oneCell'=true
  | [],_,h,_,c,hc=>by rw[show _=[] from h] at hc;simp at hc
  |a::l,_,⟨v,cs',h1,h2,h3⟩,he,c,hc=>by
    subst h2
    rcases List.mem_append.1 hc with hc|hc
    · exact(Sh.ok.size (a.ok h1) (he a (by simp)).2).2 c hc
    · exact h3.one (fun b hb=>he b (by simp [hb])) c hc
theorem lay.get{z:Nat}: ∀{l:List AV}{cs:List Value}{i:Nat}{a:AV},lay w S l cs→els z l→l[i]? =some a→ ∃v,a.rep w S v∧(cs.drop (i*z)).take z=v.cells.toList
  |a::l,_,0,b,⟨v,cs',h1,h2,h3⟩,he,hi=>by
    simp at hi;subst hi
    refine⟨v,h1,?_⟩
    rw[h2,Nat.zero_mul,List.drop_zero,List.take_append_of_le_length (by rw[(he a (by simp)).cells h1];exact Nat.le_refl _),List.take_of_length_le (by rw[(he a (by simp)).cells h1];exact Nat.le_refl _)]
  |a::l,_,i+1,b,⟨v,cs',h1,h2,h3⟩,he,hi=>by
    obtain⟨u,hu,h4⟩:=h3.get (i:=i) (fun b hb=>he b (by simp [hb])) (by simpa using hi)
    refine⟨u,hu,?_⟩
    have hl:=(he a (by simp)).cells h1
    rw[h2,show(i+1)*z=v.cells.toList.length+i*z by rw[hl,Nat.succ_mul,Nat.add_comm],List.drop_length_add_append,h4]
  | [],_,_,_,_,_,hi=>by simp at hi
theorem lay.set{z:Nat}: ∀{l:List AV}{cs:List Value}{i:Nat}{a:AV}{v:Value},lay w S l cs→els z l→i<l.length→a.rep w S v→a.el z→lay w S (l.set i a) (cs.take (i*z)++v.cells.toList++cs.drop (i*z+z))
  |b::l,_,0,a,v,⟨u,cs',h1,h2,h3⟩,he,_,hv,_=>by
    refine⟨v,cs',hv,?_,h3⟩
    have hl:=(he b (by simp)).cells h1
    rw[h2,Nat.zero_mul,List.take_zero,List.nil_append,Nat.zero_add,List.drop_append_of_le_length (by omega),List.drop_of_length_le (by omega),List.nil_append]
  |b::l,_,i+1,a,v,⟨u,cs',h1,h2,h3⟩,he,hi,hv,ha=>by
    refine⟨u,_,h1,?_,h3.set (i:=i) (fun b hb=>he b (by simp [hb])) (by simpa using hi) hv ha⟩
    have hl:=(he b (by simp)).cells h1
    have e1:(i+1)*z=u.cells.toList.length+i*z:=by rw[hl,Nat.succ_mul,Nat.add_comm]
    have e2:(i+1)*z+z=u.cells.toList.length+(i*z+z):=by omega
    rw[h2,e2,e1,List.take_length_add_append,List.drop_length_add_append,List.append_assoc,List.append_assoc,List.append_assoc]
  | [],_,_,_,_,_,_,hi,_,_=>by simp at hi
theorem lay.take{z:Nat}: ∀{l:List AV}{cs:List Value}(m:Nat),lay w S l cs→els z l→m≤l.length→lay w S (l.take m) (cs.take (m*z))
  |l,cs,0,_,_,_=>by simp [lay]
  |a::l,_,m+1,⟨v,cs',h1,h2,h3⟩,he,hm=>by
    refine⟨v,_,h1,?_,h3.take m (fun b hb=>he b (by simp [hb])) (by simpa using hm)⟩
    have hl:=(he a (by simp)).cells h1
    rw[h2,show(m+1)*z=v.cells.toList.length+m*z by rw[hl,Nat.succ_mul,Nat.add_comm],List.take_length_add_append]
  | [],_,_+1,_,_,hm=>by simp at hm
theorem lay.drop{z:Nat}: ∀{l:List AV}{cs:List Value}(m:Nat),lay w S l cs→els z l→m≤l.length→lay w S (l.drop m) (cs.drop (m*z))
  |l,cs,0,h,_,_=>by simpa using h
  |a::l,_,m+1,⟨v,cs',h1,h2,h3⟩,he,hm=>by
    have hl:=(he a (by simp)).cells h1
    rw[h2,show(m+1)*z=v.cells.toList.length+m*z by rw[hl,Nat.succ_mul,Nat.add_comm],List.drop_length_add_append]
    exact h3.drop m (fun b hb=>he b (by simp [hb])) (by simpa using hm)
  | [],_,_+1,_,_,hm=>by simp at hm
theorem els.set{z i:Nat}{l:List AV}{a:AV}(h:els z l)(ha:a.el z):els z (l.set i a):=fun b hb=>by
  rcases List.mem_or_eq_of_mem_set hb with hb|rfl
  · exact h b hb
  · exact ha
theorem els.take{z m:Nat}{l:List AV}(h:els z l):els z (l.take m):=fun b hb=>h b (List.mem_of_mem_take hb)
theorem els.drop{z m:Nat}{l:List AV}(h:els z l):els z (l.drop m):=fun b hb=>h b (List.mem_of_mem_drop hb)
end
def maxC:Nat:=9223372036854775807
def sl(z:Nat)(l:List AV):AV:=⟨.one,fun w S v=> ∃A c,v= .slice A l.length c∧l.length≤c∧c≤maxC∧els z l∧
    (l≠ []→ ∃b o cs t f,A=some ⟨b,o,none⟩∧S b∧w.heap[b]? =some (.cells cs t f)∧lay w S l ((cs.toList.drop o).take (l.length*z))),
  fun⟨A,c,h,_⟩=>by subst h;rfl,
  fun k ⟨A,c,h1,h2,h3,h4,h5⟩=>⟨A,c,h1,h2,h3,h4,fun hl=>by
    obtain⟨b,o,cs,t,f,e1,e2,e3,e4⟩:=h5 hl
    exact⟨b,o,cs,t,f,e1,(k b e2).1,by rw[(k b e2).2];exact e3,e4.mono k⟩⟩⟩
def ep(a:AV):AV:=⟨.one,fun w S v=> ∃b o cs t f u,v= .pointer (some ⟨b,o,none⟩)∧S b∧w.heap[b]? =some (.cells cs t f)∧a.rep w S u∧a.sh≠ .no∧(cs.toList.drop o).take a.sh.size=u.cells.toList,
  fun⟨_,_,_,_,_,_,h,_⟩=>by subst h;rfl,
  fun k ⟨b,o,cs,t,f,u,h1,h2,h3,h4,h5⟩=>⟨b,o,cs,t,f,u,h1,(k b h2).1,by rw[(k b h2).2];exact h3,a.mono k h4,h5⟩⟩
def deBr:List Nat:=[0,1,28,2,29,14,24,3,30,22,20,15,25,17,4,8,31,27,13,23,21,19,16,7,26,12,18,6,11,5,10,9]
def gT:AV:=⟨.no,fun w S _=>S 0∧ ∃cs t f,w.heap[0]? =some (.cells cs t f)∧cs.toList.take 32=deBr.map fun x=> .int .u8 (x:Int),fun _=>trivial,fun k ⟨h1,h2⟩=>⟨(k 0 h1).1,by rw[(k 0 h1).2];exact h2⟩⟩
def gS:Nat:=1000000
def AV.le(a b:AV):Prop:= ∀w S v,a.rep w S v→b.rep w S v
theorem le_refl(a:AV):a.le a:=fun _ _ _ h=>h
theorem AV.le.trans{a b c:AV}(h:a.le b)(k:b.le c):a.le c:=fun w S v x=>k w S v (h w S v x)
theorem le_any{a:AV}:a.le any:=fun _ _ _ _=>trivial
theorem le_nil{z:Nat}:nilS.le (sl z []):=fun _ _ _ h=>⟨none,0,h,Nat.le_refl _,Nat.zero_le _,(by intro a ha;simp at ha),fun h=>absurd rfl h⟩
theorem AV.le.of_eq{a b:AV}(h:a=b):a.le b:=h▸le_refl a
inductive Les:List AV→List AV→Prop
  |nil:Les [] []
  |cons {a b:AV} {l l':List AV}:a.le b→Les l l'→Les (a::l) (b::l')
theorem Les.reps{w:World}{S:Nat→Prop}: ∀{l l':List AV}{vs:List Value},Les l l'→reps w S l vs→reps w S l' vs
  |_,_,[],.nil,h=>h
  |_,_,_::_,.nil,h=>h.elim
  |_,_,[],.cons _ _,h=>h.elim
  |_,_,_::_,.cons h k,x=>⟨h _ _ _ x.1,k.reps x.2⟩
theorem Les.lay{w:World}{S:Nat→Prop}: ∀{l l':List AV}{cs:List Value},Les l l'→lay w S l cs→lay w S l' cs
  |_,_,_,.nil,h=>h
  |_,_,_,.cons h k,⟨v,cs',h1,h2,h3⟩=>⟨v,cs',h _ _ _ h1,h2,k.lay h3⟩
theorem Les.len: ∀{l l':List AV},Les l l'→l.length=l'.length
  |_,_,.nil=>rfl
  |_,_,.cons _ k=>congrArg (· +1) k.len
theorem Les.refl: ∀(l:List AV),Les l l
  | []=> .nil
  |_::l=> .cons (le_refl _) (Les.refl l)
theorem Les.map{α:Type}{f g:α→AV}: ∀(l:List α),(∀x∈l,(f x).le (g x))→Les (l.map f) (l.map g)
  | [],_=> .nil
  |_::l,h=> .cons (h _ (by simp)) (Les.map l fun x hx=>h x (by simp [hx]))
theorem le_agg{l l':List AV}(h:Les l l'):(agg l).le (agg l'):=fun _ _ _ ⟨vs,h1,h2,h3⟩=>⟨vs,h1,h.reps h2,h3⟩
theorem le_sl{z:Nat}{l l':List AV}(h:Les l l')(he:els z l'):(sl z l).le (sl z l'):=fun w S v ⟨A,c,h1,h2,h3,_,h5⟩=>
  ⟨A,c,by rw[←h.len];exact h1,by rw[←h.len];exact h2,h3,he,fun hl=>by
    obtain⟨b,o,cs,t,f,e1,e2,e3,e4⟩:=h5 fun e=>hl (by subst e;cases h;rfl)
    exact⟨b,o,cs,t,f,e1,e2,e3,by rw[←h.len];exact h.lay e4⟩⟩
inductive Ob where
  |arr (t:TypeId) (z:Nat) (l:List AV)
  |gro (t:TypeId) (z:Nat) (l:List AV) (c:Nat)
  |raw (x:Obj)
def Ob.holds(w:World)(S:Nat→Prop):Option Nat→Ob→Prop
  |some g,.arr t z l=>els z l∧ ∃cs,Blk w g t cs∧lay w S l cs
  |some g,.gro t z l c=>els z l∧ ∃cs,Blk w g t cs∧cs.length=c*z∧l.length≤c∧c≤maxC∧lay w S l (cs.take (l.length*z))
  |none,.gro _ _ l c=>l=[]∧c=0
  |none,.arr .. =>False
  |some g,.raw x=>w.heap[g]? =some x
  |none,.raw _=>False
abbrev Hp:=List (Option Nat×Ob)
theorem Ob.holds.mono{w w':World}{S S':Nat→Prop}(k:Keep w w' S S'): ∀{g:Option Nat}{o:Ob},o.holds w S g→(∀b,g=some b→w'.heap[b]? =w.heap[b]?)→o.holds w' S' g
  |some g,.arr _ _ _,⟨h1,cs,h2,h3⟩,hg=>⟨h1,cs,by unfold Blk;rw[hg g rfl];exact h2,h3.mono k⟩
  |some g,.gro _ _ _ _,⟨h1,cs,h2,h3,h4,h5,h6⟩,hg=>⟨h1,cs,by unfold Blk;rw[hg g rfl];exact h2,h3,h4,h5,h6.mono k⟩
  |none,.gro _ _ _ _,h,_=>h
  |none,.arr _ _ _,h,_=>h.elim
  |some g,.raw _,h,hg=>(hg g rfl).trans h
  |none,.raw _,h,_=>h.elim
theorem Ob.holds.lt{w:World}{S:Nat→Prop}{g:Nat}: ∀{o:Ob},o.holds w S (some g)→g<w.heap.size
  | .arr _ _ _,⟨_,_,h,_⟩=>h.lt
  | .gro _ _ _ _,⟨_,_,h,_⟩=>h.lt
  | .raw _,h=>(Array.getElem?_eq_some_iff.1 h).1
structure Ctx where
  w0:World
  S0:Nat→Prop
  F:Nat→Prop
structure Own (w:World) (S G:Nat→Prop) (H:Hp):Prop where
  ob: ∀x∈H,x.2.holds w S x.1
  ow: ∀x∈H,∀g,x.1=some g→ ¬S g∧G g
  nd:H.Pairwise fun x y=> ∀g,x.1=some g→y.1≠some g
structure Rel (C:Ctx) (env:Nat→AV) (H:Hp) (S:Nat→Prop) (e:Nat→Value) (w:World):Prop where
  frm:Frm C.F C.w0 w
  lt: ∀b,S b→b<w.heap.size
  sb: ∀b,S b→C.S0 b∨C.w0.heap.size≤b
  sl: ∀s,(env s).rep w S (e s)
  own:Own w S (fun g=>C.F g∨C.w0.heap.size≤g) H
def A(C:Ctx)(G:(Nat→Value)→World→Prop)(env:Nat→AV)(H:Hp):Prop:= ∀e w S,Rel C env H S e w→G e w
def Ent(C:Ctx)(env:Nat→AV)(H:Hp)(env':Nat→AV)(H':Hp):Prop:= ∀e w S,Rel C env H S e w→ ∃S',Rel C env' H' S' e w
theorem A.ent{C:Ctx}{G:(Nat→Value)→World→Prop}{env env':Nat→AV}{H H':Hp}(h:Ent C env H env' H')(k:A C G env' H'):A C G env H:=fun e w S r=>
  let⟨S',r'⟩:=h e w S r;k e w S' r'
def updA(env:Nat→AV)(d:Nat)(a:AV):Nat→AV:=fun s=>bif Nat.beq s d then a else env s
def av(n:Nat)(env:Nat→AV):Operand→AV
  | .tmp t=>bif Nat.blt t n then env t else lit undef
  | .const v=>cst v
  | .global g=>lit (.pointer (some ⟨g,0,none⟩))
  | .func f=>lit (.func (.func f) #[] #[])
section
variable{C:Ctx}{env:Nat→AV}{H:Hp}{S:Nat→Prop}{e:Nat→Value}{w:World}
theorem Rel.av(r:Rel C env H S e w)(n:Nat)(x:Operand):(av n env x).rep w S (ev n e x):=by
  cases x with
  |tmp t=>
    show((bif Nat.blt t n then env t else Am.lit undef)).rep w S (bif Nat.blt t n then e t else undef)
    cases Nat.blt t n
    · exact rfl
    · exact r.sl t
  |const v=>exact cst_rep v
  |_=>rfl
theorem Rel.at(r:Rel C env H S e w){n:Nat}{x:Operand}{a:AV}(h:Am.av n env x=a):a.rep w S (ev n e x):=h▸r.av n x
theorem Rel.lit(r:Rel C env H S e w){n:Nat}{x:Operand}{v:Value}(h:Am.av n env x=Am.lit v):ev n e x=v:=r.at h
theorem rep_upd{S:Nat→Prop}{w:World}(h: ∀s,(env s).rep w S (e s)){d:Nat}{a:AV}{v:Value}(ha:a.rep w S v)(s:Nat):(updA env d a s).rep w S (upd e d v s):=by
  unfold updA upd
  cases Nat.beq s d
  · exact h s
  · exact ha
theorem Rel.upd(r:Rel C env H S e w){d:Nat}{a:AV}{v:Value}(h:a.rep w S v):Rel C (updA env d a) H S (upd e d v) w:=⟨r.frm,r.lt,r.sb,rep_upd r.sl h,r.own⟩
theorem Rel.to(r:Rel C env H S e w){w':World}{S' G:Nat→Prop}{H':Hp}(f:Frm G w w')(hG: ∀b,b<w.heap.size→G b→ ¬S b∧(C.F b∨C.w0.heap.size≤b))(hS: ∀b,S b→S' b)(hl: ∀b,S' b→b<w'.heap.size)(hb: ∀b,S' b→S b∨C.w0.heap.size≤b)
    (ho:Own w' S' (fun g=>C.F g∨C.w0.heap.size≤g) H'):Rel C env H' S' e w':=by
  have k:Keep w w' S S':=fun b h=>⟨hS b h,f.block b (r.lt b h) fun g=>(hG b (r.lt b h) g).1 h⟩
  refine⟨⟨f.os.trans r.frm.os,f.tape.trans r.frm.tape,f.output.trans r.frm.output,Nat.le_trans r.frm.size f.size,Nat.le_trans r.frm.drawn f.drawn,fun b h1 h2=> ?_⟩,hl,fun b h=> ?_,fun s=>(env s).mono k (r.sl s),ho⟩
  · rw[f.block b (Nat.lt_of_lt_of_le h1 r.frm.size) fun g=>(hG b (Nat.lt_of_lt_of_le h1 r.frm.size) g).2.elim h2 fun h=>by omega,r.frm.block b h1 h2]
  · rcases hb b h with h|h
    · exact r.sb b h
    · exact .inr h
theorem Own.to{G G' S':Nat→Prop}{w':World}(o:Own w S G H)(k:Keep w w' S S')(f: ∀x∈H,∀g,x.1=some g→w'.heap[g]? =w.heap[g]?)(hs: ∀x∈H,∀g,x.1=some g→ ¬S' g)(hg: ∀g,G g→G' g):Own w' S' G' H:=
  ⟨fun x hx=>(o.ob x hx).mono k (f x hx),fun x hx g h=>⟨hs x hx g h,hg g (o.ow x hx g h).2⟩,o.nd⟩
theorem Own.lt{G:Nat→Prop}(o:Own w S G H){x:Option Nat×Ob}(hx:x∈H){g:Nat}(h:x.1=some g):g<w.heap.size:=by
  have :=o.ob x hx;rw[h] at this;exact this.lt
theorem Rel.ext(r:Rel C env H S e w){w':World}(f:Ext w w'):Rel C env H S e w':=
  r.to f (fun _ _ h=>h.elim) (fun _ h=>h) (fun b h=>Nat.lt_of_lt_of_le (r.lt b h) f.size) (fun _ h=> .inl h)
    (r.own.to (fun b h=>⟨h,f.block b (r.lt b h) fun g=>g⟩) (fun _ hx g h=>f.block g (r.own.lt hx h) fun g=>g) (fun x hx g h=>(r.own.ow x hx g h).1) fun _ h=>h)
theorem Rel.new(r:Rel C env H S e w){w':World}{g:Nat}{o:Ob}(f:Ext w w')(hg:g=w.heap.size)(hs:w'.heap.size=g+1)(ho:o.holds w' S (some g)):Rel C env ((some g,o)::H) S e w':=by
  have r':=r.ext f
  refine⟨r'.frm,r'.lt,r'.sb,r'.sl,fun x hx=> ?_,fun x hx b h=> ?_,?_⟩
  · rcases List.mem_cons.1 hx with rfl|hx
    · exact ho
    · exact r'.own.ob x hx
  · rcases List.mem_cons.1 hx with rfl|hx
    · obtain rfl:g=b:=by simpa using h
      refine⟨fun hS=> ?_,.inr ?_⟩
      · have :=r.lt g hS;omega
      · have :=r.frm.size;omega
    · exact r'.own.ow x hx b h
  · refine List.pairwise_cons.2 ⟨fun y hy b h h'=> ?_,r'.own.nd⟩
    obtain rfl:g=b:=by simpa using h
    have :=r.own.lt hy h';omega
end
end Go.Am
namespace Go.Am
open Go.RowKit Go.Gx
class TU (P:Program) (t:TypeId) (d:outParam TypeDesc):Prop where
  un:P.underlying t=some d
class TS (P:Program) (t:TypeId) (s:outParam Nat):Prop where
  sz: ∀w,(sizeOf t).run P w= .ok s w
class TL (P:Program) (t:TypeId) (s:outParam Sh):Prop where
  ld:match s with | .no=>False| .one=>QfV P t=true| .ag n=>Qv9 P t=true∧ ∀w,(sizeOf t).run P w= .ok n w
class TM (P:Program):Prop where
  mi:P.follows .mixedOrders=true
class TF (P:Program) (s:TypeId) (f:Nat) (off:outParam Nat):Prop where
  fa: ∀a w,(Instr.fieldAt s (.pointer (some a)) f).run P w= .ok (.pointer (some (a.add off))) w
def lpt(z g i:Nat):AV:=lit (.pointer (some ⟨g,i*z,none⟩))
def lsl(z g m n c:Nat):AV:=⟨.one,fun _ _ v=> ∃A,v= .slice A n c∧n≤c∧c≤maxC∧(0<c→A=some ⟨g,m*z,none⟩),fun⟨_,h,_⟩=>by subst h;rfl,fun _ h=>h⟩
def gh(k:Option Nat)(n c:Nat):AV:=lit (.slice (k.map fun g=>⟨g,0,none⟩) n c)
theorem lsl_sh{z g m n c:Nat}:(lsl z g m n c).sh= .one:=rfl
theorem gh_sh{k:Option Nat}{n c:Nat}:(gh k n c).sh= .one:=rfl
theorem I_sh{k:IntKind}{x:Int}:(I k x).sh= .one:=rfl
theorem sl_sh{z:Nat}{l:List AV}:(sl z l).sh= .one:=rfl
theorem agg_sh{l:List AV}:(agg l).sh= .ag l.length:=rfl
inductive Rk where
  |no|sh|own (j:Nat)
def Rk.of(H:Hp)(S:Nat→Prop):Rk→Nat→Prop
  | .no,_=>False
  | .sh,b=>S b
  | .own j,b=> ∃o,H[j]? =some (some b,o)
def AE(P:Program)(n:Nat)(C:Ctx)(env:Nat→AV)(H:Hp)(m:Rk)(o:Oper)(a:AV):Prop:=
  ∀e w S,Rel C env H S e w→ ∃v,a.rep w S v∧ ∀w',(∀b,m.of H S b→w'.heap[b]? =w.heap[b]?)→Ev P n e o w' v
section
variable{P:Program}{n:Nat}{C:Ctx}{env:Nat→AV}{H:Hp}{m:Rk}{d:Option Nat}{ty:TypeId}{pos:String}{af:Array Edge}{gd:Option (Nat×Bool)}{x y:Operand}{t t':TypeId}
theorem Ev.loadV{e:Nat→Value}{w:World}{p:Addr}{v:Value}(ha:ev n e x= .pointer (some p))(h:(loadVar t p).run P w= .ok v w):Ev P n e ⟨d,.load t x,ty,pos,af,gd⟩ w v:=by
  simp [Ev,execOp,ha,Instr.loadAt,Instr.sureAddr,h]
theorem TL.run{s:Sh}[c:TL P t s]{w:World}{b o:Nat}{cs:Array Value}{t1:TypeId}{f:Nat×Nat}{v:Value}(hb:w.heap[b]? =some (.cells cs t1 f))(hv:s.ok v)(hc:(cs.toList.drop o).take s.size=v.cells.toList):(loadVar t ⟨b,o,none⟩).run P w= .ok v w:=by
  have hcell: ∀(j:Nat) u,v.cells.toList[j]? =some u→w.cell? ((⟨b,o,none⟩:Addr).add j)=some u:=by
    intro j u hj
    rw[←hc,List.getElem?_take] at hj
    split at hj
    · rw[List.getElem?_drop] at hj;rw[addr_add];simpa [World.cell?,hb] using hj
    · cases hj
  have h:=c.ld
  cases s with
  |no=>exact h.elim
  |one=>
    refine QiL h ?_
    have :=hcell 0 v (by cases v<;>first |rfl| (simp [Sh.ok,Value.oneCell'] at hv))
    simpa [addr_add] using this
  |ag n=>
    obtain⟨cs',rfl,hl,_⟩:=hv
    subst hl
    exact QiM h.1 h.2 (by simpa [Value.cells] using hcell)
theorem AE.le{o:Oper}{a b:AV}(h:AE P n C env H m o a)(k:a.le b):AE P n C env H m o b:=fun e w S r=>let⟨v,h1,h2⟩:=h e w S r;⟨v,k _ _ _ h1,h2⟩
theorem aeMove{a:AV}(h:av n env x=a):AE P n C env H .no ⟨d,.move x,ty,pos,af,gd⟩ a:=fun _ _ _ r=>⟨_,r.at h,fun _ _=>QsZ rfl⟩
theorem aeAssign{a:AV}(h:av n env x=a):AE P n C env H .no ⟨d,.assign x,ty,pos,af,gd⟩ a:=fun _ _ _ r=>⟨_,r.at h,fun _ _=>Qno rfl⟩
theorem aeNil{p:Addr}(h:av n env x=lit (.pointer (some p))):AE P n C env H .no ⟨d,.nilCheck x,ty,pos,af,gd⟩ (lit (.pointer (some p))):=fun _ _ _ r=>⟨_,rfl,fun _ _=>by
  have :=r.lit h;simp [Ev,execOp,this]⟩
theorem aePick{b:Bool}{c:Operand}{a:AV}(hc:av n env c=Bo b)(h:av n env (bif b then x else y)=a):AE P n C env H .no ⟨d,.pick c x y,ty,pos,af,gd⟩ a:=fun e _ _ r=>⟨_,r.at h,fun _ _=>by
  have :=r.lit hc;cases b<;>simp [Ev,execOp,this,asBool]⟩
theorem aeExt{i:Nat}{l:List AV}{a:AV}(h:av n env x=tup l)(hi:l[i]? =some a):AE P n C env H .no ⟨d,.extract x i,ty,pos,af,gd⟩ a:=fun e w S r=>by
  obtain⟨vs,h1,h2⟩:=r.at h
  obtain⟨v,h3,h4⟩:=h2.get hi
  exact⟨v,h4,fun _ _=>by simp [Ev,execOp,h1,Instr.extract,h3]⟩
theorem aeI{op:BinOp}{k k':IntKind}{a b:Int}{z:Value}(hx:av n env x=I k a)(hy:av n env y=I k' b)(h: ∀e w,ev n e x= .int k a→ev n e y= .int k' b→Ev P n e ⟨d,.binOp op t x y t',ty,pos,af,gd⟩ w z):
    AE P n C env H .no ⟨d,.binOp op t x y t',ty,pos,af,gd⟩ (lit z):=fun e _ _ r=>⟨_,rfl,fun w' _=>h e w' (r.lit hx) (r.lit hy)⟩
section
variable{k:IntKind}{a b:Int}
theorem aeAdd(z:Int)(hx:av n env x=I k a)(hy:av n env y=I k b)(h:k.wrap (a+b)=z):AE P n C env H .no ⟨d,.binOp .add t x y t',ty,pos,af,gd⟩ (I k z):=aeI hx hy fun _ _ h1 h2=>Qwk z h1 h2 h
theorem aeSub(z:Int)(hx:av n env x=I k a)(hy:av n env y=I k b)(h:k.wrap (a -b)=z):AE P n C env H .no ⟨d,.binOp .sub t x y t',ty,pos,af,gd⟩ (I k z):=aeI hx hy fun _ _ h1 h2=>QwA z h1 h2 h
theorem aeMul(z:Int)(hx:av n env x=I k a)(hy:av n env y=I k b)(h:k.wrap (a*b)=z):AE P n C env H .no ⟨d,.binOp .mul t x y t',ty,pos,af,gd⟩ (I k z):=aeI hx hy fun _ _ h1 h2=>Qws z h1 h2 h
theorem aeQuo(z:Int)(hx:av n env x=I k a)(hy:av n env y=I k b)(hb:b≠0)(h:k.wrap (a.tdiv b)=z):AE P n C env H .no ⟨d,.binOp .quo t x y t',ty,pos,af,gd⟩ (I k z):=aeI hx hy fun _ _ h1 h2=>Qww z h1 h2 hb h
theorem aeRem(z:Int)(hx:av n env x=I k a)(hy:av n env y=I k b)(hb:b≠0)(h:a.tmod b=z):AE P n C env H .no ⟨d,.binOp .rem t x y t',ty,pos,af,gd⟩ (I k z):=aeI hx hy fun _ _ h1 h2=>Qwx z h1 h2 hb h
theorem aeLss(r:Bool)(hx:av n env x=I k a)(hy:av n env y=I k b)(h:decide (a<b)=r):AE P n C env H .no ⟨d,.binOp .lss t x y t',ty,pos,af,gd⟩ (Bo r):=aeI hx hy fun _ _ h1 h2=>Qwp r h1 h2 h
theorem aeLeq(r:Bool)(hx:av n env x=I k a)(hy:av n env y=I k b)(h:decide (a≤b)=r):AE P n C env H .no ⟨d,.binOp .leq t x y t',ty,pos,af,gd⟩ (Bo r):=aeI hx hy fun _ _ h1 h2=>Qwo r h1 h2 h
theorem aeGtr(r:Bool)(hx:av n env x=I k a)(hy:av n env y=I k b)(h:decide (a>b)=r):AE P n C env H .no ⟨d,.binOp .gtr t x y t',ty,pos,af,gd⟩ (Bo r):=aeI hx hy fun _ _ h1 h2=>Qwn r h1 h2 h
theorem aeGeq(r:Bool)(hx:av n env x=I k a)(hy:av n env y=I k b)(h:decide (a≥b)=r):AE P n C env H .no ⟨d,.binOp .geq t x y t',ty,pos,af,gd⟩ (Bo r):=aeI hx hy fun _ _ h1 h2=>Qwm r h1 h2 h
theorem aeEql(r:Bool)(hx:av n env x=I k a)(hy:av n env y=I k b)(h:decide (a=b)=r):AE P n C env H .no ⟨d,.binOp .eql t x y t',ty,pos,af,gd⟩ (Bo r):=aeI hx hy fun _ _ h1 h2=>Qwl r h1 h2 h
theorem aeNeq(r:Bool)(hx:av n env x=I k a)(hy:av n env y=I k b)(h:decide (a≠b)=r):AE P n C env H .no ⟨d,.binOp .neq t x y t',ty,pos,af,gd⟩ (Bo r):=aeI hx hy fun _ _ h1 h2=>Qwu r h1 h2 h
theorem aeShl{k':IntKind}(z:Int)(hx:av n env x=I k a)(hy:av n env y=I k' b)(hb:0≤b)(h:k.wrap (a*2^ (min b.toNat k.bits))=z):AE P n C env H .no ⟨d,.binOp .shl t x y t',ty,pos,af,gd⟩ (I k z):=aeI hx hy fun _ _ h1 h2=>Qwy z h1 h2 hb h
theorem aeShr{k':IntKind}(z:Int)(hx:av n env x=I k a)(hy:av n env y=I k' b)(hb:0≤b)(h:a.fdiv (2^ (min b.toNat k.bits))=z):AE P n C env H .no ⟨d,.binOp .shr t x y t',ty,pos,af,gd⟩ (I k z):=aeI hx hy fun _ _ h1 h2=>Qwz z h1 h2 hb h
theorem aeNeg(z:Int)(hx:av n env x=I k a)(h:k.wrap (0 -a)=z):AE P n C env H .no ⟨d,.unOp .neg t x,ty,pos,af,gd⟩ (I k z):=fun _ _ _ r=>⟨_,rfl,fun _ _=>Qwt z (r.lit hx) h⟩
theorem aeConv{k':IntKind}{ds:TypeDesc}[c:TU P t ds][c':TU P t' (.int k')](z:Int)(hx:av n env x=I k a)(h:k'.wrap a=z):AE P n C env H .no ⟨d,.convert t t' x,ty,pos,af,gd⟩ (I k' z):=fun _ _ _ r=>⟨_,rfl,fun _ _=>QuW z c.un c'.un (r.lit hx) h⟩
theorem aeMax{k':IntKind}{ts:Array TypeId}(z:Int)(hx:av n env x=I k a)(hy:av n env y=I k' b)(h:(if b>a then b else a)=z):AE P n C env H .no ⟨d,.call {callee:= .builtin .max,args:= #[x,y],argTypes:=ts},ty,pos,af,gd⟩ (I k z):=fun _ _ _ r=>⟨_,rfl,fun _ _=>Qwq z (r.lit hx) (r.lit hy) h⟩
theorem aeMin{k':IntKind}{ts:Array TypeId}(z:Int)(hx:av n env x=I k a)(hy:av n env y=I k' b)(h:(if b<a then b else a)=z):AE P n C env H .no ⟨d,.call {callee:= .builtin .min,args:= #[x,y],argTypes:=ts},ty,pos,af,gd⟩ (I k z):=fun _ _ _ r=>⟨_,rfl,fun _ _=>Qwr z (r.lit hx) (r.lit hy) h⟩
end
theorem aeNot{b:Bool}(r:Bool)(hx:av n env x=Bo b)(h:(!b)=r):AE P n C env H .no ⟨d,.unOp .not t x,ty,pos,af,gd⟩ (Bo r):=fun _ _ _ q=>⟨_,rfl,fun _ _=>Qwv r (q.lit hx) h⟩
theorem aeEqlB[c:TU P t .bool]{a b:Bool}(r:Bool)(hx:av n env x=Bo a)(hy:av n env y=Bo b)(h:(a==b)=r):AE P n C env H .no ⟨d,.binOp .eql t x y t',ty,pos,af,gd⟩ (Bo r):=fun _ _ _ q=>⟨_,rfl,fun _ _=>QuX r c.un (q.lit hx) (q.lit hy) h⟩
theorem aeNeqB[c:TU P t .bool]{a b:Bool}(r:Bool)(hx:av n env x=Bo a)(hy:av n env y=Bo b)(h:(a !=b)=r):AE P n C env H .no ⟨d,.binOp .neq t x y t',ty,pos,af,gd⟩ (Bo r):=fun _ _ _ q=>⟨_,rfl,fun _ _=>Qu0 r c.un (q.lit hx) (q.lit hy) h⟩
theorem aeLen{el:TypeId}[c:TU P t (.slice el)]{z:Nat}{l:List AV}(hx:av n env x=sl z l):AE P n C env H .no ⟨d,.call {callee:= .builtin .len,args:= #[x],argTypes:= #[t]},ty,pos,af,gd⟩ (I .i64 (l.length:Int)):=fun _ _ _ r=>
  let⟨_,_,h,_⟩:=r.at hx;⟨_,rfl,fun _ _=>Qqc c.un h⟩
theorem aeLenO{el:TypeId}[c:TU P t (.slice el)]{z g m1 n1 c1:Nat}(hx:av n env x=lsl z g m1 n1 c1):AE P n C env H .no ⟨d,.call {callee:= .builtin .len,args:= #[x],argTypes:= #[t]},ty,pos,af,gd⟩ (I .i64 (n1:Int)):=fun _ _ _ r=>
  let⟨_,h,_⟩:=r.at hx;⟨_,rfl,fun _ _=>Qqc c.un h⟩
theorem aeLenG{el:TypeId}[c:TU P t (.slice el)]{k:Option Nat}{n1 c1:Nat}(hx:av n env x=gh k n1 c1):AE P n C env H .no ⟨d,.call {callee:= .builtin .len,args:= #[x],argTypes:= #[t]},ty,pos,af,gd⟩ (I .i64 (n1:Int)):=fun _ _ _ r=>
  ⟨_,rfl,fun _ _=>Qqc c.un (r.lit hx)⟩
theorem aeLen0{el:TypeId}[c:TU P t (.slice el)](hx:av n env x=nilS):AE P n C env H .no ⟨d,.call {callee:= .builtin .len,args:= #[x],argTypes:= #[t]},ty,pos,af,gd⟩ (I .i64 0):=fun _ _ _ r=>
  ⟨_,rfl,fun _ _=>Qqc c.un (r.lit hx)⟩
theorem aeIx{el:TypeId}{z:Nat}[c:TU P t (.slice el)][c':TS P el z]{l:List AV}{k:IntKind}{q:Int}{a:AV}(i:Nat)(hx:av n env x=sl z l)(hy:av n env y=I k q)(hq:q=(i:Int))(hi:l[i]? =some a):
    AE P n C env H .no ⟨d,.indexAddr t x y,ty,pos,af,gd⟩ (ep a):=fun e w S r=>by
  obtain⟨A,c1,h1,_,_,h4,h5⟩:=r.at hx
  have hl:i<l.length:=(List.getElem?_eq_some_iff.1 hi).1
  obtain⟨b,o,cs,t1,f,rfl,hb,hw,hlay⟩:=h5 (by intro h;subst h;simp at hl)
  obtain⟨v,hv,hc⟩:=hlay.get h4 hi
  have ha:=h4 a (List.mem_of_getElem? hi)
  refine⟨_,⟨b,o+i*z,cs,t1,f,v,rfl,hb,hw,hv,ha.2,?_⟩,fun w' _=>Qnk i c.un c'.sz h1 (r.lit hy) hq hl _ rfl⟩
  rw[List.drop_take,List.drop_drop,List.take_take,Nat.min_eq_left (by have :=Nat.mul_le_mul_right z hl;rw[Nat.succ_mul] at this;omega)] at hc
  rw[ha.1];exact hc
theorem aeIxO{el:TypeId}{z:Nat}[c:TU P t (.slice el)][c':TS P el z]{g m1 n1 c1:Nat}{k:IntKind}{q:Int}(i:Nat)(hx:av n env x=lsl z g m1 n1 c1)(hy:av n env y=I k q)(hq:q=(i:Int))(hi:i<n1):
    AE P n C env H .no ⟨d,.indexAddr t x y,ty,pos,af,gd⟩ (lpt z g (m1+i)):=fun e w S r=>by
  obtain⟨A,h1,h2,_,h3⟩:=r.at hx
  obtain rfl:=h3 (by omega)
  exact⟨_,rfl,fun w' _=>Qnk i c.un c'.sz h1 (r.lit hy) hq hi _ (Nat.add_mul m1 i z).symm⟩
theorem aeIxO0{el:TypeId}{z:Nat}[c:TU P t (.slice el)][c':TS P el z]{g n1 c1:Nat}{k:IntKind}{q:Int}(i:Nat)(hx:av n env x=lsl z g 0 n1 c1)(hy:av n env y=I k q)(hq:q=(i:Int))(hi:i<n1):
    AE P n C env H .no ⟨d,.indexAddr t x y,ty,pos,af,gd⟩ (lpt z g i):=by
  have :=aeIxO (P:=P) (t:=t) (el:=el) (H:=H) (C:=C) (d:=d) (ty:=ty) (pos:=pos) (af:=af) (gd:=gd) i hx hy hq hi;rwa [Nat.zero_add] at this
theorem aeFa1{s:TypeId}{f off:Nat}[c:TF P s f off]{l:List AV}{a:AV}(hx:av n env x=ep (agg l))(hi:l[off]? =some a)(ha:a.sh= .one):AE P n C env H .no ⟨d,.fieldAddr s x f,ty,pos,af,gd⟩ (ep a):=fun e w S r=>by
  obtain⟨b,o,cs,t1,f1,u,h1,h2,h3,⟨vs,rfl,h5,h6⟩,_,h7⟩:=r.at hx
  obtain⟨v,hv,hr⟩:=h5.get hi
  refine⟨_,⟨b,o+off,cs,t1,f1,v,rfl,h2,h3,hr,by rw[ha];simp,?_⟩,fun w' _=>Qw2 _ c.fa h1 rfl⟩
  have e1:v.cells.toList=[v]:=by have :=h6 v (List.mem_of_getElem? hv);cases v<;>first |rfl| (simp [Value.oneCell'] at this)
  rw[ha,e1,←List.drop_drop]
  have h8:(List.take (agg l).sh.size (List.drop o cs.toList))[off]? =some v:=by rw[h7];exact hv
  have hlt:off<(agg l).sh.size:=(List.getElem?_eq_some_iff.1 hi).1
  rw[List.getElem?_take_of_lt hlt] at h8
  obtain⟨h9,h10⟩:=List.getElem?_eq_some_iff.1 h8
  rw[List.drop_eq_getElem_cons h9]
  simp [Sh.size,h10]
theorem aeFaO{s:TypeId}{f off:Nat}[c:TF P s f off]{g i:Nat}(hx:av n env x=lpt 1 g i):AE P n C env H .no ⟨d,.fieldAddr s x f,ty,pos,af,gd⟩ (lpt 1 g (i+off)):=fun e w S r=>
  ⟨_,rfl,fun _ _=>Qw2 _ c.fa (r.lit hx) (by omega)⟩
theorem aeLdE{s:Sh}[c:TL P t s]{a:AV}(hx:av n env x=ep a)(hs:a.sh=s):AE P n C env H .sh ⟨d,.load t x,ty,pos,af,gd⟩ a:=fun e w S r=>by
  obtain⟨b,o,cs,t1,f,u,h1,h2,h3,h4,h5,h6⟩:=r.at hx
  subst hs
  exact⟨u,h4,fun w' hw=>Ev.loadV h1 (TL.run (s:=a.sh) (by rw[hw b h2];exact h3) (a.ok h4) h6)⟩
theorem Own.arr{G:Nat→Prop}{w:World}{S:Nat→Prop}(o:Own w S G H){j g:Nat}{t:TypeId}{z:Nat}{l:List AV}(hj:H[j]? =some (some g,.arr t z l)):els z l∧ ∃cs,Blk w g t cs∧lay w S l cs:=o.ob _ (List.mem_of_getElem? hj)
theorem aeLdO{s:Sh}[c:TL P t s]{z g i:Nat}{l:List AV}{a:AV}(hx:av n env x=lpt z g i)(j:Nat)(hj:H[j]? =some (some g,.arr t' z l))(hi:l[i]? =some a)(hs:a.sh=s):AE P n C env H (.own j) ⟨d,.load t x,ty,pos,af,gd⟩ a:=fun e w S r=>by
  obtain⟨h1,cs,h2,h3⟩:=r.own.arr hj
  obtain⟨v,hv,hc⟩:=h3.get h1 hi
  subst hs
  have ha:=h1 a (List.mem_of_getElem? hi)
  exact⟨v,hv,fun w' hw=>Ev.loadV (r.lit hx) (TL.run (s:=a.sh) ((hw g ⟨_,hj⟩).trans h2) (a.ok hv) (by rw[ha.1];simpa using hc))⟩
def isOne(a:AV):Bool:=match a.sh with | .one=>true|_=>false
theorem isOne_sh{a:AV}(h:isOne a=true):a.sh= .one:=by unfold isOne at h;split at h<;>first |assumption| cases h
theorem one_cells{w:World}{S:Nat→Prop}{a:AV}{v:Value}(h:isOne a=true)(hv:a.rep w S v):v.cells.toList=[v]∧v.oneCell'=true:=by
  have h1:=a.ok hv;rw[isOne_sh h] at h1
  exact⟨by cases v<;>first |rfl| (simp [Sh.ok,Value.oneCell'] at h1),h1⟩
theorem lay_reps{w:World}{S:Nat→Prop}: ∀{l:List AV}{cs:List Value},lay w S l cs→l.all isOne=true→reps w S l cs
  | [],_,h,_=>by rw[show _=[] from h];trivial
  |a::l,_,⟨v,cs',h1,h2,h3⟩,h=>by
    simp only[List.all_cons,Bool.and_eq_true] at h
    rw[(one_cells h.1 h1).1] at h2
    subst h2;exact⟨h1,lay_reps h3 h.2⟩
theorem reps_lay{w:World}{S:Nat→Prop}: ∀{l:List AV}{cs:List Value},reps w S l cs→l.all isOne=true→lay w S l cs
  | [],[],_,_=>rfl
  |a::l,v::vs,h,hl=>by
    simp only[List.all_cons,Bool.and_eq_true] at hl
    exact⟨v,vs,h.1,by rw[(one_cells hl.1 h.1).1];rfl,reps_lay h.2 hl.2⟩
  | [],_::_,h,_=>h.elim
  |_::_,[],h,_=>h.elim
theorem els_one{l:List AV}(h:l.all isOne=true):els 1 l:=fun a ha=>by
  have :=isOne_sh (List.all_eq_true.1 h a ha);exact⟨by rw[this];rfl,by rw[this];simp⟩
theorem aeLdW{m1:Nat}[c:TL P t (.ag m1)]{g i:Nat}{l l':List AV}(hx:av n env x=lpt 1 g i)(j:Nat)(hj:H[j]? =some (some g,.arr t' 1 l))(hl:(l.drop i).take m1=l')(hm:l'.length=m1)(h1:l'.all isOne=true):
    AE P n C env H (.own j) ⟨d,.load t x,ty,pos,af,gd⟩ (agg l'):=fun e w S r=>by
  obtain⟨he,cs,h2,h3⟩:=r.own.arr hj
  subst hl
  have hlen:m1=0∨(m1≤l.length -i∧i≤l.length):=by simp [List.length_take] at hm;omega
  have h4:lay w S ((l.drop i).take m1) ((cs.drop i).take m1):=by
    rcases hlen with h0| ⟨h0,hi⟩
    · subst h0;simp [lay]
    · have :=(h3.drop i he hi).take m1 he.drop (by simpa using h0);simpa using this
  have h5:=lay_reps h4 h1
  refine⟨.agg ((cs.drop i).take m1).toArray,⟨_,rfl,h5,h4.one he.drop.take⟩,fun w' hw=>Ev.loadV (r.lit hx) (TL.run (s:= .ag m1) ((hw g ⟨_,hj⟩).trans h2) ⟨_,rfl,h5.len.trans hm,h4.one he.drop.take⟩ ?_)⟩
  simp [Sh.size,Value.cells]
theorem sl_part{w:World}{S:Nat→Prop}{z:Nat}{l:List AV}{A:Option Addr}{c1:Nat}(lo h:Nat)(hl:lo≤h)(hh:h≤l.length)(r:(sl z l).rep w S (.slice A l.length c1)):
    (sl z ((l.take h).drop lo)).rep w S (.slice (if c1=lo then A else A.map (·.add (lo*z))) (h -lo) (c1 -lo)):=by
  obtain⟨A',c',e,h2,h3,h4,h5⟩:=r
  injection e with e1 _ e2
  subst e1 e2
  have e1:((l.take h).drop lo).length=h -lo:=by rw[List.length_drop,List.length_take,Nat.min_eq_left hh]
  refine⟨_,c1 -lo,by rw[e1],by omega,by omega,h4.take.drop,fun hne=> ?_⟩
  have hlt:lo<h:=by
    rcases Nat.lt_or_ge lo h with hk|hk
    · exact hk
    · exact absurd (List.length_eq_zero_iff.1 (by omega)) hne
  obtain⟨b,o,cs,t1,f,rfl,hb,hw,hlay⟩:=h5 (by intro h;subst h;simp at hh;omega)
  refine⟨b,o+lo*z,cs,t1,f,by rw[if_neg (by omega)];simp [addr_add],hb,hw,?_⟩
  have :=(hlay.take h h4 hh).drop lo h4.take (by rw[List.length_take,Nat.min_eq_left hh];exact hl)
  rw[List.take_take,Nat.min_eq_left (Nat.mul_le_mul_right z hh),List.drop_take (i:=lo*z),List.drop_drop,←Nat.sub_mul] at this
  rw[e1];exact this
theorem aeLH{el:TypeId}{z:Nat}[c:TU P t (.slice el)][c':TS P el z]{l:List AV}{k k':IntKind}{q q':Int}{y':Operand}(lo h:Nat)(hx:av n env x=sl z l)(hy:av n env y=I k q)(hy':av n env y'=I k' q')(hq:q=(lo:Int))(hq':q'=(h:Int))(hl:lo≤h)(hh:h≤l.length):
    AE P n C env H .no ⟨d,.slice t x (some y) (some y') none,ty,pos,af,gd⟩ (sl z ((l.take h).drop lo)):=fun e w S r=>by
  obtain⟨A,c1,h1,h2,h3⟩:=r.at hx
  exact⟨_,sl_part lo h hl hh ⟨A,c1,rfl,h2,h3⟩,fun w' _=>Qg5 lo h c.un c'.sz h1 ⟨k,q,r.lit hy,hq⟩ ⟨k',q',r.lit hy',hq'⟩ hl (by omega)⟩
theorem aeLo{el:TypeId}{z:Nat}[c:TU P t (.slice el)][c':TS P el z]{l:List AV}{k:IntKind}{q:Int}(lo:Nat)(hx:av n env x=sl z l)(hy:av n env y=I k q)(hq:q=(lo:Int))(hl:lo≤l.length):
    AE P n C env H .no ⟨d,.slice t x (some y) none none,ty,pos,af,gd⟩ (sl z (l.drop lo)):=fun e w S r=>by
  obtain⟨A,c1,h1,h2,h3⟩:=r.at hx
  have :=sl_part lo l.length hl (Nat.le_refl _) ⟨A,c1,rfl,h2,h3⟩
  rw[List.take_length] at this
  exact⟨_,this,fun w' _=>Qg5 lo l.length c.un c'.sz h1 (hi:=none) ⟨k,q,r.lit hy,hq⟩ rfl hl h2⟩
theorem aeHi{el:TypeId}{z:Nat}[c:TU P t (.slice el)][c':TS P el z]{l:List AV}{k:IntKind}{q:Int}(h:Nat)(hx:av n env x=sl z l)(hy:av n env y=I k q)(hq:q=(h:Int))(hh:h≤l.length):
    AE P n C env H .no ⟨d,.slice t x none (some y) none,ty,pos,af,gd⟩ (sl z (l.take h)):=fun e w S r=>by
  obtain⟨A,c1,h1,h2,h3⟩:=r.at hx
  have :=sl_part 0 h (Nat.zero_le _) hh ⟨A,c1,rfl,h2,h3⟩
  rw[List.drop_zero] at this
  exact⟨_,this,fun w' _=>Qg5 0 h c.un c'.sz h1 (lo:=none) rfl ⟨k,q,r.lit hy,hq⟩ (Nat.zero_le _) (by omega)⟩
theorem aeSlO{el:TypeId}{z:Nat}[c:TU P t (.slice el)][c':TS P el z]{g m1 n1 c1:Nat}{lo hi:Option Operand}(a b:Nat)(hx:av n env x=lsl z g m1 n1 c1)(hlo:match lo with |none=>a=0|some y=> ∃k q,av n env y=I k q∧q=(a:Int))(hhi:match hi with |none=>b=n1|some y=> ∃k q,av n env y=I k q∧q=(b:Int))(h1:a≤b)(h2:b≤c1):
    AE P n C env H .no ⟨d,.slice t x lo hi none,ty,pos,af,gd⟩ (lsl z g (m1+a) (b -a) (c1 -a)):=fun e w S r=>by
  obtain⟨A,h3,h4,h5,h6⟩:=r.at hx
  refine⟨_,⟨_,rfl,by omega,by omega,fun h7=> ?_⟩,fun w' _=>Qg5 a b c.un c'.sz h3 ?_ ?_ h1 h2⟩
  · rw[if_neg (by omega),h6 (by omega)];simp [addr_add,Nat.add_mul]
  · cases lo with
    |none=>exact hlo
    |some y=>obtain⟨k,q,h8,h9⟩:=hlo;exact⟨k,q,r.lit h8,h9⟩
  · cases hi with
    |none=>exact hhi
    |some y=>obtain⟨k,q,h8,h9⟩:=hhi;exact⟨k,q,r.lit h8,h9⟩
end
end Go.Am
namespace Go.Am
open Go.RowKit Go.Gx
class TZ (P:Program) (t:TypeId) (l:outParam (List AV)):Prop where
  ze: ∃(z:Value)(cs:List Value),(∀w,(zeroValue t).run P w= .ok z w)∧z.cells=cs.toArray∧l=cs.map lit∧cs.all Value.oneCell'=true
class TI (P:Program) (t:TypeId) (z:outParam Value) (s b:outParam Nat):Prop where
  nf:(P.info? t).map (fun i=>(i.zero,i.size,i.bytes))=some (some z,s,b)
class TC (P:Program) (f:FuncId):Prop where
  ca:Qel P f
def AO(P:Program)(n:Nat)(D:List Deferred)(C:Ctx)(env:Nat→AV)(H:Hp)(W:Nat→Prop)(o:Oper)(Ψ:((Nat→AV)→Hp→Prop)→Prop):Prop:=
  ∀e w S (Q:Exit→Act→World→Prop)(R:Act→World→Prop)(K:(Nat→AV)→Hp→Prop),Rel C env H S e w→Ψ K→
    (∀env' H' S' e' w',K env' H'→Frm W w w'→Rel C env' H' S' e' w'→R (mkA D n e') w')→OpW P o (mkA D n e) w R Q
def elB(z:Nat)(a:AV):Bool:=match a.sh with | .no=>false|s=>s.size==z
theorem elB_el{z:Nat}{a:AV}(h:elB z a=true):a.el z:=by
  unfold elB at h
  split at h
  · cases h
  · rename_i hs;exact⟨by simpa using h,hs⟩
theorem lay_lit{w:World}{S:Nat→Prop}: ∀{cs:List Value},cs.all Value.oneCell'=true→lay w S (cs.map lit) cs∧els 1 (cs.map lit)
  | [],_=>⟨rfl,fun a ha=>by simp at ha⟩
  |c::cs,h=>by
    simp only[List.all_cons,Bool.and_eq_true] at h
    have ih:=lay_lit (w:=w) (S:=S) h.2
    have h1:c.cells.toList=[c]:=by cases c<;>first |rfl| (simp [Value.oneCell'] at h)
    have h2:(lit c).el 1:=by
      have :shOf c= .one:=by cases c<;>first |rfl| (simp [Value.oneCell'] at h)
      exact⟨by show(shOf c).size=1;rw[this];rfl,by show shOf c≠ .no;rw[this];simp⟩
    exact⟨⟨c,cs,rfl,by rw[h1];rfl,ih.1⟩,fun a ha=>by
      rcases List.mem_cons.1 ha with rfl|ha
      · exact h2
      · exact ih.2 a ha⟩
theorem Own.set{w w':World}{S G:Nat→Prop}{H:Hp}(h:Own w S G H){j g:Nat}{o o':Ob}(hj:H[j]? =some (some g,o))(hlt: ∀b,S b→b<w.heap.size)(f:Frm (· =g) w w')(ho:o'.holds w' S (some g)):Own w' S G (H.set j (some g,o')):=by
  have hjl:=List.getElem?_eq_some_iff.1 hj
  obtain⟨hl,hj'⟩:=hjl
  have k:Keep w w' S S:=fun b hb=>⟨hb,f.block b (hlt b hb) fun e=>(h.ow _ (List.mem_of_getElem? hj) g rfl).1 (e▸hb)⟩
  have hpw:=List.pairwise_iff_getElem.1 h.nd
  refine⟨fun x hx=> ?_,fun x hx b hb=> ?_,List.pairwise_iff_getElem.2 fun i i' hi hi' hii=> ?_⟩
  · obtain⟨i,hi,rfl⟩:=List.getElem_of_mem hx
    rw[List.getElem_set]
    split
    · exact ho
    · rename_i hne
      have hi2:i<H.length:=by simpa using hi
      refine(h.ob _ (List.getElem_mem hi2)).mono k fun b hb=>f.block b (h.lt (List.getElem_mem hi2) hb) fun e=> ?_
      subst e
      rcases Nat.lt_or_gt_of_ne hne with hlt'|hlt'
      · exact hpw j i hl hi2 hlt' b (by rw[hj']) hb
      · exact hpw i j hi2 hl hlt' b hb (by rw[hj'])
  · rcases List.mem_or_eq_of_mem_set hx with hx|rfl
    · exact h.ow x hx b hb
    · exact h.ow _ (List.mem_of_getElem? hj) b hb
  · have hi2:i<H.length:=by simpa using hi
    have hi3:i'<H.length:=by simpa using hi'
    intro b
    have e1: ∀(q:Nat)(hq:q<H.length)(hq':q<(H.set j (some g,o')).length),(H.set j (some g,o'))[q].1=H[q].1:=fun q hq hq'=>by
      rw[List.getElem_set];split
      · rename_i e;subst e;rw[hj']
      · rfl
    rw[e1 i hi2,e1 i' hi3]
    exact hpw i i' hi2 hi3 hii b
section
variable{P:Program}{n:Nat}{D:List Deferred}{C:Ctx}{env:Nat→AV}{H:Hp}{d:Nat}{d':Option Nat}{ty:TypeId}{pos:String}{af:Array Edge}{gd:Option (Nat×Bool)}{x y:Operand}{t t':TypeId}
theorem aoE{m:Rk}{o:Oper}{a:AV}(h:AE P n C env H m o a)(hd:o.dst=some d):AO P n D C env H (fun _=>False) o (fun K=>K (updA env d a) H):=fun e w S Q R K r hk k=>by
  obtain⟨v,h1,h2⟩:=h e w S r
  exact oEv (h2 w fun _ _=>rfl) hd (k _ _ S _ _ hk (Frm.refl _ _) (r.upd h1))
theorem upd_new{g:Nat}{o:Ob}{a:AV}{S:Nat→Prop}{e:Nat→Value}{w w':World}{v:Value}(r:Rel C env H S e w)(f:Ext w w')(hg:g=w.heap.size)(hs:w'.heap.size=g+1)(ho:o.holds w' S (some g))(hv:a.rep w' S v):Rel C (updA env d a) ((some g,o)::H) S (upd e d v) w':=
  (r.new f hg hs ho).upd hv
theorem aoBox{a:AV}{z:Nat}[TS P t z](hx:av n env x=a)(he:elB z a=true):AO P n D C env H (fun _=>False) ⟨some d,.box t x,ty,pos,af,gd⟩ (fun K=> ∀g,K (updA env d (lpt z g 0)) ((some g,.arr t z [a])::H)):=fun e w S Q R K r hk k=>by
  refine Qw6 (ev n e x).cells.toList rfl (by simp) fun g w' hg f hs hb=>k _ _ S _ _ (hk g) f (upd_new r f hg hs ⟨fun b hb=> ?_,_,hb,_,[],a.mono (fun b hb=>⟨hb,f.block b (r.lt b hb) fun g=>g⟩) (r.at hx),by simp,rfl⟩ (by show _=_;rw[Nat.zero_mul]))
  obtain rfl:b=a:=by simpa using hb
  exact elB_el he
theorem aoBoxA{l:List AV}(hx:av n env x=agg l)(h1:l.all isOne=true):AO P n D C env H (fun _=>False) ⟨some d,.box t x,ty,pos,af,gd⟩ (fun K=> ∀g,K (updA env d (lpt 1 g 0)) ((some g,.arr t 1 l)::H)):=fun e w S Q R K r hk k=>by
  obtain⟨vs,hv,hr,ho⟩:=r.at hx
  exact Qw6 vs hv (by simp [Value.cells]) fun g w' hg f hs hb=>k _ _ S _ _ (hk g) f (upd_new r f hg hs ⟨els_one h1,_,hb,reps_lay (hr.mono fun b hb=>⟨hb,f.block b (r.lt b hb) fun g=>g⟩) h1⟩ rfl)
theorem aoAlloc{l:List AV}[c:TZ P t l]:AO P n D C env H (fun _=>False) ⟨some d,.alloc t,ty,pos,af,gd⟩ (fun K=> ∀g,K (updA env d (lpt 1 g 0)) ((some g,.arr t 1 l)::H)):=fun e w S Q R K r hk k=>by
  obtain⟨z,cs,h1,h2,h3,h4⟩:=c.ze
  subst h3
  have h5:=fun w'=>lay_lit (w:=w') (S:=S) h4
  exact QvB cs h1 h2 fun g w' hg f hs hb=>k _ _ S _ _ (hk g) f (upd_new r f hg hs ⟨(h5 w').2,_,hb,(h5 w').1⟩ rfl)
theorem lay_rep{w:World}{S:Nat→Prop}{a:AV}{v:Value}(h:a.rep w S v): ∀m,lay w S (List.replicate m a) (List.replicate m v.cells.toList).flatten
  |0=>rfl
  |m+1=>⟨v,_,h,rfl,lay_rep h m⟩
theorem flat_rep{z:List Value}: ∀{m i:Nat},i<m*z.length→(List.replicate m z).flatten[i]? =z[i % z.length]?
  |0,_,h=>by simp at h
  |m+1,i,h=>by
    rw[List.replicate_succ,List.flatten_cons]
    rcases Nat.lt_or_ge i z.length with h1|h1
    · rw[List.getElem?_append_left h1,Nat.mod_eq_of_lt h1]
    · rw[Nat.succ_mul] at h
      rw[List.getElem?_append_right h1,flat_rep (by omega),Nat.mod_eq_sub_mod h1]
theorem made_flat(z:Array Value)(hz:0<z.size)(m:Nat):(madeCells z (m*z.size)).toList=(List.replicate m z.toList).flatten:=by
  apply List.ext_getElem?
  intro i
  rcases Nat.lt_or_ge i (m*z.size) with h|h
  · have hm:i % z.size<z.size:=Nat.mod_lt _ hz
    rw[flat_rep (by simpa using h)]
    simp [madeCells,h,List.getElem?_range,getElem!_pos,hm]
  · rw[List.getElem?_eq_none (by simp [madeCells,h]),List.getElem?_eq_none (by simp [h])]
theorem aoMake{el:TypeId}{v:Value}{s b:Nat}[c:TU P t (.slice el)][c':TI P el v s b]{α:Type}(f:α→AV)(x0:α)(m:Nat){k k':IntKind}{q q':Int}(hx:av n env x=I k q)(hy:av n env y=I k' q')(hq:q=(m:Int))(hq':q'=(m:Int))(hb:b*m≤281474976710656)(hm:m≤9223372036854775807)
    (hv: ∀w S,(f x0).rep w S v)(he:elB s (f x0)=true)(hs:Nat.ble 1 s=true):AO P n D C env H (fun _=>False) ⟨some d,.makeSlice t x y,ty,pos,af,gd⟩ (fun K=> ∀g,K (updA env d (lsl s g 0 m m)) ((some g,.arr el s ((List.replicate m x0).map f))::H)):=fun e w S Q R K r hk k=>by
  subst hq hq'
  have hsz:=(elB_el he).cells (hv w S)
  refine QwJ m c.un c'.nf (r.lit hx) (r.lit hy) hb hm fun g w' hg f' hs' hb'=>k _ _ S _ _ (hk g) f' (upd_new r f' hg hs' ⟨fun a ha=> ?_,_,hb',?_⟩ ⟨_,rfl,Nat.le_refl _,hm,fun _=>by rw[Nat.zero_mul]⟩)
  · obtain⟨_,h1,rfl⟩:=List.mem_map.1 ha;rw[List.eq_of_mem_replicate h1];exact elB_el he
  · rw[List.map_replicate]
    have hl:v.cells.size=s:=by simpa using hsz
    have :=made_flat v.cells (by rw[hl];exact Nat.le_of_ble_eq_true hs) m
    rw[hl] at this;rw[this]
    exact lay_rep (hv w' S) m
theorem Rel.store{S:Nat→Prop}{e:Nat→Value}{w w':World}{g j:Nat}{o o':Ob}(r:Rel C env H S e w)(hj:H[j]? =some (some g,o))(f:Frm (· =g) w w')(hs:w'.heap.size=w.heap.size)(ho:o'.holds w' S (some g)):Rel C env (H.set j (some g,o')) S e w':=
  r.to f (fun b _ hb=>by subst hb;exact r.own.ow _ (List.mem_of_getElem? hj) _ rfl) (fun _ h=>h) (fun b h=>by rw[hs];exact r.lt b h) (fun _ h=> .inl h) (r.own.set hj r.lt f ho)
theorem Rel.keep{S:Nat→Prop}{e:Nat→Value}{w w':World}{g j:Nat}{o:Ob}(r:Rel C env H S e w)(hj:H[j]? =some (some g,o))(f:Frm (· =g) w w'):Keep w w' S S:=fun b hb=>
  ⟨hb,f.block b (r.lt b hb) fun e=>(r.own.ow _ (List.mem_of_getElem? hj) _ rfl).1 (e▸hb)⟩
theorem aoSt{s z g i:Nat}[c:TS P t s]{l:List AV}{a:AV}(hx:av n env x=lpt z g i)(hy:av n env y=a)(j:Nat)(hj:H[j]? =some (some g,.arr t' z l))(hi:i<l.length)(he:elB z a=true)(hs:s=z):
    AO P n D C env H (· =g) ⟨none,.store t x y,ty,pos,af,gd⟩ (fun K=>K env (H.set j (some g,.arr t' z (l.set i a)))):=fun e w S Q R K r hk k=>by
  subst hs
  obtain⟨h1,cs,h2,h3⟩:=r.own.arr hj
  have hv:=r.at hy
  have hl:=(elB_el he).cells hv
  have hb:=h3.len h1
  refine QkO (ev n e y).cells.toList (r.lit hx) rfl (by simp) (by rw[hl];exact c.sz) (List.all_eq_true.2 (Sh.ok.size (a.ok hv) (elB_el he).2).2) h2 (by rw[hl,hb,←Nat.succ_mul];exact Nat.mul_le_mul_right _ hi) fun w' f hs hb'=> ?_
  have kp:=r.keep hj f
  refine k _ _ S _ _ hk f (r.store hj f hs ⟨h1.set (elB_el he),_,hb',?_⟩)
  rw[hl];exact(h3.mono kp).set h1 hi (a.mono kp hv) (elB_el he)
theorem aoStM{s z g i:Nat}[c:TS P t s]{α:Type}{f:α→AV}{l:List α}{a:AV}(x0:α)(hx:av n env x=lpt z g i)(hy:av n env y=a)(j:Nat)(hj:H[j]? =some (some g,.arr t' z (l.map f)))(ha:a.le (f x0))(hi:i<l.length)(he:elB z (f x0)=true)(hs:s=z):
    AO P n D C env H (· =g) ⟨none,.store t x y,ty,pos,af,gd⟩ (fun K=>K env (H.set j (some g,.arr t' z ((l.set i x0).map f)))):=fun e w S Q R K r hk k=>by
  subst hs
  obtain⟨h1,cs,h2,h3⟩:=r.own.arr hj
  have hv:=ha _ _ _ (r.at hy)
  have hl:=(elB_el he).cells hv
  have hb:=h3.len h1
  rw[List.length_map] at hb
  refine QkO (ev n e y).cells.toList (r.lit hx) rfl (by simp) (by rw[hl];exact c.sz) (List.all_eq_true.2 (Sh.ok.size ((f x0).ok hv) (elB_el he).2).2) h2 (by rw[hl,hb,←Nat.succ_mul];exact Nat.mul_le_mul_right _ hi) fun w' f' hs hb'=> ?_
  have kp:=r.keep hj f'
  refine k _ _ S _ _ hk f' (r.store hj f' hs ⟨by rw[List.map_set];exact h1.set (elB_el he),_,hb',?_⟩)
  rw[hl,List.map_set];exact(h3.mono kp).set h1 (by simpa using hi) ((f x0).mono kp hv) (elB_el he)
theorem aoStW{s z z' g:Nat}[c:TS P t s]{l:List AV}{a:AV}(hx:av n env x=lpt z g 0)(hy:av n env y=a)(j:Nat)(hj:H[j]? =some (some g,.arr t' z' l))(he:elB s a=true)(hl:l.length*z'=s):
    AO P n D C env H (· =g) ⟨none,.store t x y,ty,pos,af,gd⟩ (fun K=>K env (H.set j (some g,.arr t' s [a]))):=fun e w S Q R K r hk k=>by
  obtain⟨h1,cs,h2,h3⟩:=r.own.arr hj
  have hv:=r.at hy
  have hl':=(elB_el he).cells hv
  have hb:=h3.len h1
  refine QkO (ev n e y).cells.toList ((r.lit hx).trans (by rw[Nat.zero_mul])) rfl (by simp) (by rw[hl'];exact c.sz) (List.all_eq_true.2 (Sh.ok.size (a.ok hv) (elB_el he).2).2) h2 (by rw[hl',hb];omega) fun w' f hs hb'=> ?_
  have kp:=r.keep hj f
  refine k _ _ S _ _ hk f (r.store hj f hs ⟨fun b hb=>List.mem_singleton.1 hb▸elB_el he,_,hb',_,[],a.mono kp hv,?_,rfl⟩)
  rw[hl',List.take_zero,Nat.zero_add,List.drop_of_length_le (by omega)];simp
theorem aoStA{s z g i:Nat}[c:TS P t s]{l l':List AV}(hx:av n env x=lpt z g i)(hz:z=1)(hy:av n env y=agg l')(j:Nat)(hj:H[j]? =some (some g,.arr t' 1 l))(h1:l'.all isOne=true)(hs:l'.length=s)(hi:i+s≤l.length):
    AO P n D C env H (· =g) ⟨none,.store t x y,ty,pos,af,gd⟩ (fun K=>K env (H.set j (some g,.arr t' 1 (l.take i++(l'++l.drop (i+s)))))):=fun e w S Q R K r hk k=>by
  subst hz
  obtain⟨he,cs,h2,h3⟩:=r.own.arr hj
  obtain⟨vs,hv,hr,ho⟩:=r.at hy
  have hb:=h3.len he
  have hvl:=hr.len
  refine QkO vs (r.lit hx) hv (by simp [Value.cells]) (by rw[hvl,hs];exact c.sz) (List.all_eq_true.2 ho) h2 (by rw[hvl,hs,hb];omega) fun w' f hs' hb'=> ?_
  have kp:=r.keep hj f
  have h3':=h3.mono kp
  refine k _ _ S _ _ hk f (r.store hj f hs' ⟨fun b hb=> ?_,_,hb',?_⟩)
  · rcases List.mem_append.1 hb with hb|hb
    · exact he b (List.mem_of_mem_take hb)
    · rcases List.mem_append.1 hb with hb|hb
      · exact els_one h1 b hb
      · exact he b (List.mem_of_mem_drop hb)
  · have q1:=h3'.take i he (by omega)
    have q2:=h3'.drop (i+s) he (by omega)
    rw[Nat.mul_one] at q1 q2
    rw[Nat.mul_one,List.append_assoc,hvl,hs]
    exact q1.app ((reps_lay (hr.mono kp) h1).app q2)
end
end Go.Am
namespace Go.Am
open Go.RowKit Go.Gx
def gv(k:Option Nat)(n c:Nat):Value:= .slice (k.map fun g=>⟨g,0,none⟩) n c
def Rds(w:World)(S:Nat→Prop)(z:Nat)(l:List AV)(v:Value):Prop:=els z l∧ ∃A c,v= .slice A l.length c∧l.length≤c∧c≤maxC∧
  (l≠ []→ ∃b o cs t f,A=some ⟨b,o,none⟩∧w.heap[b]? =some (.cells cs t f)∧lay w S l ((cs.toList.drop o).take (l.length*z)))
def Src(n:Nat)(C:Ctx)(env:Nat→AV)(H:Hp)(y:Operand)(z:Nat)(l:List AV):Prop:= ∀e w S,Rel C env H S e w→Rds w S z l (ev n e y)
theorem src_sl{n:Nat}{C:Ctx}{env:Nat→AV}{H:Hp}{y:Operand}{z:Nat}{l:List AV}(hy:av n env y=sl z l):Src n C env H y z l:=fun e w S r=>
  let⟨A,c,h1,h2,h3,h4,h5⟩:=r.at hy;⟨h4,A,c,h1,h2,h3,fun hl=>let⟨b,o,cs,t,f,e1,_,e3,e4⟩:=h5 hl;⟨b,o,cs,t,f,e1,e3,e4⟩⟩
theorem run_app{P:Program}{w:World}{S:Nat→Prop}{t ty el:TypeId}{z:Value}{s b c:Nat}{k:Option Nat}{l l':List AV}{v:Value}(ht:P.underlying t=some (.slice el))(hi:(P.info? el).map (fun i=>(i.zero,i.size,i.bytes))=some (some z,s,b))(hzs:z.cells.size=s)(hs:0<s)
    (ho:(Ob.gro el s l c).holds w S k)(hv:Rds w S s l' v)(hb:(l.length+l'.length)*b≤140737488355328)(hm:l.length+l'.length≤9223372036854775807)(hS: ∀g,k=some g→ ¬S g)(hlt: ∀b,S b→b<w.heap.size):
    ∃k' c' w',(Builtin.append_ #[t,t] ty #[gv k l.length c,v]).run P w= .ok (gv k' (l.length+l'.length) c') w'∧(Ob.gro el s (l++l') c').holds w' S k'∧Frm (fun g=>k=some g) w w'∧(k'=k∨ ∃g,k'=some g∧w.heap.size≤g):=by
  obtain⟨hel',A,c1,rfl,_,_,h5⟩:=hv
  obtain⟨i,hi',hz,hsz,hby⟩:=info_parts hi
  by_cases hn:l'=[]
  · subst hn
    have hown: ∃xs,w.ownsRow 0 el s (gv k l.length c) l.length xs:=by
      cases k with
      |none=>obtain⟨rfl,rfl⟩:=ho;exact⟨[],World.ownsRow_nil w 0 el s⟩
      |some g=>obtain⟨h1,cs,h2,h3,h4,h6,h7⟩:=ho;exact⟨cs.take (l.length*s),by rw[List.length_take,h3,Nat.min_eq_left (Nat.mul_le_mul_right _ h4)],.inr ⟨g,c,cs.toArray,rfl,Nat.zero_le _,h2,h4,by simp only[maxLen,maxC] at *;omega,by simpa using h3,by simp⟩⟩
    obtain⟨xs,hown⟩:=hown
    have hrun:(Builtin.append_ #[t,t] ty #[gv k l.length c,.slice A 0 c1]).run P w= .ok (gv k l.length c) w:=by
      rcases hown.2 with⟨h1,h2⟩| ⟨g,cap,cur,h1,_,_,hnc,_⟩
      · rw[h1];simp [Builtin.append_,run_underlying ht,sizeOf,typeInfo,hi',Builtin.lenOf,Builtin.firstCells]
        cases A<;>simp [Builtin.firstCells,loadCells,loadCellsFrom]
      · rw[h1];cases A<;>simp [Builtin.append_,run_underlying ht,sizeOf,typeInfo,hi',Builtin.lenOf,Builtin.firstCells,hnc,storeCells,loadCells,loadCellsFrom]
    exact⟨k,c,w,by simpa using hrun,by simpa using ho,Frm.refl _ _,.inl rfl⟩
  · obtain⟨b',o,cs',t',f',rfl,hw,hlay⟩:=h5 hn
    have hpos:0<l'.length:=List.length_pos_iff.2 hn
    let news:=(cs'.toList.drop o).take (l'.length*s)
    have hnl:news.length=l'.length*s:=hlay.len hel'
    have hnews: ∀(j:Nat) u,news[j]? =some u→w.cell? ((⟨b',o,none⟩:Addr).add j)=some u:=by
      intro j u hj
      simp only[news,List.getElem?_take] at hj
      split at hj
      · rw[List.getElem?_drop] at hj;rw[addr_add];simpa [World.cell?,hw] using hj
      · cases hj
    have hone: ∀u∈news,u.oneCell'=true:=hlay.one hel'
    have hown:els s l∧ ∃xs,w.ownsRow 0 el s (gv k l.length c) l.length xs∧lay w S l xs:=by
      cases k with
      |none=>obtain⟨rfl,rfl⟩:=ho;exact⟨fun a ha=>by simp at ha,[],World.ownsRow_nil w 0 el s,rfl⟩
      |some g=>obtain⟨h1,cs,h2,h3,h4,h6,h7⟩:=ho;exact⟨h1,cs.take (l.length*s),⟨by rw[List.length_take,h3,Nat.min_eq_left (Nat.mul_le_mul_right _ h4)],.inr ⟨g,c,cs.toArray,rfl,Nat.zero_le _,h2,h4,by simp only[maxLen,maxC] at *;omega,by simpa using h3,by simp⟩⟩,h7⟩
    obtain⟨hel,xs,hown,hlx⟩:=hown
    obtain⟨v',w',hrun,h2,h3,_⟩:=run_append_own (P:=P) w 0 t ty el i z s b ht hi' hz hsz hby hzs hs _ l.length xs hown ⟨b',o,none⟩ l'.length c1 news hnl hnews hone (by simp only[maxLen];omega) hb (Nat.zero_le _)
    have hF:Frm (fun g=>k=some g) w w':=⟨h3.os,h3.tape,h3.output,h3.size,by
      subst hsz hby
      rcases hown.2 with⟨h1,h4⟩| ⟨g,cap,cur,h1,hbg,hg,hnc,hcm,hcs,htake⟩
      · rw[h1] at hrun
        have h:=run_append_nil (P:=P) w t ty el i z ht hi' hz ⟨b',o,none⟩ l'.length c1 news hnl hnews hpos (by omega) (by have :=Nat.le_trans (Nat.mul_le_mul_right i.bytes (Nat.le_add_left l'.length l.length)) hb;omega)
        rw[h] at hrun;injection hrun with _ h6;rw[←h6];exact Nat.le_succ _
      · rw[h1] at hrun
        by_cases hroom:l.length+l'.length≤cap
        · have h:=run_append_room (P:=P) w t ty el i ht hi' g l.length cap cur hg ⟨b',o,none⟩ l'.length c1 news hnl hnews hone hroom (by rw[hnl,hcs,←Nat.add_mul];exact Nat.mul_le_mul_right _ hroom)
          rw[h] at hrun;injection hrun with _ h6;rw[←h6];exact Nat.le_refl _
        · have holds: ∀(j:Nat) u,xs[j]? =some u→w.cell? ((⟨g,0,none⟩:Addr).add j)=some u:=World.ownsRow.cells (h1▸hown) (g:=g) rfl
          have h:=run_append_grow (P:=P) w t ty el i z ht hi' hz ⟨g,0,none⟩ l.length cap xs hown.1 holds ⟨b',o,none⟩ l'.length c1 news hnl hnews (by omega) (by omega) (growslice_fits (by omega) hb)
          rw[h] at hrun;injection hrun with _ h6;rw[←h6];exact Nat.le_succ _,fun j hj hg=>h3.block j hj fun h=>hg (by
        unfold gv Value.ownBlock at h
        cases k with
        |none=>simp at h
        |some g=>
            have e:j=g:=by simpa using h
            rw[e])⟩
    obtain⟨g',cap',cur',hv',_,hg',hnc',hcm',hsz',htk'⟩:=h2.2.resolve_left fun h=>by omega
    have kp:Keep w w' S S:=fun q hq=>⟨hq,hF.block q (hlt q hq) fun e=>hS q e hq⟩
    have hplace:some g'=k∨w.heap.size≤g':=by
      subst hsz hby hv'
      rcases hown.2 with⟨h1,h4⟩| ⟨g,cap,cur,h1,hbg,hg,hnc,hcm,hcs,htake⟩
      · rw[h1] at hrun
        have h:=run_append_nil (P:=P) w t ty el i z ht hi' hz ⟨b',o,none⟩ l'.length c1 news hnl hnews hpos (by omega) (by have :=Nat.le_trans (Nat.mul_le_mul_right i.bytes (Nat.le_add_left l'.length l.length)) hb;omega)
        rw[h] at hrun;injection hrun with h6 _;injection h6 with h6;injection h6 with h6;injection h6 with h6;right;rw[←h6];exact Nat.le_refl _
      · have hk:k=some g:=by
          unfold gv at h1;injection h1 with h1;cases k with
          |none=>cases h1
          |some g0=>injection h1 with h1;injection h1 with h1;rw[h1]
        rw[h1] at hrun
        by_cases hroom:l.length+l'.length≤cap
        · have h:=run_append_room (P:=P) w t ty el i ht hi' g l.length cap cur hg ⟨b',o,none⟩ l'.length c1 news hnl hnews hone hroom (by rw[hnl,hcs,←Nat.add_mul];exact Nat.mul_le_mul_right _ hroom)
          rw[h] at hrun;injection hrun with h6 _;injection h6 with h6;injection h6 with h6;injection h6 with h6;left;rw[←h6,hk]
        · have holds: ∀(j:Nat) u,xs[j]? =some u→w.cell? ((⟨g,0,none⟩:Addr).add j)=some u:=World.ownsRow.cells (h1▸hown) (g:=g) rfl
          have h:=run_append_grow (P:=P) w t ty el i z ht hi' hz ⟨g,0,none⟩ l.length cap xs hown.1 holds ⟨b',o,none⟩ l'.length c1 news hnl hnews (by omega) (by omega) (growslice_fits (by omega) hb)
          rw[h] at hrun;injection hrun with h6 _;injection h6 with h6;injection h6 with h6;injection h6 with h6;right;rw[←h6];exact Nat.le_refl _
    refine⟨some g',cap',w',by rw[hrun,hv'];rfl,⟨fun a ha=>(List.mem_append.1 ha).elim (hel a) (hel' a),cur'.toList,hg',by simpa using hsz',by rw[List.length_append];exact hnc',by simp only[maxLen,maxC] at *;omega,?_⟩,hF,hplace.imp id fun h=>⟨g',rfl,h⟩⟩
    rw[List.length_append,htk']
    exact(hlx.mono kp).app (hlay.mono kp)
theorem Own.setG{w w':World}{S G:Nat→Prop}{H:Hp}(h:Own w S G H){j:Nat}{k k':Option Nat}{o o':Ob}(hj:H[j]? =some (k,o))(hlt: ∀b,S b→b<w.heap.size)(f:Frm (fun g=>k=some g) w w')(hk:k'=k∨ ∃g,k'=some g∧w.heap.size≤g)(hG: ∀g,w.heap.size≤g→G g)(ho:o'.holds w' S k'):Own w' S G (H.set j (k',o')):=by
  obtain⟨hl,hj'⟩:=List.getElem?_eq_some_iff.1 hj
  have kp:Keep w w' S S:=fun b hb=>⟨hb,f.block b (hlt b hb) fun e=>(h.ow _ (List.mem_of_getElem? hj) b e).1 hb⟩
  have hpw:=List.pairwise_iff_getElem.1 h.nd
  have hne: ∀i (hi:i<H.length),i≠j→ ∀b,H[i].1=some b→k≠some b∧k'≠some b:=fun i hi hij b hb=>by
    have h1:k≠some b:=fun e=>by
      rcases Nat.lt_or_gt_of_ne hij with hlt'|hlt'
      · exact hpw i j hi hl hlt' b hb (by rw[hj'];exact e)
      · exact hpw j i hl hi hlt' b (by rw[hj'];exact e) hb
    refine⟨h1,?_⟩
    rcases hk with rfl| ⟨g,rfl,hg⟩
    · exact h1
    · intro e;injection e with e;subst e;have :=h.lt (List.getElem_mem hi) hb;omega
  refine⟨fun x hx=> ?_,fun x hx b hb=> ?_,List.pairwise_iff_getElem.2 fun i i' hi hi' hii=> ?_⟩
  · obtain⟨i,hi,rfl⟩:=List.getElem_of_mem hx
    rw[List.getElem_set]
    split
    · exact ho
    · rename_i hij
      have hi2:i<H.length:=by simpa using hi
      exact(h.ob _ (List.getElem_mem hi2)).mono kp fun b hb=>f.block b (h.lt (List.getElem_mem hi2) hb) (hne i hi2 (Ne.symm hij) b hb).1
  · rcases List.mem_or_eq_of_mem_set hx with hx|rfl
    · exact h.ow x hx b hb
    · rcases hk with rfl| ⟨g,rfl,hg⟩
      · exact h.ow _ (List.mem_of_getElem? hj) b hb
      · obtain rfl:g=b:=by simpa using hb
        exact⟨fun hS=>by have :=hlt g hS;omega,hG g hg⟩
  · have hi2:i<H.length:=by simpa using hi
    have hi3:i'<H.length:=by simpa using hi'
    intro b hb hb'
    rw[List.getElem_set] at hb hb'
    split at hb
    · rename_i e;subst e
      rw[if_neg (by omega)] at hb'
      exact(hne i' hi3 (by omega) b hb').2 hb
    · rename_i e
      split at hb'
      · rename_i e';subst e';exact(hne i hi2 (by omega) b hb).2 hb'
      · exact hpw i i' hi2 hi3 hii b hb hb'
theorem Own.cons{w:World}{S G:Nat→Prop}{H:Hp}(h:Own w S G H){k:Option Nat}{o:Ob}(ho:o.holds w S k)(hk: ∀g,k=some g→ ¬S g∧G g∧ ∀x∈H,x.1≠some g):Own w S G ((k,o)::H):=
  ⟨fun x hx=>(List.mem_cons.1 hx).elim (fun e=>e▸ho) (h.ob x),fun x hx g hg=>(List.mem_cons.1 hx).elim (fun e=>by subst e;exact⟨(hk g hg).1,(hk g hg).2.1⟩) fun hx=>h.ow x hx g hg,
    List.pairwise_cons.2 ⟨fun y hy b hb=>(hk b hb).2.2 y hy,h.nd⟩⟩
section
variable{P:Program}{n:Nat}{D:List Deferred}{C:Ctx}{env:Nat→AV}{H:Hp}{d:Nat}{d':Option Nat}{ty:TypeId}{pos:String}{af:Array Edge}{gd:Option (Nat×Bool)}{x y:Operand}{t t':TypeId}
theorem entGro(el z:Nat):Ent C env H env ((none,.gro el z [] 0)::H):=fun e w S r=>⟨S,r.frm,r.lt,r.sb,r.sl,r.own.cons ⟨rfl,rfl⟩ (by simp)⟩
theorem OpW.app{e:Nat→Value}{w w':World}{K:Act→World→Prop}{Q:Exit→Act→World→Prop}{v u:Value}(hx:ev n e x=v)(hr:(Builtin.append_ #[t,t] ty #[v,ev n e y]).run P w= .ok u w')(k:K (mkA D n (upd e d u)) w'):
    OpW P ⟨some d,.call {callee:= .builtin .append,args:= #[x,y],argTypes:= #[t,t]},ty,pos,af,gd⟩ (mkA D n e) w K Q:=by
  subst hx
  unfold OpW
  refine⟨(by intro c hc;cases hc),?_⟩
  unfold Oper.wp execOp
  rw[Yy]
  simp only[resolve,invoke,builtin,Sem.run_bind,Sem.run_pure,Result.andThen_ok,List.map_toArray,List.map_cons,List.map_nil,hr,Oper.upon,Zp]
  exact k
theorem aoApp{el:TypeId}{v:Value}{s b c:Nat}[c1:TU P t (.slice el)][c2:TI P el v s b]{k:Option Nat}{l l':List AV}{m:Nat}(hx:av n env x=gh k m c)(hy:Src n C env H y s l')(j:Nat)(hj:H[j]? =some (k,.gro el s l c))(hm:l.length=m)(hz:v.cells.size=s∧Nat.ble 1 s=true)
    (hb:(m+l'.length)*b≤140737488355328)(hm2:m+l'.length≤9223372036854775807):AO P n D C env H (fun b=>k=some b) ⟨some d,.call {callee:= .builtin .append,args:= #[x,y],argTypes:= #[t,t]},ty,pos,af,gd⟩
      (fun K=> ∀k' c',K (updA env d (gh k' (m+l'.length) c')) (H.set j (k',.gro el s (l++l') c'))):=fun e w S Q R K r hk kk=>by
  subst hm
  have hmem:=List.mem_of_getElem? hj
  obtain⟨k',c',w',hr,ho,f,hp⟩:=run_app c1.un c2.nf hz.1 (Nat.le_of_ble_eq_true hz.2) (r.own.ob _ hmem) (hy e w S r) hb hm2 (fun g hg=>(r.own.ow _ hmem g hg).1) r.lt (ty:=ty)
  refine OpW.app (r.lit hx) hr (kk _ _ S _ _ (hk k' c') f ((r.to f (fun b _ hb=>r.own.ow _ hmem b hb) (fun _ h=>h) (fun b h=>Nat.lt_of_lt_of_le (r.lt b h) f.size) (fun _ h=> .inl h) (r.own.setG hj r.lt f hp (fun g hg=> .inr (Nat.le_trans r.frm.size hg)) ho)).upd rfl))
theorem aoLit{el:TypeId}{v:Value}{s b len:Nat}{ps:List (Nat×Operand)}[c1:TU P t (.slice el)][c2:TI P el v s b](l:List AV)(hp:ps.map (·.1)=List.range len)(hl:ps.map (fun p=>av n env p.2)=l)(he:l.all (elB s)=true)(hm:(Nat.ble 1 s&&Nat.ble (len*s) 16777216)=true):
    AO P n D C env H (fun _=>False) ⟨some d,.buildSlice t len ps.toArray,ty,pos,af,gd⟩ (fun K=>K (updA env d (sl s l)) H):=fun e w S Q R K r hk k=>by
  subst hl
  rw[Bool.and_eq_true] at hm
  have hlen:ps.length=len:=by simpa using congrArg List.length hp
  have hrep: ∀(ps:List (Nat×Operand)) w' S',Keep w w' S S'→reps w' S' (ps.map fun p=>av n env p.2) (ps.map fun p=>ev n e p.2):=by
    intro ps w' S' kp
    induction ps with
    |nil=>trivial
    |cons p ps ih=>exact⟨(av n env p.2).mono kp (r.av n p.2),ih⟩
  have hcells: ∀(ps:List (Nat×Operand)),(ps.map fun p=>av n env p.2).all (elB s)=true→((ps.map fun p=>ev n e p.2).map fun v=>v.cells.toList).all (fun c=>c.length==s)=true∧ ∀w' S',Keep w w' S S'→lay w' S' (ps.map fun p=>av n env p.2) (((ps.map fun p=>ev n e p.2).map fun v=>v.cells.toList).flatten):=by
    intro ps
    induction ps with
    |nil=>intro _;exact⟨rfl,fun _ _ _=>rfl⟩
    |cons p ps ih=>
      intro h
      simp only[List.map_cons,List.all_cons,Bool.and_eq_true] at h
      have ih:=ih h.2
      exact⟨by simp only[List.map_cons,List.all_cons,Bool.and_eq_true];exact⟨by simpa using(elB_el h.1).cells (r.av n p.2),ih.1⟩,fun w' S' kp=>⟨_,_,(av n env p.2).mono kp (r.av n p.2),rfl,ih.2 w' S' kp⟩⟩
  have h1:=hcells ps he
  refine Qfn (ps.map fun p=>ev n e p.2) ((ps.map fun p=>ev n e p.2).map fun v=>v.cells.toList) c1.un c2.nf ?_ (by simp) h1.1 (by simpa using hlen) hm.2 fun g w' hg f hs hb=> ?_
  · have : ∀(ps:List (Nat×Operand)) i,ps.map (·.1)=List.range' i ps.length→ps.map (fun p=>(p.1,ev n e p.2))=((ps.map fun p=>ev n e p.2).zipIdx i).map fun p=>(p.2,p.1):=by
      intro ps
      induction ps with
      |nil=>intro _ _;rfl
      |cons p ps ih=>
        intro i h
        simp only[List.map_cons,List.length_cons,List.range'_succ,List.cons.injEq] at h
        simp only[List.map_cons,List.zipIdx_cons,List.cons.injEq]
        exact⟨by rw[h.1],ih (i+1) h.2⟩
    exact this ps 0 (by rw[hp,hlen,List.range_eq_range'])
  · have r':=r.ext f
    have kp:Keep w w' S (fun b=>S b∨b=g):=fun b hb=>⟨.inl hb,f.block b (r.lt b hb) fun g=>g⟩
    have hnew:g<w'.heap.size:=by omega
    have r2:Rel C env H (fun b=>S b∨b=g) e w':=r.to f (fun _ _ h=>h.elim) (fun _ h=> .inl h) (fun b h=>h.elim (fun h=>Nat.lt_of_lt_of_le (r.lt b h) f.size) fun h=>h▸hnew) (fun b h=>h.imp id fun h=>by have :=r.frm.size;omega)
      (r.own.to kp (fun _ hx b h=>f.block b (r.own.lt hx h) fun g=>g) (fun x hx b h hs=>by
        rcases hs with hs|rfl
        · exact(r.own.ow x hx b h).1 hs
        · have :=r.own.lt hx h;omega) fun _ h=>h)
    have hlay:=h1.2 w' _ kp
    have hel:els s (ps.map fun p=>av n env p.2):=fun a ha=>elB_el (List.all_eq_true.1 he a ha)
    refine k _ _ _ _ _ hk f (r2.upd ⟨some ⟨g,0,none⟩,len,by simp [hlen],by simp [hlen],?_,hel,fun _=>⟨g,0,_,_,_,rfl,.inr rfl,hb,?_⟩⟩)
    · have h3:=Nat.le_of_ble_eq_true hm.2
      have :=Nat.mul_le_mul_left len (Nat.le_of_ble_eq_true hm.1)
      simp only[maxC];omega
    · rw[List.drop_zero,List.toList_toArray,List.take_of_length_le (Nat.le_of_eq (hlay.len hel))];exact hlay
theorem aoLitG{el:TypeId}{v:Value}{s b len:Nat}{ps:List (Nat×Operand)}[c1:TU P t (.slice el)][c2:TI P el v s b](l:List AV)(hp:ps.map (·.1)=List.range len)(hl:ps.map (fun p=>av n env p.2)=l)(he:l.all (elB s)=true)(hm:(Nat.ble 1 s&&Nat.ble (len*s) 16777216)=true):
    AO P n D C env H (fun _=>False) ⟨some d,.buildSlice t len ps.toArray,ty,pos,af,gd⟩ (fun K=> ∀g,K (updA env d (gh (some g) len len)) ((some g,.gro el s l len)::H)):=fun e w S Q R K r hk k=>by
  subst hl
  rw[Bool.and_eq_true] at hm
  have hlen:ps.length=len:=by simpa using congrArg List.length hp
  have hrep: ∀(ps:List (Nat×Operand)) w' S',Keep w w' S S'→reps w' S' (ps.map fun p=>av n env p.2) (ps.map fun p=>ev n e p.2):=by
    intro ps w' S' kp
    induction ps with
    |nil=>trivial
    |cons p ps ih=>exact⟨(av n env p.2).mono kp (r.av n p.2),ih⟩
  have hcells: ∀(ps:List (Nat×Operand)),(ps.map fun p=>av n env p.2).all (elB s)=true→((ps.map fun p=>ev n e p.2).map fun v=>v.cells.toList).all (fun c=>c.length==s)=true∧ ∀w' S',Keep w w' S S'→lay w' S' (ps.map fun p=>av n env p.2) (((ps.map fun p=>ev n e p.2).map fun v=>v.cells.toList).flatten):=by
    intro ps
    induction ps with
    |nil=>intro _;exact⟨rfl,fun _ _ _=>rfl⟩
    |cons p ps ih=>
      intro h
      simp only[List.map_cons,List.all_cons,Bool.and_eq_true] at h
      have ih:=ih h.2
      exact⟨by simp only[List.map_cons,List.all_cons,Bool.and_eq_true];exact⟨by simpa using(elB_el h.1).cells (r.av n p.2),ih.1⟩,fun w' S' kp=>⟨_,_,(av n env p.2).mono kp (r.av n p.2),rfl,ih.2 w' S' kp⟩⟩
  have h1:=hcells ps he
  refine Qfn (ps.map fun p=>ev n e p.2) ((ps.map fun p=>ev n e p.2).map fun v=>v.cells.toList) c1.un c2.nf ?_ (by simp) h1.1 (by simpa using hlen) hm.2 fun g w' hg f hs hb=> ?_
  · have : ∀(ps:List (Nat×Operand)) i,ps.map (·.1)=List.range' i ps.length→ps.map (fun p=>(p.1,ev n e p.2))=((ps.map fun p=>ev n e p.2).zipIdx i).map fun p=>(p.2,p.1):=by
      intro ps
      induction ps with
      |nil=>intro _ _;rfl
      |cons p ps ih=>
        intro i h
        simp only[List.map_cons,List.length_cons,List.range'_succ,List.cons.injEq] at h
        simp only[List.map_cons,List.zipIdx_cons,List.cons.injEq]
        exact⟨by rw[h.1],ih (i+1) h.2⟩
    exact this ps 0 (by rw[hp,hlen,List.range_eq_range'])
  · have kp:Keep w w' S S:=fun b hb=>⟨hb,f.block b (r.lt b hb) fun g=>g⟩
    have hlay:=h1.2 w' _ kp
    have hel:els s (ps.map fun p=>av n env p.2):=fun a ha=>elB_el (List.all_eq_true.1 he a ha)
    have hln:=hlay.len hel
    have h3:=Nat.le_of_ble_eq_true hm.2
    have h4:=Nat.mul_le_mul_left len (Nat.le_of_ble_eq_true hm.1)
    refine k _ _ S _ _ (hk g) f (upd_new r f hg hs ⟨hel,_,hb,?_,by simp [hlen],by simp only[maxC];omega,?_⟩ rfl)
    · rw[hln,List.length_map,hlen]
    · rw[List.take_of_length_le (Nat.le_of_eq hln)];exact hlay
theorem aoCopy{el:TypeId}{z g m1 n1 c1:Nat}[c:TU P t (.slice el)][c':TS P el z]{α:Type}{f:α→AV}{l l':List α}(hx:av n env x=lsl z g m1 n1 c1)(hy:Src n C env H y z (l'.map f))(j:Nat)(hj:H[j]? =some (some g,.arr t' z (l.map f)))(h1:l'.length≤n1)(h2:m1+l'.length≤l.length)
    {u:TypeId}:AO P n D C env H (· =g) ⟨d',.call {callee:= .builtin .copy,args:= #[x,y],argTypes:= #[t,u]},ty,pos,af,gd⟩
      (fun K=>K (match d' with |some d=>updA env d (I .i64 (l'.length:Int))|none=>env) (H.set j (some g,.arr t' z ((l.take m1++(l'++l.drop (m1+l'.length))).map f)))):=fun e w S Q R K r hk k=>by
  obtain⟨A,hx1,hx2,hx3,hx4⟩:=r.at hx
  obtain⟨hel',A',c2,hy1,hy2,hy3,hy4⟩:=hy e w S r
  obtain⟨he,cs,hb,hlay⟩:=r.own.arr hj
  rw[List.length_map] at hy1 hy4 hy2
  have hcs:=hlay.len he
  rw[List.length_map] at hcs
  by_cases hn:l'=[]
  · subst hn
    have hrun:(Builtin.copy_ #[t,u] ty #[.slice A n1 c1,.slice A' 0 c2]).run P w= .ok (goInt 0) w:=by
      cases A'<;>cases A<;>simp [Builtin.copy_,run_underlying c.un,Builtin.lenOf,c'.sz,Builtin.firstCells,storeCells,loadCells,loadCellsFrom]
    unfold OpW
    refine⟨(by intro c hc;cases hc),?_⟩
    unfold Oper.wp
    rw[Yy]
    simp only[execOp,resolve,invoke,builtin,Sem.run_bind,Sem.run_pure,Result.andThen_ok,List.map_toArray,List.map_cons,List.map_nil,hx1,hy1,List.length_nil,hrun,Oper.upon]
    have hset:H.set j (some g,.arr t' z ((l.take m1++([]++l.drop (m1+([]:List α).length))).map f))=H:=by
      rw[List.nil_append,List.length_nil,Nat.add_zero,List.take_append_drop]
      obtain⟨hl,e⟩:=List.getElem?_eq_some_iff.1 hj
      rw[←e,List.set_getElem_self]
    rw[hset] at hk
    cases d' with
    |none=>exact k env H S e w hk (Frm.refl _ _) r
    |some d=>rw[Zp];exact k _ H S _ w hk (Frm.refl _ _) (r.upd rfl)
  · have hpos:0<l'.length:=List.length_pos_iff.2 hn
    obtain⟨b,o,cs',t1,f1,rfl,hw,hl'⟩:=hy4 (by simpa using hn)
    obtain rfl:=hx4 (by omega)
    let news:=(cs'.toList.drop o).take (l'.length*z)
    have hnl:news.length=l'.length*z:=by have :=hl'.len hel';rwa [List.length_map] at this
    have hf:(Builtin.firstCells z l'.length (.slice (some ⟨b,o,none⟩) l'.length c2)).run P w= .ok news.toArray w:=by
      have :=run_loadCells_list (P:=P) w ⟨b,o,none⟩ news (fun j u hj=>by
        simp only[news,List.getElem?_take] at hj
        split at hj
        · rw[List.getElem?_drop] at hj;rw[addr_add];simpa [World.cell?,hw] using hj
        · cases hj)
      rw[hnl] at this
      simp [Builtin.firstCells,this]
    have hfit:m1*z+l'.length*z≤cs.length:=by rw[hcs,←Nat.add_mul];exact Nat.mul_le_mul_right _ h2
    have hst:=run_storeCells_at P g (m1*z) t' news 0 cs.toArray w hb (by simpa [hnl] using hfit) (hl'.one hel')
    simp only[Nat.add_zero] at hst
    have hmin:Nat.min l'.length n1=l'.length:=Nat.min_eq_left h1
    have hrun:(Builtin.copy_ #[t,u] ty #[.slice (some ⟨g,m1*z,none⟩) n1 c1,.slice (some ⟨b,o,none⟩) l'.length c2]).run P w= .ok (goInt l'.length) (w.setRow g (cs.take (m1*z)++news++cs.drop (m1*z+news.length)).toArray):=by
      have hmin2:min l'.length n1=l'.length:=Nat.min_eq_left h1
      have hmin3:min n1 l'.length=l'.length:=Nat.min_eq_right h1
      simp [Builtin.copy_,run_underlying c.un,Builtin.lenOf,c'.sz,hmin2,hmin3,hf,hst]
    unfold OpW
    refine⟨(by intro c hc;cases hc),?_⟩
    unfold Oper.wp
    rw[Yy]
    simp only[execOp,resolve,invoke,builtin,Sem.run_bind,Sem.run_pure,Result.andThen_ok,List.map_toArray,List.map_cons,List.map_nil,hx1,hy1,hrun,Oper.upon]
    have fr:Frm (· =g) w (w.setRow g (cs.take (m1*z)++news++cs.drop (m1*z+news.length)).toArray):=⟨rfl,rfl,rfl,by simp [World.setRow],Nat.le_refl _,fun j _ hj=>by
      simp only[World.setRow,Array.getElem?_modify]
      rw[if_neg fun h=>hj h.symm]⟩
    have kp:=r.keep hj fr
    have r':=r.store (o':= .arr t' z ((l.take m1++(l'++l.drop (m1+l'.length))).map f)) hj fr (by simp [World.setRow]) ⟨fun a ha=> ?_,_,setRow_heap w g cs.toArray _ t' (0,0) hb,?_⟩
    · cases d' with
      |none=>exact k env _ S e _ hk fr r'
      |some d=>rw[Zp];exact k _ _ S _ _ hk fr (r'.upd rfl)
    · rw[List.map_append,List.map_append,List.map_take,List.map_drop] at ha
      rcases List.mem_append.1 ha with h|h
      · exact he a (List.mem_of_mem_take h)
      · rcases List.mem_append.1 h with h|h
        · exact hel' a h
        · exact he a (List.mem_of_mem_drop h)
    · refine lay.mono kp ?_
      have q1:=hlay.take m1 he (by rw[List.length_map];omega)
      have q2:=hlay.drop (m1+l'.length) he (by rw[List.length_map];omega)
      rw[List.map_append,List.map_append,List.map_take,List.map_drop,List.append_assoc,hnl,←Nat.add_mul]
      exact q1.app (hl'.app q2)
end
end Go.Am
namespace Go.Am
open Go.RowKit Go.Gx
def inH(F:Hp)(g:Nat):Prop:= ∃x∈F,x.1=some g
def ofL:List Value→Value
  | [u]=>u
  |us=> .tuple us.toArray
def tupA:List AV→AV
  | [a]=>a
  |l=>tup l
theorem tupA_rep{w:World}{S:Nat→Prop}: ∀{l:List AV}{us:List Value},reps w S l us→(tupA l).rep w S (ofL us)
  | [_],[_],h=>h.1
  | [],[],_=>⟨[],rfl,trivial⟩
  |_::_::_,u::v::us,h=>⟨u::v::us,rfl,h⟩
  | [],_::_,h=>h.elim
  |_::_,[],h=>h.elim
  | [_],_::_::_,h=>h.2.elim
  |_::_::_,[_],h=>h.2.elim
def Post(C:Ctx)(K:Hp→List AV→Prop)(v:Value)(w':World):Prop:= ∃H r S' us,K H r∧v=ofL us∧reps w' S' r us∧Frm C.F C.w0 w'∧(∀b,S' b→b<w'.heap.size)∧
  (∀b,S' b→C.S0 b∨C.w0.heap.size≤b)∧Own w' S' (fun g=>C.F g∨C.w0.heap.size≤g) H
def AC(P:Program)(f:FuncId)(F:Hp)(args:List AV)(Φ:(Hp→List AV→Prop)→Prop):Prop:=
  ∀K w S vs,(∀b,S b→b<w.heap.size)→Own w S (fun _=>True) F→reps w S args vs→gT.rep w S undef→Φ K→Calls P f vs.toArray w (Ret (Post ⟨w,S,inH F⟩ K))
def fnv(f:FuncId)(cs:List AV):AV:=⟨.one,fun w S v=> ∃vs:List Value,v= .func (.func f) #[] vs.toArray∧reps w S cs vs,fun⟨_,h,_⟩=>by subst h;rfl,fun k ⟨vs,h1,h2⟩=>⟨vs,h1,h2.mono k⟩⟩
theorem le_fnv{f:FuncId}:(lit (.func (.func f) #[] #[])).le (fnv f []):=fun _ _ _ h=>⟨[],h,trivial⟩
def AW(P:Program)(n:Nat)(D:List Deferred)(C:Ctx)(c:Code)(Q:Exit→Act→World→Prop)(env:Nat→AV)(H:Hp):Prop:=A C (fun e w=>CW P c Q (mkA D n e) w) env H
def AL(P:Program)(n:Nat)(D:List Deferred)(C:Ctx)(ops:Array Oper)(l:List Oper)(Q:Exit→Act→World→Prop)(env:Nat→AV)(H:Hp):Prop:=A C (fun e w=>WL P ops Q l (mkA D n e) w) env H
def AX(n:Nat)(D:List Deferred)(C:Ctx)(Q:Exit→Act→World→Prop)(x:Exit)(env:Nat→AV)(H:Hp):Prop:=A C (fun e w=>EX Q x (mkA D n e) w) env H
def argE(args:List AV):Nat→AV:=fun t=>bif Nat.beq t gS then gT else args.getD t (lit undef)
section
variable{P:Program}{n:Nat}{D:List Deferred}{C:Ctx}{env env':Nat→AV}{H H':Hp}{Q:Exit→Act→World→Prop}
theorem AW.ent{c:Code}(h:Ent C env H env' H')(k:AW P n D C c Q env' H'):AW P n D C c Q env H:=A.ent h k
theorem AL.ent{ops:Array Oper}{l:List Oper}(h:Ent C env H env' H')(k:AL P n D C ops l Q env' H'):AL P n D C ops l Q env H:=A.ent h k
theorem AX.ent{x:Exit}(h:Ent C env H env' H')(k:AX n D C Q x env' H'):AX n D C Q x env H:=A.ent h k
theorem reps_getD{w:World}{S:Nat→Prop}{l:List AV}{vs:List Value}(h:reps w S l vs)(s:Nat):(l.getD s (lit undef)).rep w S (vs.getD s undef):=by
  have hl:=h.len
  rcases Nat.lt_or_ge s l.length with hs|hs
  · obtain⟨v,h1,h2⟩:=h.get (List.getElem?_eq_getElem hs)
    simp only[List.getD,List.getElem?_eq_getElem hs,h1,Option.getD_some];exact h2
  · simp only[List.getD,List.getElem?_eq_none hs,List.getElem?_eq_none (show vs.length≤s by omega),Option.getD_none];rfl
def NoF(C:Ctx):Prop:= ∀b,¬C.F b
theorem aEnterF{f:FuncId}{fn:Func}{c:Code}{F:Hp}{args:List AV}{Φ:(Hp→List AV→Prop)→Prop}(hf:P.funcs[f]? =some fn)(hb:fn.body=some c)(hn:fn.ntmps=n)(hs:Nat.ble args.length n=true)
    (h: ∀K C,C.F=inH F→Φ K→AW P n [] C c (bodyPost P fn (Ret (Post C K))) (argE args) F):AC P f F args Φ:=fun K w S vs hS ho hr hg hK=>by
  refine enter hf hb hn (by rw[List.size_toArray,hr.len];exact hs) ?_
  refine h K ⟨w,S,inH F⟩ rfl hK _ w S ⟨Frm.refl _ _,hS,fun b hb=> .inl hb,fun s=> ?_,ho.ob,fun x hx g hg=>⟨(ho.ow x hx g hg).1,.inl ⟨x,hx,hg⟩⟩,ho.nd⟩
  have :=reps_getD hr s
  unfold argE
  cases Nat.beq s gS with
  |true=>exact hg
  |false=>simpa using this
theorem aEnter{f:FuncId}{fn:Func}{c:Code}{args:List AV}{Φ:(Hp→List AV→Prop)→Prop}(hf:P.funcs[f]? =some fn)(hb:fn.body=some c)(hn:fn.ntmps=n)(hs:Nat.ble args.length n=true)
    (h: ∀K C,NoF C→Φ K→AW P n [] C c (bodyPost P fn (Ret (Post C K))) (argE args) []):AC P f [] args Φ:=aEnterF hf hb hn hs fun K C hC=>h K C fun b hb=>by
  rw[hC] at hb;obtain⟨x,hx,_⟩:=hb;simp at hx
def AG(n:Nat)(env:Nat→AV)(ops:Array Oper)(g:Option (Nat×Bool))(b:Bool):Prop:= ∀e,(∀x v,av n env x=lit v→ev n e x=v)→QbG n e ops g=b
theorem agN{ops:Array Oper}:AG n env ops none true:=fun _ _=>rfl
theorem agS{ops:Array Oper}{j t:Nat}{b want r:Bool}(hj:(ops[j]?).bind (·.dst)=some t)(hb:av n env (.tmp t)=Bo b)(hr:(b==want)=r):AG n env ops (some (j,want)) r:=fun e h=>by
  have h1:=h _ _ hb
  simp only[QbG,guardOf,hj,h1,←hr]
  cases b<;>cases want<;>rfl
theorem agU{ops:Array Oper}{j t:Nat}{want:Bool}(hj:(ops[j]?).bind (·.dst)=some t)(hb:av n env (.tmp t)=lit undef):AG n env ops (some (j,want)) false:=fun e h=>by
  have h1:=h _ _ hb
  simp only[QbG,guardOf,hj,h1]
  cases want<;>rfl
theorem Rel.lits{S:Nat→Prop}{e:Nat→Value}{w:World}(r:Rel C env H S e w): ∀x v,Am.av n env x=Am.lit v→ev n e x=v:=fun _ _ h=>r.lit h
variable{ops:Array Oper}{l:List Oper}{o:Oper}
theorem alE{m:Rk}{a:AV}{d:Nat}(h:AE P n C env H m o a)(hd:o.dst=some d)(hg:AG n env ops o.guard true)(k:AL P n D C ops l Q (updA env d a) H):AL P n D C ops (o::l) Q env H:=fun e w S r=>by
  obtain⟨v,h1,h2⟩:=h e w S r
  exact sEv (h2 w fun _ _=>rfl) hd (hg e r.lits) (k _ w S (r.upd h1))
theorem alS{d:Nat}(hd:o.dst=some d)(hg:AG n env ops o.guard false)(k:AL P n D C ops l Q (updA env d (lit undef)) H):AL P n D C ops (o::l) Q env H:=fun e w S r=>
  QwP hd (hg e r.lits) (k _ w S (r.upd rfl))
theorem alO{W:Nat→Prop}{Ψ:((Nat→AV)→Hp→Prop)→Prop}(h:AO P n D C env H W o Ψ)(hg:AG n env ops o.guard true)(k:Ψ (AL P n D C ops l Q)):AL P n D C ops (o::l) Q env H:=fun e w S r=>
  sOp (hg e r.lits) (h e w S Q _ _ r k fun env' H' S' e' w' hk _ r'=>hk e' w' S' r')
theorem alN(k:AX n D C Q .normal env H):AL P n D C ops [] Q env H:=fun e w S r=>QwO (k e w S r)
variable{c y:Code}{x:Exit}{K:Act→World→Prop}
def ETh(P:Program)(y:Code)(Q:Exit→Act→World→Prop):Exit→Act→World→Prop:=Exit.then (fun a w=>CW P y Q a w) Q
theorem aSeq(h:AW P n D C c (ETh P y Q) env H):AW P n D C (.seq c y) Q env H:=fun e w S r=>zcQ fun K hK=>cwI fun ro m=>Go.wpIn_mono (cwE (h e w S r) ro m) (QfG hK)
theorem aReg{id:Nat}(h:AL P n D C l.toArray l Q env H):AW P n D C (.region id l.toArray false) Q env H:=fun e w S r=>zcG (h e w S r)
theorem aT{i:Operand}(hi:av n env i=Bo true)(h:AW P n D C c Q env H):AW P n D C (.cond i c y) Q env H:=fun e w S r=>cT (r.lit hi) (h e w S r)
theorem aF{i:Operand}(hi:av n env i=Bo false)(h:AW P n D C y Q env H):AW P n D C (.cond i c y) Q env H:=fun e w S r=>cF (r.lit hi) (h e w S r)
theorem aD{i:Operand}{p:Prop}[Decidable p](hi:av n env i=Bo (decide p))(h:p→AW P n D C c Q env H)(h': ¬p→AW P n D C y Q env H):AW P n D C (.cond i c y) Q env H:=fun e w S r=>by
  by_cases hp:p
  · exact cT ((r.lit hi).trans (by rw[decide_eq_true hp])) (h hp e w S r)
  · exact cF ((r.lit hi).trans (by rw[decide_eq_false hp])) (h' hp e w S r)
theorem aBk{id:Nat}(h:AW P n D C c (Exit.inBlock id Q) env H):AW P n D C (.block id c) Q env H:=fun e w S r=>zcK (h e w S r)
theorem aSk(h:AX n D C Q .normal env H):AW P n D C .skip Q env H:=fun e w S r=>zcN (h e w S r)
theorem aXt{id:Nat}(h:AX n D C Q (.exit id) env H):AW P n D C (.exit id) Q env H:=fun e w S r=>zcX (h e w S r)
theorem aRt(h:AX n D C Q .ret env H):AW P n D C .ret Q env H:=fun e w S r=>zcR (h e w S r)
theorem aLb{l:Nat}(h:AX n D C Q .normal env H):AW P n D C (.label l) Q env H:=fun e w S r=>zcL (h e w S r)
theorem aSc(h:AW P n D C c (Exit.noGoto Q) env H):AW P n D C (.scope c) Q env H:=fun e w S r=>zcS (h e w S r)
theorem axN(h:AW P n D C y Q env H):AX n D C (ETh P y Q) .normal env H:=fun e w S r=>ex (xN (h e w S r))
theorem axSE{id:Nat}(h:AX n D C Q (.exit id) env H):AX n D C (ETh P y Q) (.exit id) env H:=fun e w S r=>zeE (h e w S r)
theorem axSR(h:AX n D C Q .ret env H):AX n D C (ETh P y Q) .ret env H:=fun e w S r=>zeR (h e w S r)
theorem axE{id:Nat}(h:AX n D C Q (.exit id) env H):AX n D C (Exit.then K Q) (.exit id) env H:=fun e w S r=>zeE (h e w S r)
theorem axR(h:AX n D C Q .ret env H):AX n D C (Exit.then K Q) .ret env H:=fun e w S r=>zeR (h e w S r)
theorem axbN{id:Nat}(h:AX n D C Q .normal env H):AX n D C (Exit.inBlock id Q) .normal env H:=fun e w S r=>zfN (h e w S r)
theorem axbR{id:Nat}(h:AX n D C Q .ret env H):AX n D C (Exit.inBlock id Q) .ret env H:=fun e w S r=>zfT (h e w S r)
theorem axbE{id:Nat}(h:AX n D C Q .normal env H):AX n D C (Exit.inBlock id Q) (.exit id) env H:=fun e w S r=>zfE (h e w S r)
theorem axbO{id j:Nat}(hj:Nat.beq j id=false)(h:AX n D C Q (.exit j) env H):AX n D C (Exit.inBlock id Q) (.exit j) env H:=fun e w S r=>zfO hj (h e w S r)
theorem axgN(h:AX n D C Q .normal env H):AX n D C (Exit.noGoto Q) .normal env H:=fun e w S r=>zgN (h e w S r)
theorem axgR(h:AX n D C Q .ret env H):AX n D C (Exit.noGoto Q) .ret env H:=fun e w S r=>zgR (h e w S r)
theorem axgE{id:Nat}(h:AX n D C Q (.exit id) env H):AX n D C (Exit.noGoto Q) (.exit id) env H:=fun e w S r=>zgE (h e w S r)
def ARs(P:Program)(n:Nat)(C:Ctx)(env:Nat→AV)(H:Hp)(rs:List ResultVar)(l:List AV):Prop:= ∀e w S,Rel C env H S e w→ ∃us:List Value,reps w S l us∧rs.length=us.length∧ ∀(i:Nat)(r:ResultVar)(u:Value),rs[i]? =some r→us[i]? =some u→Qmu P n e w r u
theorem arN:ARs P n C env H [] []:=fun _ _ _ _=>⟨[],trivial,rfl,fun _ _ _ h=>by simp at h⟩
theorem ARs.cons{r:ResultVar}{rs:List ResultVar}{a:AV}{l:List AV}(h: ∀e w S,Rel C env H S e w→ ∃u,a.rep w S u∧Qmu P n e w r u)(k:ARs P n C env H rs l):ARs P n C env H (r::rs) (a::l):=fun e w S q=>by
  obtain⟨u,h1,h2⟩:=h e w S q
  obtain⟨us,h3,h4,h5⟩:=k e w S q
  refine⟨u::us,⟨h1,h3⟩,by simp [h4],fun i r' u' hi hu=> ?_⟩
  cases i with
  |zero=>simp at hi hu;subst hi hu;exact h2
  |succ i=>exact h5 i r' u' (by simpa using hi) (by simpa using hu)
theorem arT{t:Nat}{rs:List ResultVar}{a b:AV}{l:List AV}(h:av n env (.tmp t)=b)(hb:b.le a)(k:ARs P n C env H rs l):ARs P n C env H (.tmp t::rs) (a::l):=ARs.cons (fun _ _ _ r=>⟨_,hb _ _ _ (r.at h),rfl⟩) k
theorem arC{t g i z:Nat}{ty t':TypeId}{s:Sh}[c:TL P ty s]{rs:List ResultVar}{a b:AV}{l l':List AV}(h:av n env (.tmp t)=lpt z g i)(j:Nat)(hj:H[j]? =some (some g,.arr t' z l'))(hi:l'[i]? =some b)(hs:b.sh=s)(hb:b.le a)(k:ARs P n C env H rs l):ARs P n C env H (.cell t ty::rs) (a::l):=ARs.cons (fun e w S r=>by
  obtain⟨h1,cs,h2,h3⟩:=r.own.arr hj
  obtain⟨v,hv,hc⟩:=h3.get h1 hi
  subst hs
  have ha:=h1 b (List.mem_of_getElem? hi)
  exact⟨v,hb _ _ _ hv,_,r.lit h,TL.run (s:=b.sh) h2 (b.ok hv) (by rw[ha.1];simpa using hc)⟩) k
theorem arW{t g i m:Nat}{ty t':TypeId}[c:TL P ty (.ag m)]{rs:List ResultVar}{a:AV}{l l' l2:List AV}(h:av n env (.tmp t)=lpt 1 g i)(j:Nat)(hj:H[j]? =some (some g,.arr t' 1 l'))(hl:(l'.drop i).take m=l2)(hm:l2.length=m)(h1:l2.all isOne=true)(hb:(agg l2).le a)(k:ARs P n C env H rs l):ARs P n C env H (.cell t ty::rs) (a::l):=ARs.cons (fun e w S r=>by
  obtain⟨he,cs,h2,h3⟩:=r.own.arr hj
  subst hl
  have hlen:m=0∨(m≤l'.length -i∧i≤l'.length):=by simp [List.length_take] at hm;omega
  have h4:lay w S ((l'.drop i).take m) ((cs.drop i).take m):=by
    rcases hlen with h0| ⟨h0,hi⟩
    · subst h0;simp [lay]
    · have :=(h3.drop i he hi).take m he.drop (by simpa using h0);simpa using this
  have h5:=lay_reps h4 h1
  refine⟨.agg ((cs.drop i).take m).toArray,hb _ _ _ ⟨_,rfl,h5,h4.one he.drop.take⟩,_,r.lit h,TL.run (s:= .ag m) h2 ⟨_,rfl,h5.len.trans hm,h4.one he.drop.take⟩ ?_⟩
  simp [Sh.size,Value.cells]) k
def resF(e:Nat→Value)(n:Nat)(D:List Deferred):ResultVar→Sem Value
  | .tmp t=>pure ((mkA D n e).tmps.getD t undef)
  | .cell a t=>do loadVar t (←asAddr ((mkA D n e).tmps.getD a undef))
theorem resK{e:Nat→Value}{w:World}{r:ResultVar}{u:Value}(h:Qmu P n e w r u):(resF e n D r).run P w= .ok u w:=by
  cases r with
  |tmp t=>simp only[Qmu] at h;simp [resF,Qu9,h]
  |cell a t=>obtain⟨p,hp,hl⟩:=h;simp [resF,Qu9,hp,QlC,hl]
theorem results_of{fn:Func}{rs:List ResultVar}(hr:fn.results=rs.toArray)(h4:Nat.ble rs.length 4=true){e:Nat→Value}{w:World}{us:List Value}(hl:rs.length=us.length)(h: ∀(i:Nat)(r:ResultVar)(u:Value),rs[i]? =some r→us[i]? =some u→Qmu P n e w r u):(results fn (mkA D n e).tmps).run P w= .ok (ofL us) w:=by
  have e1:results fn (mkA D n e).tmps=(do let vs←rs.toArray.mapM (resF e n D);pure (if h:vs.size=1 then vs[0] else .tuple vs)):=by rw[←hr];rfl
  rw[e1]
  match rs,us,hl,h,h4 with
  | [],[],_,_,_=>simp [ofL]
  | [r],[u],_,h,_=>exact Qxk _ (resK (h 0 r u rfl rfl))
  | [r,r'],[u,u'],_,h,_=>exact Qxl _ (resK (h 0 r u rfl rfl)) (resK (h 1 r' u' rfl rfl))
  | [r,r',r2],[u,u',u2],_,h,_=>exact Qxm _ (resK (h 0 r u rfl rfl)) (resK (h 1 r' u' rfl rfl)) (resK (h 2 r2 u2 rfl rfl))
  | [r,r',r2,r3],[u,u',u2,u3],_,h,_=>exact Qxn (resK (h 0 r u rfl rfl)) (resK (h 1 r' u' rfl rfl)) (resK (h 2 r2 u2 rfl rfl)) (resK (h 3 r3 u3 rfl rfl))
  |_::_::_::_::_::_,_,_,_,h4=>have :=Nat.le_of_ble_eq_true h4;simp at this
theorem Own.subl{w:World}{S G:Nat→Prop}(h:Own w S G H)(hs:List.Sublist H' H):Own w S G H':=⟨fun x hx=>h.ob x (hs.subset hx),fun x hx=>h.ow x (hs.subset hx),h.nd.sublist hs⟩
theorem aRet{fn:Func}{rs:List ResultVar}{L:Hp→List AV→Prop}{l:List AV}(hr:fn.results=rs.toArray)(h4:Nat.ble rs.length 4=true)(hs:List.Sublist H' H)(h:ARs P n C env H rs l)(k:L H' l):AX n [] C (bodyPost P fn (Ret (Post C L))) .ret env H:=fun e w S r=>by
  obtain⟨us,h1,h2,h3⟩:=h e w S r
  exact ex ⟨Qbi _ _,_,results_of hr h4 h2 h3,_,rfl,H',l,S,us,k,rfl,h1,r.frm,r.lt,r.sb,r.own.subl hs⟩
theorem aEnd{fn:Func}{rs:List ResultVar}{L:Hp→List AV→Prop}{l:List AV}(hr:fn.results=rs.toArray)(h4:Nat.ble rs.length 4=true)(hs:List.Sublist H' H)(h:ARs P n C env H rs l)(k:L H' l):AX n [] C (bodyPost P fn (Ret (Post C L))) .normal env H:=fun e w S r=>by
  obtain⟨us,h1,h2,h3⟩:=h e w S r
  exact ex ⟨Qbi _ _,_,results_of hr h4 h2 h3,_,rfl,H',l,S,us,k,rfl,h1,r.frm,r.lt,r.sb,r.own.subl hs⟩
end
end Go.Am
namespace Go.Am
open Go.RowKit Go.Gx
class Cl (a:AV):Prop where
  cl: ∀{w S w' S' v},a.rep w S v→a.rep w' S' v
class Cls (l:List AV):Prop where
  cls: ∀a∈l,Cl a
instance(v:Value):Cl (lit v):=⟨fun h=>h⟩
instance(k:IntKind)(x:Int):Cl (I k x):=⟨fun h=>h⟩
instance(b:Bool):Cl (Bo b):=⟨fun h=>h⟩
instance:Cls []:=⟨fun _ h=>by simp at h⟩
instance(a:AV)(l:List AV)[h:Cl a][k:Cls l]:Cls (a::l):=⟨fun b hb=>(List.mem_cons.1 hb).elim (fun e=>e▸h) (k.cls b)⟩
theorem Cls.reps{w w':World}{S S':Nat→Prop}: ∀{l:List AV}{us:List Value},Cls l→reps w S l us→reps w' S' l us
  | [],[],_,_=>trivial
  |a::l,_::_,h,r=>⟨(h.cls a (by simp)).cl r.1,Cls.reps ⟨fun b hb=>h.cls b (by simp [hb])⟩ r.2⟩
  | [],_::_,_,r=>r.elim
  |_::_,[],_,r=>r.elim
section
variable{P:Program}{n:Nat}{D:List Deferred}{C:Ctx}{env env':Nat→AV}{H H':Hp}{Q:Exit→Act→World→Prop}{d:Nat}{ty:TypeId}{pos:String}{af:Array Edge}{gd:Option (Nat×Bool)}{ts:Array TypeId}{xs:List Operand}{x:Operand}{f:FuncId}{args cs:List AV}{Φ:(Hp→List AV→Prop)→Prop}
def Args(n:Nat)(C:Ctx)(env:Nat→AV)(H:Hp)(B:Nat→Prop)(xs:List Operand)(cs args:List AV):Prop:= ∀e w S vs,Rel C env H S e w→reps w S cs vs→reps w (fun b=>S b∨B b) args (xs.map (ev n e)++vs)
theorem Rel.wide{S B:Nat→Prop}{w:World}{a:AV}{v:Value}(h:a.rep w S v):a.rep w (fun b=>S b∨B b) v:=a.mono (fun _ hb=>⟨.inl hb,rfl⟩) h
theorem agNil{B:Nat→Prop}{cs':List AV}(h:Les cs cs'):Args n C env H B [] cs cs':=fun _ _ _ _ _ r=>(h.reps r).mono fun _ hb=>⟨.inl hb,rfl⟩
theorem agC{B:Nat→Prop}{a b:AV}(h:av n env x=a)(hb:a.le b)(k:Args n C env H B xs cs args):Args n C env H B (x::xs) cs (b::args):=fun e w S vs r q=>⟨Rel.wide (hb _ _ _ (r.at h)),k e w S vs r q⟩
theorem agO{B:Nat→Prop}{z g m k c:Nat}{t:TypeId}{l:List AV}{b:AV}(h:av n env x=lsl z g m k c)(j:Nat)(hj:H[j]? =some (some g,.arr t z l))(hk:m+k≤l.length)(hB:B g)(hb:(sl z ((l.drop m).take k)).le b)(q:Args n C env H B xs cs args):Args n C env H B (x::xs) cs (b::args):=fun e w S us r hu=>by
  refine⟨hb _ _ _ ?_,q e w S us r hu⟩
  obtain⟨A,h1,h2,h3,h4⟩:=r.at h
  obtain⟨he,cs1,h5,h6⟩:=r.own.arr hj
  have hl:((l.drop m).take k).length=k:=by rw[List.length_take,List.length_drop];omega
  refine⟨A,c,by rw[hl];exact h1,by omega,h3,he.drop.take,fun hne=> ?_⟩
  have hk0:0<k:=by
    rcases Nat.eq_zero_or_pos k with h|h
    · subst h;simp at hne
    · exact h
  refine⟨g,m*z,cs1.toArray,t,(0,0),h4 (by omega),.inr hB,h5,?_⟩
  have :=((h6.drop m he (by omega)).take k he.drop (by rw[List.length_drop];omega)).mono (S':=fun b=>S b∨B b) (fun b hb=>⟨.inl hb,rfl⟩)
  rw[hl];simpa using this
theorem OpW.call{f:FuncId}{e:Nat→Value}{w:World}{R:Act→World→Prop}{φ:Value→World→Prop}{vs:List Value}[c:TC P f](hx:ev n e x= .func (.func f) #[] vs.toArray)(h:Calls P f (xs.map (ev n e)++vs).toArray w (Ret φ))(k: ∀v w',φ v w'→R (mkA D n (upd e d v)) w'):
    OpW P ⟨some d,.call {callee:= .value x,args:=xs.toArray,argTypes:=ts},ty,pos,af,gd⟩ (mkA D n e) w R Q:=QwI (fs:=[]) (cs:=vs) hx c.ca h (by simp) k
def hApp:Hp→Hp→Hp
  | [],H=>H
  |x::N,H=>x::(N++H)
theorem hApp_eq(N H:Hp):hApp N H=N++H:=by cases N<;>rfl
theorem aoCall[c:TC P f](hx:(av n env x).le (fnv f cs))(h:AC P f [] args Φ)(ha:Args n C env H (fun _=>False) xs cs args)(hT:env gS=gT):
    AO P n D C env H (fun _=>False) ⟨some d,.call {callee:= .value x,args:=xs.toArray,argTypes:=ts},ty,pos,af,gd⟩ (fun K=>Φ fun N r=>K (updA env d (tupA r)) (hApp N H)):=fun e w S Q R K r hk k=>by
  obtain⟨vs,h1,h2⟩:=hx _ _ _ (r.av n x)
  have e1:(fun b=>S b∨False)=S:=by funext b;simp
  have h3:=ha e w S _ r h2
  rw[e1] at h3
  refine OpW.call h1 (h _ w S _ r.lt ⟨fun x hx=>by simp at hx,fun x hx=>by simp at hx,.nil⟩ h3 (show gT.rep w S undef from(hT▸r.sl gS:gT.rep w S (e gS))) hk) ?_
  rintro _ w' ⟨N,rs,S',us,hK,rfl,hr,fr,hl,hb,ho⟩
  have f:Ext w w':=fr.mono fun b _ ⟨x,hx,_⟩=>by simp at hx
  have hbs: ∀b,S' b→S b∨w.heap.size≤b:=hb
  rw[hApp_eq] at hK
  refine k _ _ (fun b=>S b∨S' b) _ _ hK f ((r.to f (fun _ _ h=>h.elim) (fun _ h=> .inl h) (fun b h=>h.elim (fun h=>Nat.lt_of_lt_of_le (r.lt b h) f.size) (hl b)) (fun b h=>h.elim .inl fun h=>(hbs b h).imp id fun h=>Nat.le_trans r.frm.size h) ?_).upd ?_)
  · have o1:Own w' (fun b=>S b∨S' b) (fun g=>C.F g∨C.w0.heap.size≤g) H:=r.own.to (fun b h=>⟨.inl h,f.block b (r.lt b h) fun g=>g⟩) (fun _ hx g h=>f.block g (r.own.lt hx h) fun g=>g)
      (fun x hx g h hs=>by
        rcases hs with hs|hs
        · exact(r.own.ow x hx g h).1 hs
        · rcases hbs g hs with hs|hs
          · exact(r.own.ow x hx g h).1 hs
          · have :=r.own.lt hx h;omega) fun _ h=>h
    have hN: ∀x∈N,∀g,x.1=some g→w.heap.size≤g:=fun x hx g h=>((ho.ow x hx g h).2).resolve_left fun⟨y,hy,_⟩=>by simp at hy
    refine⟨fun x hx=>(List.mem_append.1 hx).elim (fun hx=>(ho.ob x hx).mono (fun b hb=>⟨.inr hb,rfl⟩) fun _ _=>rfl) (o1.ob x),fun x hx g h=>(List.mem_append.1 hx).elim (fun hx=>⟨fun hs=> ?_,.inr (Nat.le_trans r.frm.size (hN x hx g h))⟩) fun hx=>o1.ow x hx g h,
      List.pairwise_append.2 ⟨ho.nd,o1.nd,fun a ha b hb g h h'=> ?_⟩⟩
    · rcases hs with hs|hs
      · have :=r.lt g hs;have :=hN x hx g h;omega
      · exact(ho.ow x hx g h).1 hs
    · have :=hN a ha g h;have :=r.own.lt hb h';omega
  · exact tupA_rep (hr.mono fun b hb=>⟨.inr hb,rfl⟩)
theorem aoCallB[c:TC P f](hx:(av n env x).le (fnv f cs))(h:AC P f [] args Φ)(ha:Args n C env H (inH H) xs cs args)(hT:env gS=gT):
    AO P n D C env H (fun _=>False) ⟨some d,.call {callee:= .value x,args:=xs.toArray,argTypes:=ts},ty,pos,af,gd⟩ (fun K=>Φ fun _ r=>Cls r∧K (updA env d (tupA r)) H):=fun e w S Q R K r hk k=>by
  obtain⟨vs,h1,h2⟩:=hx _ _ _ (r.av n x)
  have h3:=ha e w S _ r h2
  refine OpW.call h1 (h _ w (fun b=>S b∨inH H b) _ (fun b h=>h.elim (r.lt b) fun⟨x,hx,hg⟩=>r.own.lt hx hg) ⟨fun x hx=>by simp at hx,fun x hx=>by simp at hx,.nil⟩ h3 (gT.mono (fun b hb=>⟨.inl hb,rfl⟩) (show gT.rep w S undef from(hT▸r.sl gS:gT.rep w S (e gS)))) hk) ?_
  rintro _ w' ⟨N,rs,S',us,⟨hc,hK⟩,rfl,hr,fr,hl,hb,ho⟩
  have f:Ext w w':=fr.mono fun b _ ⟨x,hx,_⟩=>by simp at hx
  exact k _ _ S _ _ hK f ((r.ext f).upd (tupA_rep (hc.reps hr)))
theorem aoCallF{g:Nat}{o:Ob}[c:TC P f](hx:(av n env x).le (fnv f cs))(j:Nat)(hj:H[j]? =some (some g,o))(h:AC P f [(some g,o)] args Φ)(ha:Args n C env H (fun _=>False) xs cs args)(hT:env gS=gT):
    AO P n D C env H (· =g) ⟨some d,.call {callee:= .value x,args:=xs.toArray,argTypes:=ts},ty,pos,af,gd⟩ (fun K=>Φ fun N r=>match N with | [(some g',o')]=>g'=g∧K (updA env d (tupA r)) (H.set j (some g,o'))|_=>False):=fun e w S Q R K r hk k=>by
  obtain⟨vs,h1,h2⟩:=hx _ _ _ (r.av n x)
  have e1:(fun b=>S b∨False)=S:=by funext b;simp
  have h3:=ha e w S _ r h2
  rw[e1] at h3
  have hmem:=List.mem_of_getElem? hj
  refine OpW.call h1 (h _ w S _ r.lt ⟨fun x hx=>by obtain rfl:=List.mem_singleton.1 hx;exact r.own.ob _ hmem,fun x hx g hg=>by obtain rfl:=List.mem_singleton.1 hx;exact⟨(r.own.ow _ hmem g hg).1,trivial⟩,List.pairwise_singleton _ _⟩ h3 (show gT.rep w S undef from(hT▸r.sl gS:gT.rep w S (e gS))) hk) ?_
  rintro _ w' ⟨N,rs,S',us,hK,rfl,hr,fr,hl,hb,ho⟩
  have hbs: ∀b,S' b→S b∨w.heap.size≤b:=hb
  have f:Frm (· =g) w w':=fr.mono fun b _ ⟨x,hx,hg⟩=>by obtain rfl:=List.mem_singleton.1 hx;simpa using hg.symm
  split at hK
  · rename_i g' o'
    obtain⟨hg,hK⟩:=hK
    subst hg
    have hlt:=r.own.lt hmem rfl
    have r1:Rel C env (H.set j (some g',o')) (fun b=>S b∨S' b) e w':=by
      refine r.to f (fun b _ hb=>by subst hb;exact r.own.ow _ hmem _ rfl) (fun _ h=> .inl h) (fun b h=>h.elim (fun h=>Nat.lt_of_lt_of_le (r.lt b h) f.size) (hl b)) (fun b h=>h.elim .inl fun h=>(hbs b h).imp id fun h=>Nat.le_trans r.frm.size h) ?_
      have hng: ¬S' g':=(ho.ow _ (List.mem_singleton.2 rfl) _ rfl).1
      have o0:Own w (fun b=>S b) (fun g=>C.F g∨C.w0.heap.size≤g) H:=r.own
      obtain⟨hjl,hje⟩:=List.getElem?_eq_some_iff.1 hj
      have hpw:=List.pairwise_iff_getElem.1 r.own.nd
      have hne: ∀i (hi:i<H.length),i≠j→H[i].1≠some g':=fun i hi hij e=>by
        rcases Nat.lt_or_gt_of_ne hij with h|h
        · exact hpw i j hi hjl h g' e (by rw[hje])
        · exact hpw j i hjl hi h g' (by rw[hje]) e
      refine⟨fun x hx=> ?_,fun x hx b hb=> ?_,List.pairwise_iff_getElem.2 fun i i' hi hi' hii=> ?_⟩
      · obtain⟨i,hi,rfl⟩:=List.getElem_of_mem hx
        rw[List.getElem_set]
        split
        · exact(ho.ob _ (List.mem_singleton.2 rfl)).mono (fun b hb=>⟨.inr hb,rfl⟩) fun _ _=>rfl
        · rename_i hij
          have hi2:i<H.length:=by simpa using hi
          exact(r.own.ob _ (List.getElem_mem hi2)).mono (fun b q=>⟨.inl q,f.block b (r.lt b q) fun e=>(r.own.ow _ hmem b (congrArg some e.symm)).1 q⟩) fun b q=>f.block b (r.own.lt (List.getElem_mem hi2) q) fun e=>hne i hi2 (Ne.symm hij) (e▸q)
      · rcases List.mem_or_eq_of_mem_set hx with hx|rfl
        · refine⟨fun hs=> ?_,(r.own.ow x hx b hb).2⟩
          rcases hs with hs|hs
          · exact(r.own.ow x hx b hb).1 hs
          · rcases hbs b hs with hs|hs
            · exact(r.own.ow x hx b hb).1 hs
            · have :=r.own.lt hx hb;omega
        · obtain rfl:g'=b:=by simpa using hb
          exact⟨fun hs=>hs.elim (r.own.ow _ hmem _ rfl).1 hng,(r.own.ow _ hmem _ rfl).2⟩
      · have hi2:i<H.length:=by simpa using hi
        have hi3:i'<H.length:=by simpa using hi'
        intro b
        have e1: ∀(q:Nat)(hq:q<H.length)(hq':q<(H.set j (some g',o')).length),(H.set j (some g',o'))[q].1=H[q].1:=fun q hq hq'=>by
          rw[List.getElem_set];split
          · rename_i e;subst e;rw[hje]
          · rfl
        rw[e1 i hi2,e1 i' hi3]
        exact hpw i i' hi2 hi3 hii b
    exact k _ _ _ _ _ hK f (r1.upd (tupA_rep (hr.mono fun b hb=>⟨.inr hb,rfl⟩)))
  · exact hK.elim
theorem aoCallO{k:Option Nat}{o:Ob}[c:TC P f](hx:(av n env x).le (fnv f cs))(j:Nat)(hj:H[j]? =some (k,o))(h:AC P f [(k,o)] args Φ)(ha:Args n C env H (fun _=>False) xs cs args)(hT:env gS=gT):
    AO P n D C env H (fun b=>k=some b) ⟨some d,.call {callee:= .value x,args:=xs.toArray,argTypes:=ts},ty,pos,af,gd⟩ (fun K=>Φ fun N r=>match N with | [(k',o')]=>k'=k∧K (updA env d (tupA r)) (H.set j (k,o'))|_=>False):=fun e w S Q R K r hk kk=>by
  obtain⟨vs,h1,h2⟩:=hx _ _ _ (r.av n x)
  have e1:(fun b=>S b∨False)=S:=by funext b;simp
  have h3:=ha e w S _ r h2
  rw[e1] at h3
  have hmem:=List.mem_of_getElem? hj
  refine OpW.call h1 (h _ w S _ r.lt ⟨fun x hx=>by obtain rfl:=List.mem_singleton.1 hx;exact r.own.ob _ hmem,fun x hx g hg=>by obtain rfl:=List.mem_singleton.1 hx;exact⟨(r.own.ow _ hmem g hg).1,trivial⟩,List.pairwise_singleton _ _⟩ h3 (show gT.rep w S undef from(hT▸r.sl gS:gT.rep w S (e gS))) hk) ?_
  rintro _ w' ⟨N,rs,S',us,hK,rfl,hr,fr,hl,hb,ho⟩
  have hbs: ∀b,S' b→S b∨w.heap.size≤b:=hb
  have f:Frm (fun b=>k=some b) w w':=fr.mono fun b _ ⟨x,hx,hg⟩=>by obtain rfl:=List.mem_singleton.1 hx;exact hg
  split at hK
  · rename_i k' o'
    obtain⟨hg,hK⟩:=hK
    subst hg
    have r1:Rel C env (H.set j (k',o')) (fun b=>S b∨S' b) e w':=by
      refine r.to f (fun b _ hb=>r.own.ow _ hmem _ hb) (fun _ h=> .inl h) (fun b h=>h.elim (fun h=>Nat.lt_of_lt_of_le (r.lt b h) f.size) (hl b)) (fun b h=>h.elim .inl fun h=>(hbs b h).imp id fun h=>Nat.le_trans r.frm.size h) ?_
      have hng: ∀b,k'=some b→ ¬S' b:=fun b hb=>(ho.ow _ (List.mem_singleton.2 rfl) _ hb).1
      obtain⟨hjl,hje⟩:=List.getElem?_eq_some_iff.1 hj
      have hpw:=List.pairwise_iff_getElem.1 r.own.nd
      have hne: ∀i (hi:i<H.length),i≠j→ ∀b,k'=some b→H[i].1≠some b:=fun i hi hij b hb e=>by
        rcases Nat.lt_or_gt_of_ne hij with h|h
        · exact hpw i j hi hjl h b e (by rw[hje];exact hb)
        · exact hpw j i hjl hi h b (by rw[hje];exact hb) e
      refine⟨fun x hx=> ?_,fun x hx b hb=> ?_,List.pairwise_iff_getElem.2 fun i i' hi hi' hii=> ?_⟩
      · obtain⟨i,hi,rfl⟩:=List.getElem_of_mem hx
        rw[List.getElem_set]
        split
        · exact(ho.ob _ (List.mem_singleton.2 rfl)).mono (fun b hb=>⟨.inr hb,rfl⟩) fun _ _=>rfl
        · rename_i hij
          have hi2:i<H.length:=by simpa using hi
          exact(r.own.ob _ (List.getElem_mem hi2)).mono (fun b q=>⟨.inl q,f.block b (r.lt b q) fun e=>(r.own.ow _ hmem b e).1 q⟩) fun b q=>f.block b (r.own.lt (List.getElem_mem hi2) q) fun e=>hne i hi2 (Ne.symm hij) b e q
      · rcases List.mem_or_eq_of_mem_set hx with hx|rfl
        · refine⟨fun hs=> ?_,(r.own.ow x hx b hb).2⟩
          rcases hs with hs|hs
          · exact(r.own.ow x hx b hb).1 hs
          · rcases hbs b hs with hs|hs
            · exact(r.own.ow x hx b hb).1 hs
            · have :=r.own.lt hx hb;omega
        · exact⟨fun hs=>hs.elim (r.own.ow _ hmem _ hb).1 (hng b hb),(r.own.ow _ hmem _ hb).2⟩
      · have hi2:i<H.length:=by simpa using hi
        have hi3:i'<H.length:=by simpa using hi'
        intro b
        have e1: ∀(q:Nat)(hq:q<H.length)(hq':q<(H.set j (k',o')).length),(H.set j (k',o'))[q].1=H[q].1:=fun q hq hq'=>by
          rw[List.getElem_set];split
          · rename_i e;subst e;rw[hje]
          · rfl
        rw[e1 i hi2,e1 i' hi3]
        exact hpw i i' hi2 hi3 hii b
    exact kk _ _ _ _ _ hK f (r1.upd (tupA_rep (hr.mono fun b hb=>⟨.inr hb,rfl⟩)))
  · exact hK.elim
end
end Go.Am
namespace Go.Am
open Go.RowKit Go.Gx
section
variable{P:Program}{n:Nat}{D:List Deferred}{C:Ctx}{env env':Nat→AV}{H H':Hp}{Q:Exit→Act→World→Prop}{G:(Nat→Value)→World→Prop}
theorem av_tmp{s:Nat}{a:AV}(h:env s=a){S:Nat→Prop}{e:Nat→Value}{w:World}(r:Rel C env H S e w):a.rep w S (e s):=h▸r.sl s
theorem upd_same'(e:Nat→Value)(s:Nat):upd e s (e s)=e:=Qr9 rfl
theorem Rel.share{S:Nat→Prop}{e:Nat→Value}{w:World}{g:Option Nat}{o:Ob}(r:Rel C env H S e w)(j:Nat)(hj:H[j]? =some (g,o))(hF: ∀b,g=some b→C.w0.heap.size≤b):Rel C env (H.eraseIdx j) (fun b=>S b∨g=some b) e w:=by
  have hmem:=List.mem_of_getElem? hj
  have kp:Keep w w S (fun b=>S b∨g=some b):=fun b hb=>⟨.inl hb,rfl⟩
  obtain⟨hjl,hje⟩:=List.getElem?_eq_some_iff.1 hj
  refine r.to (Frm.refl (fun _=>False) w) (fun _ _ h=>h.elim) (fun _ h=> .inl h) (fun b h=>h.elim (r.lt b) fun h=>r.own.lt hmem h) (fun b h=>h.elim .inl fun h=> .inr (hF b h)) ⟨fun x hx=> ?_,fun x hx b hb=>⟨fun hs=> ?_,?_⟩,r.own.nd.sublist (List.eraseIdx_sublist _ _)⟩
  · exact(r.own.ob x (List.mem_of_mem_eraseIdx hx)).mono kp fun _ _=>rfl
  · rcases hs with hs|hs
    · exact(r.own.ow x (List.mem_of_mem_eraseIdx hx) b hb).1 hs
    · obtain⟨i,hij,hi⟩:=List.mem_eraseIdx_iff_getElem?.1 hx
      obtain⟨hil,hie⟩:=List.getElem?_eq_some_iff.1 hi
      have hpw:=List.pairwise_iff_getElem.1 r.own.nd
      rcases Nat.lt_or_gt_of_ne hij with h|h
      · exact hpw i j hil hjl h b (by rw[hie];exact hb) (by rw[hje];exact hs)
      · exact hpw j i hjl hil h b (by rw[hje];exact hs) (by rw[hie];exact hb)
  · exact(r.own.ow x (List.mem_of_mem_eraseIdx hx) b hb).2
theorem lsl_sl{z g m k c:Nat}{t:TypeId}{l:List AV}{S:Nat→Prop}{e:Nat→Value}{w:World}{v:Value}(h:(lsl z g m k c).rep w S v)(r:Rel C env H S e w)(j:Nat)(hj:H[j]? =some (some g,.arr t z l))(hk:m+k≤l.length):(sl z ((l.drop m).take k)).rep w (fun b=>S b∨some g=some b) v:=by
  obtain⟨A,h1,h2,h3,h4⟩:=h
  obtain⟨he,cs,h5,h6⟩:=r.own.arr hj
  have hl:((l.drop m).take k).length=k:=by rw[List.length_take,List.length_drop];omega
  refine⟨A,c,by rw[hl];exact h1,by omega,h3,he.drop.take,fun hne=> ?_⟩
  have hk0:0<k:=by
    rcases Nat.eq_zero_or_pos k with h|h
    · subst h;simp at hne
    · exact h
  refine⟨g,m*z,cs.toArray,t,(0,0),h4 (by omega),.inr rfl,h5,?_⟩
  have :=((h6.drop m he (by omega)).take k he.drop (by rw[List.length_drop];omega)).mono (S':=fun b=>S b∨some g=some b) (fun b hb=>⟨.inl hb,rfl⟩)
  rw[hl];simpa using this
theorem gh_sl{z m c:Nat}{g:Option Nat}{t:TypeId}{l:List AV}{S:Nat→Prop}{e:Nat→Value}{w:World}{v:Value}(h:(gh g m c).rep w S v)(r:Rel C env H S e w)(j:Nat)(hj:H[j]? =some (g,.gro t z l c))(hm:l.length=m):(sl z l).rep w (fun b=>S b∨g=some b) v:=by
  subst hm
  have h2:=r.own.ob _ (List.mem_of_getElem? hj)
  cases g with
  |none=>obtain⟨rfl,rfl⟩:=h2;exact⟨none,0,h,Nat.le_refl _,Nat.zero_le _,fun a ha=>by simp at ha,fun h=>absurd rfl h⟩
  |some g=>
    obtain⟨he,cs,h3,h4,h5,h6,h7⟩:=h2
    exact⟨_,c,h,h5,h6,he,fun _=>⟨g,0,cs.toArray,t,(0,0),rfl,.inr rfl,h3,by simpa using h7.mono (S':=fun b=>S b∨some g=some b) fun b hb=>⟨.inl hb,rfl⟩⟩⟩
theorem Rel.mine{S:Nat→Prop}{e:Nat→Value}{w:World}{g:Option Nat}{o:Ob}(hC:NoF C)(r:Rel C env H S e w){j:Nat}(hj:H[j]? =some (g,o)): ∀b,g=some b→C.w0.heap.size≤b:=fun b hb=>(r.own.ow _ (List.mem_of_getElem? hj) b hb).2.resolve_left (hC b)
theorem entFz(hC:NoF C){s z g m k c:Nat}{t:TypeId}{l:List AV}(hs:env s=lsl z g m k c)(j:Nat)(hj:H[j]? =some (some g,.arr t z l))(hk:m+k≤l.length):Ent C env H (updA env s (sl z ((l.drop m).take k))) (H.eraseIdx j):=fun e w S r=>
  ⟨_,by have :=(r.share j hj (r.mine hC hj)).upd (d:=s) (lsl_sl (av_tmp hs r) r j hj hk);rwa [upd_same'] at this⟩
theorem entFz0(hC:NoF C){s z g k c:Nat}{t:TypeId}{l:List AV}(hs:env s=lsl z g 0 k c)(j:Nat)(hj:H[j]? =some (some g,.arr t z l))(hk:l.length=k):Ent C env H (updA env s (sl z l)) (H.eraseIdx j):=by
  have :=entFz (env:=env) hC hs j hj (by omega)
  rwa [List.drop_zero,List.take_of_length_le (by omega)] at this
theorem entFzS(hC:NoF C){s z g k c:Nat}{t:TypeId}{l:List AV}{a:AV}(hs:env s=lsl z g 0 k c)(j:Nat)(hj:H[j]? =some (some g,.arr t z l))(hk:l.length=k)(ha:(sl z l).le a):Ent C env H (updA env s a) (H.eraseIdx j):=fun e w S r=>by
  obtain⟨S',r'⟩:=entFz0 hC hs j hj hk e w S r
  refine⟨S',⟨r'.frm,r'.lt,r'.sb,fun t=> ?_,r'.own⟩⟩
  have :=r'.sl t
  unfold updA at this⊢
  cases hb:Nat.beq t s with
  |false=>rw[hb] at this;exact this
  |true=>rw[hb] at this;exact ha _ _ _ this
theorem entFzE(hC:NoF C){s z z' g:Nat}{t:TypeId}{a:AV}(hs:env s=lit (.pointer (some ⟨g,0*z,none⟩)))(j:Nat)(hj:H[j]? =some (some g,.arr t z' [a])):Ent C env H (updA env s (ep a)) (H.eraseIdx j):=fun e w S r=>by
  obtain⟨he,cs,hb,hl⟩:=r.own.arr hj
  have r2:=r.share j hj (r.mine hC hj)
  have hv:e s= .pointer (some ⟨g,0*z,none⟩):=by have :=r.sl s;rw[hs] at this;exact this
  refine⟨fun b=>S b∨some g=some b,?_⟩
  have hk:Keep w w S (fun b=>S b∨some g=some b):=fun b h=>⟨.inl h,rfl⟩
  have :=r2.upd (d:=s) (v:=e s) (a:=ep a) (by
    obtain⟨u,cs',hu,h1,h2⟩:=hl
    have h2:cs'=[]:=h2
    subst h2
    rw[List.append_nil] at h1
    have hel:=he a (by simp)
    refine⟨g,0,cs.toArray,t,(0,0),u,by rw[hv];simp,.inr rfl,hb,a.mono hk hu,hel.2,?_⟩
    rw[List.drop_zero,h1,List.take_of_length_le (by rw[hel.cells hu,hel.1];exact Nat.le_refl _)])
  rwa [upd_same'] at this
theorem ac_fz{P:Program}{f:FuncId}{args:List AV}{t:TypeId}{z:Nat}{l:List AV}{a:AV}(ha:(sl z l).le a)(h:AC P f [] args fun K=> ∀g,K [(some g,.arr t z l)] [lsl z g 0 l.length l.length]):AC P f [] args fun K=>K [] [a]:=by
  unfold AC at h⊢
  refine fun K w S vs hS hO hr hT hK=>Ret.mono (h (fun H r=> ∃g,H=[(some g,.arr t z l)]∧r=[lsl z g 0 l.length l.length]) w S vs hS hO hr hT fun g=>⟨g,rfl,rfl⟩) fun v w' ⟨H,r,S',us,⟨g,eH,er⟩,hv,hu,hf,hl,hb,ho⟩=> ?_
  subst eH er
  match us,hu with
  | [u],hu=>
    have r:Rel ⟨w,S,inH []⟩ (updA (fun _=>any) 0 (lsl z g 0 l.length l.length)) [(some g,.arr t z l)] S' (fun _=>u) w':=⟨hf,hl,hb,fun s=>by
      unfold updA
      cases Nat.beq s 0
      · exact trivial
      · exact hu.1,ho⟩
    have hC:NoF ⟨w,S,inH []⟩:=fun b ⟨x,hx,_⟩=>by simp at hx
    obtain⟨S2,r2⟩:=entFz0 (env:=updA (fun _=>any) 0 (lsl z g 0 l.length l.length)) (H:=[(some g,.arr t z l)]) hC (s:=0) rfl 0 rfl rfl _ _ _ r
    exact⟨[],[a],S2,[u],hK,hv,⟨ha _ _ _ (r2.sl 0),trivial⟩,r2.frm,r2.lt,r2.sb,r2.own⟩
theorem entFzG(hC:NoF C){s z m c:Nat}{g:Option Nat}{t:TypeId}{l:List AV}(hs:env s=gh g m c)(j:Nat)(hj:H[j]? =some (g,.gro t z l c))(hm:l.length=m):Ent C env H (updA env s (sl z l)) (H.eraseIdx j):=fun e w S r=>
  ⟨_,by have :=(r.share j hj (r.mine hC hj)).upd (d:=s) (gh_sl (av_tmp hs r) r j hj hm);rwa [upd_same'] at this⟩
theorem lay_set{w:World}{S:Nat→Prop}{a a':AV}(h: ∀v,a.rep w S v→a'.rep w S v): ∀{es:List AV}{cs:List Value}{p:Nat},lay w S es cs→es[p]? =some a→lay w S (es.set p a') cs
  | [],_,_,_,hp=>by simp at hp
  |b::es,cs,0,hl,hp=>by
    obtain⟨v,cs',h1,h2,h3⟩:=(show ∃v cs',b.rep w S v∧cs=v.cells.toList++cs'∧lay w S es cs' from hl)
    obtain rfl:b=a:=by simpa using hp
    exact⟨v,cs',h v h1,h2,h3⟩
  |b::es,cs,p+1,hl,hp=>by
    obtain⟨v,cs',h1,h2,h3⟩:=(show ∃v cs',b.rep w S v∧cs=v.cells.toList++cs'∧lay w S es cs' from hl)
    exact⟨v,cs',h1,h2,lay_set h h3 (by simpa using hp)⟩
theorem entFzO(hC:NoF C){m c z z' gi:Nat}{g:Option Nat}{t t':TypeId}{l es:List AV}(j:Nat)(hj:H[j]? =some (g,.gro t z l c))(hm:l.length=m)(i:Nat)(hi:(H.eraseIdx j)[i]? =some (some gi,.arr t' z' es))(p:Nat)(hp:es[p]? =some (gh g m c)):
    Ent C env H env ((H.eraseIdx j).set i (some gi,.arr t' z' (es.set p (sl z l)))):=fun e w S r=>by
  have r2:=r.share j hj (r.mine hC hj)
  obtain⟨he,cs,hb,hl⟩:=r2.own.arr hi
  refine⟨_,r2.frm,r2.lt,r2.sb,r2.sl,r2.own.set hi r2.lt (Frm.refl _ _) ⟨fun a ha=> ?_,cs,hb,lay_set (fun v hv=>gh_sl hv r j hj hm) hl hp⟩⟩
  rcases List.mem_or_eq_of_mem_set ha with ha|rfl
  · exact he a ha
  · have h9:(gh g m c).el z':=he _ (List.mem_of_getElem? hp)
    exact h9
theorem aGet{G:(Nat→Value)→World→Prop}{p:Prop}(t:Nat)(hp: ∀w S v,(env t).rep w S v→p)(k:p→A C G env H):A C G env H:=fun e w S r=>k (hp _ _ _ (r.sl t)) e w S r
theorem aOpen{α:Type}{p:α→Prop}(a:α→AV)(s:Nat)(h: ∀w S v,(env s).rep w S v→ ∃x,p x∧(a x).rep w S v)(k: ∀x,p x→A C G (updA env s (a x)) H):A C G env H:=fun e w S r=>by
  obtain⟨x,hp,hx⟩:=h w S _ (r.sl s)
  have :=k x hp _ w S (r.upd (d:=s) hx)
  rwa [upd_same'] at this
theorem entSub{s:Nat}{a:AV}(h:(env s).le a):Ent C env H (updA env s a) H:=fun e w S r=>⟨S,by have :=r.upd (d:=s) (h _ _ _ (r.sl s));rwa [upd_same'] at this⟩
def updL(env:Nat→AV):List (Nat×AV)→Nat→AV
  | []=>env
  |p::l=>updA (updL env l) p.1 p.2
def ovA(ks:List Nat)(env:Nat→AV):Nat→AV:=fun s=>bif Nat.beq s gS||ks.any (Nat.beq s) then env s else any
def Ob.le(o o':Ob):Prop:= ∀w S g,o.holds w S g→o'.holds w S g
theorem ob_refl(o:Ob):o.le o:=fun _ _ _ h=>h
theorem ob_arr{t:TypeId}{z:Nat}{l l':List AV}(h:Les l l')(he:els z l'):(Ob.arr t z l).le (.arr t z l'):=fun w S g=>by
  cases g with
  |none=>exact id
  |some g=>exact fun⟨_,cs,h1,h2⟩=>⟨he,cs,h1,h.lay h2⟩
theorem Les.take{w:World}: ∀{l l':List AV},Les l l'→l.length=l'.length:=Les.len
theorem ob_gro{t:TypeId}{z c:Nat}{l l':List AV}(h:Les l l')(he:els z l'):(Ob.gro t z l c).le (.gro t z l' c):=fun w S g=>by
  cases g with
  |none=>rintro⟨rfl,h2⟩;cases h;exact⟨rfl,h2⟩
  |some g=>exact fun⟨_,cs,h1,h2,h3,h4,h5⟩=>⟨he,cs,h1,h2,by rw[←h.len];exact h3,h4,by rw[←h.len];exact h.lay h5⟩
inductive HLe:Hp→Hp→Prop
  |nil:HLe [] []
  |cons {g:Option Nat} {o o':Ob} {H H':Hp}:o.le o'→HLe H H'→HLe ((g,o)::H) ((g,o')::H')
  |drop {x:Option Nat×Ob} {H H':Hp}:HLe H H'→HLe (x::H) H'
  |pick (k:Nat) {g:Option Nat} {o o':Ob} {H H':Hp}:H[k]? =some (g,o)→o.le o'→HLe (H.eraseIdx k) H'→HLe H ((g,o')::H')
theorem Own.perm{w:World}{S G:Nat→Prop}{H H':Hp}(h:Own w S G H)(p:List.Perm H H'):Own w S G H':=⟨fun x hx=>h.ob x (p.mem_iff.2 hx),fun x hx=>h.ow x (p.mem_iff.2 hx),(p.pairwise_iff fun k g e e'=>k g e' e).1 h.nd⟩
theorem pick_perm{H:Hp}{k:Nat}{x:Option Nat×Ob}(h:H[k]? =some x):List.Perm H (x::H.eraseIdx k):=by
  obtain⟨hlt,rfl⟩:=List.getElem?_eq_some_iff.1 h
  rw[List.eraseIdx_eq_take_drop_succ]
  have :List.Perm (H.take k++H[k]::H.drop (k+1)) (H[k]::(H.take k++H.drop (k+1))):=List.perm_middle
  rwa [←List.drop_eq_getElem_cons hlt,List.take_append_drop] at this
theorem HLe.refl: ∀(H:Hp),HLe H H
  | []=> .nil
  |_::H=> .cons (ob_refl _) (HLe.refl H)
theorem HLe.none: ∀(H:Hp),HLe H []
  | []=> .nil
  |_::H=> .drop (HLe.none H)
theorem HLe.own{w:World}{S G:Nat→Prop}: ∀{H H':Hp},HLe H H'→Own w S G H→Own w S G H'∧ ∀y∈H',∃x∈H,x.1=y.1
  |_,_,.nil,h=>⟨h,fun _ h=>by simp at h⟩
  |_,_,.drop k,h=>by
    have ih:=k.own (h.subl (List.sublist_cons_self _ _))
    exact⟨ih.1,fun y hy=>let⟨x,hx,e⟩:=ih.2 y hy;⟨x,by simp [hx],e⟩⟩
  |_,_,.pick n (g:=g) (o:=o) hn ho k,h0=>by
    have p:=pick_perm hn
    have h:=h0.perm p
    have ih:=k.own (h.subl (List.sublist_cons_self _ _))
    have hm:=(List.pairwise_cons.1 h.nd).1
    refine⟨ih.1.cons (ho _ _ _ (h.ob _ (List.mem_cons_self ..))) fun b hb=>⟨(h.ow _ (List.mem_cons_self ..) b hb).1,(h.ow _ (List.mem_cons_self ..) b hb).2,fun y hy e=> ?_⟩,fun y hy=> ?_⟩
    · obtain⟨x,hx,e'⟩:=ih.2 y hy
      exact hm x hx b hb (e'.trans e)
    · rcases List.mem_cons.1 hy with rfl|hy
      · exact⟨_,p.mem_iff.2 (List.mem_cons_self ..),rfl⟩
      · obtain⟨x,hx,e⟩:=ih.2 y hy;exact⟨x,p.mem_iff.2 (List.mem_cons_of_mem _ hx),e⟩
  |_,_,.cons (g:=g) (o:=o) ho k,h=>by
    have ih:=k.own (h.subl (List.sublist_cons_self _ _))
    have hm:=(List.pairwise_cons.1 h.nd).1
    refine⟨ih.1.cons (ho _ _ _ (h.ob _ (List.mem_cons_self ..))) fun b hb=>⟨(h.ow _ (List.mem_cons_self ..) b hb).1,(h.ow _ (List.mem_cons_self ..) b hb).2,fun y hy e=> ?_⟩,fun y hy=> ?_⟩
    · obtain⟨x,hx,e'⟩:=ih.2 y hy
      exact hm x hx b hb (e'.trans e)
    · rcases List.mem_cons.1 hy with rfl|hy
      · exact⟨_,List.mem_cons_self ..,rfl⟩
      · obtain⟨x,hx,e⟩:=ih.2 y hy;exact⟨x,by simp [hx],e⟩
inductive LesP (env:Nat→AV):List (Nat×AV)→Prop
  |nil:LesP env []
  |cons {s:Nat} {a:AV} {l:List (Nat×AV)}:(env s).le a→LesP env l→LesP env ((s,a)::l)
theorem ov_le{ks:List Nat}{env0:Nat→AV}(hT:(env gS).le (env0 gS))(h: ∀s∈ks,(env s).le (env0 s))(s:Nat):(env s).le (ovA ks env0 s):=by
  unfold ovA
  cases hs:Nat.beq s gS||ks.any (Nat.beq s) with
  |false=>exact le_any
  |true=>
    rw[Bool.or_eq_true] at hs
    rcases hs with hs|hs
    · obtain rfl:s=gS:=Nat.eq_of_beq_eq_true hs
      exact hT
    obtain⟨t,ht,hb⟩:=List.any_eq_true.1 hs
    obtain rfl:s=t:=Nat.eq_of_beq_eq_true hb
    exact h s ht
inductive EqS (env env0:Nat→AV):List Nat→Prop
  |nil:EqS env env0 []
  |cons {k:Nat} {ks:List Nat} {a:AV}:env k=a→env0 k=a→EqS env env0 ks→EqS env env0 (k::ks)
theorem EqS.map{env env0:Nat→AV}: ∀{ks:List Nat},EqS env env0 ks→ks.map env=ks.map env0
  |_,.nil=>rfl
  |_,.cons h1 h2 k=>by rw[List.map_cons,List.map_cons,h1,h2,k.map]
theorem entL{ks:List Nat}{env0:Nat→AV}{es:List (Nat×AV)}(h1:LesP env es)(h2':EqS env env0 (gS::ks))(h3:HLe H H'):Ent C env H (updL (ovA ks env0) es) H':=fun e w S r=>by
  have h2:=h2'.map
  refine⟨S,r.frm,r.lt,r.sb,?_,(h3.own r.own).1⟩
  induction h1 with
  |nil=>exact fun s=>ov_le (.of_eq (List.cons.inj h2).1) (fun s hs=> .of_eq (List.map_inj_left.1 (List.cons.inj h2).2 s hs)) s _ _ _ (r.sl s)
  | @cons t a l h _ ih=>
    have :=rep_upd ih (d:=t) (h _ _ _ (r.sl t))
    rw[upd_same'] at this;exact this
def LS(n:Nat)(D:List Deferred)(C:Ctx){γ:Type}(env0:Nat→AV)(es:γ→List (Nat×AV))(hs:γ→Hp)(I:γ→Prop)(μ:γ→Nat)(m:Nat)(a:Act)(w:World):Prop:= ∃x e S,a=mkA D n e∧μ x<m∧I x∧Rel C (updL env0 (es x)) (hs x) S e w
theorem aLoop{γ:Type}{c:Code}(ks:List Nat)(es:γ→List (Nat×AV))(hs:γ→Hp)(I:γ→Prop)(μ:γ→Nat)(x0:γ)(h0:I x0)(he:Ent C env H (updL (ovA ks env) (es x0)) (hs x0))
    (round: ∀x,I x→AW P n D C c (Exit.then (LS n D C (ovA ks env) es hs I μ (μ x)) Q) (updL (ovA ks env) (es x)) (hs x)):AW P n D C (.loop c) Q env H:=fun e w S r=>by
  refine QwE (fun m e w=> ∃x S,μ x=m∧I x∧Rel C (updL (ovA ks env) (es x)) (hs x) S e w) (μ x0) ?_ fun m e w ⟨x,S,hm,hI,r⟩=> ?_
  · obtain⟨S',r'⟩:=he e w S r;exact⟨x0,S',rfl,h0,r'⟩
  · subst hm
    have key:LS n D C (ovA ks env) es hs I μ (μ x)=Qus (dfs:=D) n (fun m e w=> ∃x S,μ x=m∧I x∧Rel C (updL (ovA ks env) (es x)) (hs x) S e w) (μ x):=by
      funext a w
      apply propext
      constructor
      · rintro⟨x',e',S',h1,h2,h3,h4⟩;exact⟨μ x',e',h1,h2,x',S',rfl,h3,h4⟩
      · rintro⟨m',e',h1,h2,x',S',rfl,h3,h4⟩;exact⟨x',e',S',h1,h2,h3,h4⟩
    have :=round x hI e w S r
    rw[key] at this;exact this
theorem aAgain{γ:Type}{env0:Nat→AV}{es:γ→List (Nat×AV)}{hs:γ→Hp}{I:γ→Prop}{μ:γ→Nat}{m:Nat}(x:γ)(hI:I x)(hm:μ x<m)(he:Ent C env H (updL env0 (es x)) (hs x)):AX n D C (Exit.then (LS n D C env0 es hs I μ m) Q) .normal env H:=fun e w S r=>by
  obtain⟨S',r'⟩:=he e w S r;exact ex ⟨x,e,S',rfl,hm,hI,r'⟩
theorem ob_eq{o o':Ob}(h:o=o'):o.le o':=h▸ob_refl o
def reH:Hp→List Ob→Hp
  |x::H,o::l=>(x.1,o)::reH H l
  |_,_=>[]
def LS1(n:Nat)(D:List Deferred)(C:Ctx){α:Type}(env0:Nat→AV)(H0:Hp)(es:α→List (Nat×AV))(cs:α→List Ob)(I:α→Prop)(μ:α→Nat)(m:Nat):Act→World→Prop:=LS n D C env0 (fun p:α=>es p) (fun p:α=>reH H0 (cs p)) (fun p:α=>I p) (fun p:α=>μ p) m
theorem aL1{α:Type}{c:Code}(ks:List Nat)(es:α→List (Nat×AV))(cs:α→List Ob)(I:α→Prop)(μ:α→Nat)(x0:α)(h0:I x0)(he:Ent C env H (updL (ovA ks env) (es x0)) (reH H (cs x0)))
    (round: ∀(x:α),I x→AW P n D C c (Exit.then (LS1 n D C (ovA ks env) H es cs I μ (μ x)) Q) (updL (ovA ks env) (es x)) (reH H (cs x))):AW P n D C (.loop c) Q env H:=
  aLoop ks (fun p:α=>es p) (fun p:α=>reH H (cs p)) (fun p:α=>I p) (fun p:α=>μ p) x0 h0 he fun x=>round x
theorem ag1{α:Type}{env0:Nat→AV}{H0:Hp}{es:α→List (Nat×AV)}{cs:α→List Ob}{I:α→Prop}{μ:α→Nat}{m:Nat}(x:α)(hI:I x)(he:Ent C env H (updL env0 (es x)) (reH H0 (cs x)))(hm:μ x<m:=by omega):AX n D C (Exit.then (LS1 n D C env0 H0 es cs I μ m) Q) .normal env H:=
  aAgain (es:=(fun p:α=>es p)) (hs:=(fun p:α=>reH H0 (cs p))) (I:=(fun p:α=>I p)) (μ:=(fun p:α=>μ p)) x hI hm he
def LS2(n:Nat)(D:List Deferred)(C:Ctx){α β:Type}(env0:Nat→AV)(H0:Hp)(es:α→β→List (Nat×AV))(cs:α→β→List Ob)(I:α→β→Prop)(μ:α→β→Nat)(m:Nat):Act→World→Prop:=LS n D C env0 (fun p:α×β=>es p.1 p.2) (fun p:α×β=>reH H0 (cs p.1 p.2)) (fun p:α×β=>I p.1 p.2) (fun p:α×β=>μ p.1 p.2) m
theorem aL2{α β:Type}{c:Code}(ks:List Nat)(es:α→β→List (Nat×AV))(cs:α→β→List Ob)(I:α→β→Prop)(μ:α→β→Nat)(x0:α)(y0:β)(h0:I x0 y0)(he:Ent C env H (updL (ovA ks env) (es x0 y0)) (reH H (cs x0 y0)))
    (round: ∀(x:α)(y:β),I x y→AW P n D C c (Exit.then (LS2 n D C (ovA ks env) H es cs I μ (μ x y)) Q) (updL (ovA ks env) (es x y)) (reH H (cs x y))):AW P n D C (.loop c) Q env H:=
  aLoop ks (fun p:α×β=>es p.1 p.2) (fun p:α×β=>reH H (cs p.1 p.2)) (fun p:α×β=>I p.1 p.2) (fun p:α×β=>μ p.1 p.2) (x0,y0) h0 he fun⟨x,y⟩=>round x y
theorem ag2{α β:Type}{env0:Nat→AV}{H0:Hp}{es:α→β→List (Nat×AV)}{cs:α→β→List Ob}{I:α→β→Prop}{μ:α→β→Nat}{m:Nat}(x:α)(y:β)(hI:I x y)(he:Ent C env H (updL env0 (es x y)) (reH H0 (cs x y)))(hm:μ x y<m:=by omega):AX n D C (Exit.then (LS2 n D C env0 H0 es cs I μ m) Q) .normal env H:=
  aAgain (es:=(fun p:α×β=>es p.1 p.2)) (hs:=(fun p:α×β=>reH H0 (cs p.1 p.2))) (I:=(fun p:α×β=>I p.1 p.2)) (μ:=(fun p:α×β=>μ p.1 p.2)) (x,y) hI hm he
def LS3(n:Nat)(D:List Deferred)(C:Ctx){α β γ:Type}(env0:Nat→AV)(H0:Hp)(es:α→β→γ→List (Nat×AV))(cs:α→β→γ→List Ob)(I:α→β→γ→Prop)(μ:α→β→γ→Nat)(m:Nat):Act→World→Prop:=LS n D C env0 (fun p:α×β×γ=>es p.1 p.2.1 p.2.2) (fun p:α×β×γ=>reH H0 (cs p.1 p.2.1 p.2.2)) (fun p:α×β×γ=>I p.1 p.2.1 p.2.2) (fun p:α×β×γ=>μ p.1 p.2.1 p.2.2) m
theorem aL3{α β γ:Type}{c:Code}(ks:List Nat)(es:α→β→γ→List (Nat×AV))(cs:α→β→γ→List Ob)(I:α→β→γ→Prop)(μ:α→β→γ→Nat)(x0:α)(y0:β)(z0:γ)(h0:I x0 y0 z0)(he:Ent C env H (updL (ovA ks env) (es x0 y0 z0)) (reH H (cs x0 y0 z0)))
    (round: ∀(x:α)(y:β)(z:γ),I x y z→AW P n D C c (Exit.then (LS3 n D C (ovA ks env) H es cs I μ (μ x y z)) Q) (updL (ovA ks env) (es x y z)) (reH H (cs x y z))):AW P n D C (.loop c) Q env H:=
  aLoop ks (fun p:α×β×γ=>es p.1 p.2.1 p.2.2) (fun p:α×β×γ=>reH H (cs p.1 p.2.1 p.2.2)) (fun p:α×β×γ=>I p.1 p.2.1 p.2.2) (fun p:α×β×γ=>μ p.1 p.2.1 p.2.2) (x0,y0,z0) h0 he fun⟨x,y,z⟩=>round x y z
theorem ag3{α β γ:Type}{env0:Nat→AV}{H0:Hp}{es:α→β→γ→List (Nat×AV)}{cs:α→β→γ→List Ob}{I:α→β→γ→Prop}{μ:α→β→γ→Nat}{m:Nat}(x:α)(y:β)(z:γ)(hI:I x y z)(he:Ent C env H (updL env0 (es x y z)) (reH H0 (cs x y z)))(hm:μ x y z<m:=by omega):AX n D C (Exit.then (LS3 n D C env0 H0 es cs I μ m) Q) .normal env H:=
  aAgain (es:=(fun p:α×β×γ=>es p.1 p.2.1 p.2.2)) (hs:=(fun p:α×β×γ=>reH H0 (cs p.1 p.2.1 p.2.2))) (I:=(fun p:α×β×γ=>I p.1 p.2.1 p.2.2)) (μ:=(fun p:α×β×γ=>μ p.1 p.2.1 p.2.2)) (x,y,z) hI hm he
def LS4(n:Nat)(D:List Deferred)(C:Ctx){α β γ δ:Type}(env0:Nat→AV)(H0:Hp)(es:α→β→γ→δ→List (Nat×AV))(cs:α→β→γ→δ→List Ob)(I:α→β→γ→δ→Prop)(μ:α→β→γ→δ→Nat)(m:Nat):Act→World→Prop:=LS n D C env0 (fun p:α×β×γ×δ=>es p.1 p.2.1 p.2.2.1 p.2.2.2) (fun p:α×β×γ×δ=>reH H0 (cs p.1 p.2.1 p.2.2.1 p.2.2.2)) (fun p:α×β×γ×δ=>I p.1 p.2.1 p.2.2.1 p.2.2.2) (fun p:α×β×γ×δ=>μ p.1 p.2.1 p.2.2.1 p.2.2.2) m
theorem aL4{α β γ δ:Type}{c:Code}(ks:List Nat)(es:α→β→γ→δ→List (Nat×AV))(cs:α→β→γ→δ→List Ob)(I:α→β→γ→δ→Prop)(μ:α→β→γ→δ→Nat)(x0:α)(y0:β)(z0:γ)(u0:δ)(h0:I x0 y0 z0 u0)(he:Ent C env H (updL (ovA ks env) (es x0 y0 z0 u0)) (reH H (cs x0 y0 z0 u0)))
    (round: ∀(x:α)(y:β)(z:γ)(u:δ),I x y z u→AW P n D C c (Exit.then (LS4 n D C (ovA ks env) H es cs I μ (μ x y z u)) Q) (updL (ovA ks env) (es x y z u)) (reH H (cs x y z u))):AW P n D C (.loop c) Q env H:=
  aLoop ks (fun p:α×β×γ×δ=>es p.1 p.2.1 p.2.2.1 p.2.2.2) (fun p:α×β×γ×δ=>reH H (cs p.1 p.2.1 p.2.2.1 p.2.2.2)) (fun p:α×β×γ×δ=>I p.1 p.2.1 p.2.2.1 p.2.2.2) (fun p:α×β×γ×δ=>μ p.1 p.2.1 p.2.2.1 p.2.2.2) (x0,y0,z0,u0) h0 he fun⟨x,y,z,u⟩=>round x y z u
theorem ag4{α β γ δ:Type}{env0:Nat→AV}{H0:Hp}{es:α→β→γ→δ→List (Nat×AV)}{cs:α→β→γ→δ→List Ob}{I:α→β→γ→δ→Prop}{μ:α→β→γ→δ→Nat}{m:Nat}(x:α)(y:β)(z:γ)(u:δ)(hI:I x y z u)(he:Ent C env H (updL env0 (es x y z u)) (reH H0 (cs x y z u)))(hm:μ x y z u<m:=by omega):AX n D C (Exit.then (LS4 n D C env0 H0 es cs I μ m) Q) .normal env H:=
  aAgain (es:=(fun p:α×β×γ×δ=>es p.1 p.2.1 p.2.2.1 p.2.2.2)) (hs:=(fun p:α×β×γ×δ=>reH H0 (cs p.1 p.2.1 p.2.2.1 p.2.2.2))) (I:=(fun p:α×β×γ×δ=>I p.1 p.2.1 p.2.2.1 p.2.2.2)) (μ:=(fun p:α×β×γ×δ=>μ p.1 p.2.1 p.2.2.1 p.2.2.2)) (x,y,z,u) hI hm he
def LS5(n:Nat)(D:List Deferred)(C:Ctx){α β γ δ ε:Type}(env0:Nat→AV)(H0:Hp)(es:α→β→γ→δ→ε→List (Nat×AV))(cs:α→β→γ→δ→ε→List Ob)(I:α→β→γ→δ→ε→Prop)(μ:α→β→γ→δ→ε→Nat)(m:Nat):Act→World→Prop:=LS n D C env0 (fun p:α×β×γ×δ×ε=>es p.1 p.2.1 p.2.2.1 p.2.2.2.1 p.2.2.2.2) (fun p:α×β×γ×δ×ε=>reH H0 (cs p.1 p.2.1 p.2.2.1 p.2.2.2.1 p.2.2.2.2)) (fun p:α×β×γ×δ×ε=>I p.1 p.2.1 p.2.2.1 p.2.2.2.1 p.2.2.2.2) (fun p:α×β×γ×δ×ε=>μ p.1 p.2.1 p.2.2.1 p.2.2.2.1 p.2.2.2.2) m
theorem aL5{α β γ δ ε:Type}{c:Code}(ks:List Nat)(es:α→β→γ→δ→ε→List (Nat×AV))(cs:α→β→γ→δ→ε→List Ob)(I:α→β→γ→δ→ε→Prop)(μ:α→β→γ→δ→ε→Nat)(x0:α)(y0:β)(z0:γ)(u0:δ)(v0:ε)(h0:I x0 y0 z0 u0 v0)(he:Ent C env H (updL (ovA ks env) (es x0 y0 z0 u0 v0)) (reH H (cs x0 y0 z0 u0 v0)))
    (round: ∀(x:α)(y:β)(z:γ)(u:δ)(v:ε),I x y z u v→AW P n D C c (Exit.then (LS5 n D C (ovA ks env) H es cs I μ (μ x y z u v)) Q) (updL (ovA ks env) (es x y z u v)) (reH H (cs x y z u v))):AW P n D C (.loop c) Q env H:=
  aLoop ks (fun p:α×β×γ×δ×ε=>es p.1 p.2.1 p.2.2.1 p.2.2.2.1 p.2.2.2.2) (fun p:α×β×γ×δ×ε=>reH H (cs p.1 p.2.1 p.2.2.1 p.2.2.2.1 p.2.2.2.2)) (fun p:α×β×γ×δ×ε=>I p.1 p.2.1 p.2.2.1 p.2.2.2.1 p.2.2.2.2) (fun p:α×β×γ×δ×ε=>μ p.1 p.2.1 p.2.2.1 p.2.2.2.1 p.2.2.2.2) (x0,y0,z0,u0,v0) h0 he fun⟨x,y,z,u,v⟩=>round x y z u v
theorem ag5{α β γ δ ε:Type}{env0:Nat→AV}{H0:Hp}{es:α→β→γ→δ→ε→List (Nat×AV)}{cs:α→β→γ→δ→ε→List Ob}{I:α→β→γ→δ→ε→Prop}{μ:α→β→γ→δ→ε→Nat}{m:Nat}(x:α)(y:β)(z:γ)(u:δ)(v:ε)(hI:I x y z u v)(he:Ent C env H (updL env0 (es x y z u v)) (reH H0 (cs x y z u v)))(hm:μ x y z u v<m:=by omega):AX n D C (Exit.then (LS5 n D C env0 H0 es cs I μ m) Q) .normal env H:=
  aAgain (es:=(fun p:α×β×γ×δ×ε=>es p.1 p.2.1 p.2.2.1 p.2.2.2.1 p.2.2.2.2)) (hs:=(fun p:α×β×γ×δ×ε=>reH H0 (cs p.1 p.2.1 p.2.2.1 p.2.2.2.1 p.2.2.2.2))) (I:=(fun p:α×β×γ×δ×ε=>I p.1 p.2.1 p.2.2.1 p.2.2.2.1 p.2.2.2.2)) (μ:=(fun p:α×β×γ×δ×ε=>μ p.1 p.2.1 p.2.2.1 p.2.2.2.1 p.2.2.2.2)) (x,y,z,u,v) hI hm he
def JS(n:Nat)(D:List Deferred)(C:Ctx){γ:Type}(env0:Nat→AV)(es:γ→List (Nat×AV))(hs:γ→Hp)(I:γ→Prop)(x:Exit)(a:Act)(w:World):Prop:=x= .normal∧ ∃x e S,a=mkA D n e∧I x∧Rel C (updL env0 (es x)) (hs x) S e w
theorem aJoin{γ:Type}{c:Code}(ks:List Nat)(es:γ→List (Nat×AV))(hs:γ→Hp)(I:γ→Prop)(h:AW P n D C c (JS n D C (ovA ks env) es hs I) env H)(k: ∀x,I x→AX n D C Q .normal (updL (ovA ks env) (es x)) (hs x)):AW P n D C c Q env H:=fun e w S r=>by
  refine Qv5 (fun e w=> ∃x S,I x∧Rel C (updL (ovA ks env) (es x)) (hs x) S e w) ?_ fun e w ⟨x,S,hI,r⟩=>k x hI e w S r
  have key:JS n D C (ovA ks env) es hs I=fun ex a w=>ex= .normal∧ ∃e,a=mkA D n e∧ ∃x S,I x∧Rel C (updL (ovA ks env) (es x)) (hs x) S e w:=by
    funext ex a w
    apply propext
    constructor
    · rintro⟨h1,x,e,S,h2,h3,h4⟩;exact⟨h1,e,h2,x,S,h3,h4⟩
    · rintro⟨h1,e,h2,x,S,h3,h4⟩;exact⟨h1,x,e,S,h2,h3,h4⟩
  have :=h e w S r
  rw[key] at this;exact this
theorem aJoined{γ:Type}{env0:Nat→AV}{es:γ→List (Nat×AV)}{hs:γ→Hp}{I:γ→Prop}(x:γ)(hI:I x)(he:Ent C env H (updL env0 (es x)) (hs x)):AX n D C (JS n D C env0 es hs I) .normal env H:=fun e w S r=>by
  obtain⟨S',r'⟩:=he e w S r;exact ex ⟨rfl,x,e,S',rfl,hI,r'⟩
def JS1(n:Nat)(D:List Deferred)(C:Ctx){α:Type}(env0:Nat→AV)(es:α→List (Nat×AV))(hs:α→Hp)(I:α→Prop):Exit→Act→World→Prop:=JS n D C env0 (fun p:α=>es p) (fun p:α=>hs p) (fun p:α=>I p)
theorem aJ1{α:Type}{c:Code}(ks:List Nat)(es:α→List (Nat×AV))(hs:α→Hp)(I:α→Prop)(h:AW P n D C c (JS1 n D C (ovA ks env) es hs I) env H)(k: ∀(x:α),I x→AX n D C Q .normal (updL (ovA ks env) (es x)) (hs x)):AW P n D C c Q env H:=aJoin ks (fun p:α=>es p) (fun p:α=>hs p) (fun p:α=>I p) h fun x=>k x
theorem jd1{α:Type}{env0:Nat→AV}{es:α→List (Nat×AV)}{hs:α→Hp}{I:α→Prop}(x:α)(hI:I x)(he:Ent C env H (updL env0 (es x)) (hs x)):AX n D C (JS1 n D C env0 es hs I) .normal env H:=aJoined (es:=(fun p:α=>es p)) (hs:=(fun p:α=>hs p)) (I:=(fun p:α=>I p)) x hI he
def JS2(n:Nat)(D:List Deferred)(C:Ctx){α β:Type}(env0:Nat→AV)(es:α→β→List (Nat×AV))(hs:α→β→Hp)(I:α→β→Prop):Exit→Act→World→Prop:=JS n D C env0 (fun p:α×β=>es p.1 p.2) (fun p:α×β=>hs p.1 p.2) (fun p:α×β=>I p.1 p.2)
theorem aJ2{α β:Type}{c:Code}(ks:List Nat)(es:α→β→List (Nat×AV))(hs:α→β→Hp)(I:α→β→Prop)(h:AW P n D C c (JS2 n D C (ovA ks env) es hs I) env H)(k: ∀(x:α)(y:β),I x y→AX n D C Q .normal (updL (ovA ks env) (es x y)) (hs x y)):AW P n D C c Q env H:=aJoin ks (fun p:α×β=>es p.1 p.2) (fun p:α×β=>hs p.1 p.2) (fun p:α×β=>I p.1 p.2) h fun⟨x,y⟩=>k x y
theorem jd2{α β:Type}{env0:Nat→AV}{es:α→β→List (Nat×AV)}{hs:α→β→Hp}{I:α→β→Prop}(x:α)(y:β)(hI:I x y)(he:Ent C env H (updL env0 (es x y)) (hs x y)):AX n D C (JS2 n D C env0 es hs I) .normal env H:=aJoined (es:=(fun p:α×β=>es p.1 p.2)) (hs:=(fun p:α×β=>hs p.1 p.2)) (I:=(fun p:α×β=>I p.1 p.2)) (x,y) hI he
def JS3(n:Nat)(D:List Deferred)(C:Ctx){α β γ:Type}(env0:Nat→AV)(es:α→β→γ→List (Nat×AV))(hs:α→β→γ→Hp)(I:α→β→γ→Prop):Exit→Act→World→Prop:=JS n D C env0 (fun p:α×β×γ=>es p.1 p.2.1 p.2.2) (fun p:α×β×γ=>hs p.1 p.2.1 p.2.2) (fun p:α×β×γ=>I p.1 p.2.1 p.2.2)
theorem aJ3{α β γ:Type}{c:Code}(ks:List Nat)(es:α→β→γ→List (Nat×AV))(hs:α→β→γ→Hp)(I:α→β→γ→Prop)(h:AW P n D C c (JS3 n D C (ovA ks env) es hs I) env H)(k: ∀(x:α)(y:β)(z:γ),I x y z→AX n D C Q .normal (updL (ovA ks env) (es x y z)) (hs x y z)):AW P n D C c Q env H:=aJoin ks (fun p:α×β×γ=>es p.1 p.2.1 p.2.2) (fun p:α×β×γ=>hs p.1 p.2.1 p.2.2) (fun p:α×β×γ=>I p.1 p.2.1 p.2.2) h fun⟨x,y,z⟩=>k x y z
theorem jd3{α β γ:Type}{env0:Nat→AV}{es:α→β→γ→List (Nat×AV)}{hs:α→β→γ→Hp}{I:α→β→γ→Prop}(x:α)(y:β)(z:γ)(hI:I x y z)(he:Ent C env H (updL env0 (es x y z)) (hs x y z)):AX n D C (JS3 n D C env0 es hs I) .normal env H:=aJoined (es:=(fun p:α×β×γ=>es p.1 p.2.1 p.2.2)) (hs:=(fun p:α×β×γ=>hs p.1 p.2.1 p.2.2)) (I:=(fun p:α×β×γ=>I p.1 p.2.1 p.2.2)) (x,y,z) hI he
end
end Go.Am
namespace Go.Am
open Go.RowKit Go.Gx
section
variable{P:Program}{ops:Array Oper}{Q:Exit→Act→World→Prop}{G:Nat→Nat→Prop}
def wpS(P:Program)(ops:Array Oper)(Q:Exit→Act→World→Prop)(G:Nat→Nat→Prop):Nat→Array Bool→Act→World→Prop
  |0,listed,a,w=>Region.ready .any ops listed=[]∧Q .normal a w
  |fuel+1,listed,a,w=>
    (Region.ready .any ops listed=[]→Q .normal a w)∧
    ∀i∈Region.ready .any ops listed,wpOp P ops Q i (fun a' w'=>Frm (G i) w w'∧wpS P ops Q G fuel (listed.setIfInBounds i true) a' w') a w
theorem wpAny_of_S: ∀(fuel:Nat)(listed:Array Bool)(a:Act)(w:World),wpS P ops Q G fuel listed a w→wpAny P .any ops Q fuel listed a w
  |0,_,_,_,h=>h
  |fuel+1,_,_,_,h=>⟨h.1,fun i hi=>wpOp_mono (fun a' w' h'=>wpAny_of_S fuel _ a' w' h'.2) (h.2 i hi)⟩
theorem wpS_first{R:World→World→Prop}(hr: ∀a,R a a)(ht: ∀a b c,R a b→R b c→R a c){i:Nat}{oi:Oper}{v:Value}(hi:ops[i]? =some oi)
    (hsel: ∀(j:Nat)(o:Oper) cs b,ops[j]? =some o→o.op≠ .select cs b)
    (hQ: ∀c a w,Q (.panic c) (a.put oi.dst v) w→Q (.panic c) a w)(L:List Nat)(hL: ∀j∈L,∀oj,ops[j]? =some oj→ ∃e∈oj.after,Region.binds .any e=true∧(e.on=i∨e.on∈L)):
    ∀(fuel:Nat)(listed:Array Bool)(a:Act)(w:World),
      (∀j oj,ops[j]? =some oj→j≠i→j∉L→listed.getD j true=false→(∀e∈oj.after,Region.binds .any e=true→e.on≠i)→oi.apart ops oj=true∧ ∀w w',Frm (G j) w w'→R w w')→
      (∀j∈L,listed.getD j true=false)→i∈Region.ready .any ops listed→Zx P ops R w oi v a→
      wpS P ops Q G fuel (listed.setIfInBounds i true) (a.put oi.dst v) w→wpS P ops Q G (fuel+1) listed a w:=by
  intro fuel
  induction fuel with
  |zero=>
    intro listed a w _ _ hrd hy H
    refine⟨fun h=>(by rw[h] at hrd;cases hrd),fun j hj=> ?_⟩
    by_cases hji:j=i
    · subst hji;exact hy.wpOp hr hi ⟨Frm.refl _ _,H⟩
    · have :=ready_mono hj hji
      rw[H.1] at this
      cases this
  |succ fuel ih=>
    intro listed a w hfree hlate hrd hy H
    refine⟨fun h=>(by rw[h] at hrd;cases hrd),fun j hj=> ?_⟩
    by_cases hji:j=i
    · subst hji;exact hy.wpOp hr hi ⟨Frm.refl _ _,H⟩
    · have h1:=H.2 j (ready_mono hj hji)
      obtain⟨hjun,oj,hoj,hall⟩:=mem_ready.1 hj
      have hnot: ∀e∈oj.after,Region.binds .any e=true→e.on≠i:=fun e he hb heq=>by
        have h1:=hall e he hb
        have h0:=(mem_ready.1 hrd).1
        rw[heq] at h1
        rcases Nat.lt_or_ge i listed.size with h'|h'
        · simp [h'] at h0 h1;rw[h0] at h1;cases h1
        · simp [Array.getElem?_eq_none h'] at h1
      have hjL:j∉L:=fun hj=>by
        obtain⟨e,he,hb,h1|h1⟩:=hL j hj oj hoj
        · exact hnot e he hb h1
        · have h2:=hall e he hb
          have h0:=hlate _ h1
          rcases Nat.lt_or_ge e.on listed.size with h'|h'
          · simp [Array.getD,h'] at h0 h2;rw[h0] at h2;cases h2
          · simp [Array.getElem?_eq_none h'] at h2
      have hfj:=hfree j oj hoj hji hjL hjun hnot
      have hlate': ∀k∈L,(listed.setIfInBounds j true).getD k true=false:=fun k hk=>by
        rw[getD_set_ne true fun e:j=k=>hjL (by rw[e];exact hk)];exact hlate k hk
      have h2:=Qpn hoj hfj.1 (fun cs b=>hsel i oi cs b hi) (fun cs b=>hsel j oj cs b hoj) hQ hy h1
      have hfree': ∀k ok,ops[k]? =some ok→k≠i→k∉L→(listed.setIfInBounds j true).getD k true=false→
          (∀e∈ok.after,Region.binds .any e=true→e.on≠i)→oi.apart ops ok=true∧ ∀w w',Frm (G k) w w'→R w w':=fun k ok hk hki hkL hun hno=>by
        refine hfree k ok hk hki hkL ?_ hno
        by_cases hjk:j=k
        · subst hjk;exact hjun
        · rw[getD_set_ne true hjk] at hun;exact hun
      refine wpOp_mono (fun a' w' h3=>⟨h3.2.1,ih (listed.setIfInBounds j true) a' w' hfree' hlate' (ready_mono hrd (Ne.symm hji)) (h3.1.later ht (hfj.2 _ _ h3.2.1)) ?_⟩) h2
      rw[Array.setIfInBounds_comm _ _ hji]
      exact h3.2.2
end
def NoBad(Q:Exit→Act→World→Prop):Exit→Act→World→Prop
  | .panic _,_,_=>False
  | .outgrown,_,_=>False
  |e,a,w=>Q e a w
def upTo(m:Nat)(done:List Nat):Array Bool:=(Array.range m).map fun i=>done.contains i
def flB(ops:Array Oper)(done:List Nat)(i:Nat):Bool:=Region.noSelect ops&&Region.free .any ops (upTo ops.size done) i&& (Region.ready .any ops (upTo ops.size done)).contains i
def late(ops:Array Oper)(done:List Nat)(i:Nat):List Nat:=(List.range ops.size).foldl (fun L j=>bif !done.contains j&& ((ops[j]?).map fun o=>o.after.any fun e=>Region.binds .any e&& (e.on==i||L.contains e.on)).getD false then j::L else L) []
def lateB(ops:Array Oper)(done:List Nat)(i:Nat)(L:List Nat):Bool:=L.all fun j=> !done.contains j&&Nat.blt j ops.size&& ((ops[j]?).map fun o=>o.after.any fun e=>Region.binds .any e&& (e.on==i||L.contains e.on)).getD false
def loose(ops:Array Oper)(done:List Nat)(i:Nat)(L:List Nat):List Nat:=(List.range ops.size).filter fun j=> !done.contains j&&j !=i&& !L.contains j
theorem late_spec{L:List Nat}{done:List Nat}{i:Nat}{ops:Array Oper}(h:lateB ops done i L=true):(∀j∈L,∀oj,ops[j]? =some oj→ ∃e∈oj.after,Region.binds .any e=true∧(e.on=i∨e.on∈L))∧ ∀j∈L,done.contains j=false∧j<ops.size:=by
  have h1:=List.all_eq_true.1 h
  constructor
  · intro j hj oj ho
    have h2:=h1 j hj
    rw[ho] at h2
    simp only[Bool.and_eq_true,Option.map_some,Option.getD_some,Array.any_eq_true'] at h2
    obtain⟨e,he,hb⟩:=h2.2
    refine⟨e,he,?_⟩
    simp only[Bool.and_eq_true,Bool.or_eq_true,beq_iff_eq,List.contains_iff_mem] at hb
    exact hb
  · intro j hj
    have h2:=h1 j hj
    simp only[Bool.and_eq_true,Bool.not_eq_true'] at h2
    exact⟨h2.1.1,Nat.le_of_ble_eq_true h2.1.2⟩
theorem upTo_get{m:Nat}{done:List Nat}{j:Nat}(h:done.contains j=false)(hj:j<m):(upTo m done).getD j true=false:=by
  unfold upTo;simp [Array.getD,hj];simpa using h
section
variable{P:Program}{n:Nat}{D:List Deferred}{C:Ctx}{env:Nat→AV}{H:Hp}{Q:Exit→Act→World→Prop}{ops:Array Oper}{G:Nat→Nat→Prop}{done todo:List Nat}{i:Nat}{o:Oper}{d:Nat}{a:AV}
def AD(P:Program)(n:Nat)(D:List Deferred)(C:Ctx)(ops:Array Oper)(G:Nat→Nat→Prop)(done todo:List Nat)(Q:Exit→Act→World→Prop)(env:Nat→AV)(H:Hp):Prop:=
  A C (fun e w=>wpS P ops (NoBad Q) G todo.length (upTo ops.size done) (mkA D n e) w) env H
theorem upTo_set{m:Nat}{done:List Nat}{i:Nat}:(upTo m done).setIfInBounds i true=upTo m (i::done):=by
  apply Array.ext_getElem?
  intro j
  unfold upTo
  rw[Array.getElem?_setIfInBounds]
  by_cases hij:i=j
  · subst hij
    simp only[Array.size_map,Array.size_range]
    rcases Nat.lt_or_ge i m with h|h
    · simp [Array.getElem?_range,h]
    · simp [Array.getElem?_range,show ¬i<m by omega]
  · rw[if_neg hij]
    simp only[Array.getElem?_map,List.contains_cons]
    rcases Nat.lt_or_ge j m with h|h
    · simp [Array.getElem?_range,h,show ¬j=i from fun e=>hij e.symm]
    · simp [Array.getElem?_range,show ¬j<m by omega]
theorem upTo_getD{m:Nat}{done:List Nat}{j:Nat}(h:(upTo m done).getD j true=false):done.contains j=false∧j<m:=by
  unfold upTo at h
  rcases Nat.lt_or_ge j m with hj|hj
  · simp [Array.getD,hj] at h;exact⟨by simpa using h,hj⟩
  · simp [Array.getD,show ¬j<m by omega] at h
def ndO:Op→Bool
  | .defer _=>false
  |_=>true
def ndL:List Oper→Bool
  | []=>true
  |o::l=>match ndO o.op with |true=>ndL l|false=>false
theorem ndL_nd: ∀{l:List Oper},ndL l=true→ ∀{i:Nat}{o:Oper},l.toArray[i]? =some o→ ∀c,o.op≠ .defer c
  |x::l,h,0,o,hi,c,hc=>by
    simp at hi;subst hi
    unfold ndL at h;rw[hc] at h;cases h
  |x::l,h,i+1,o,hi,c,hc=>by
    unfold ndL at h
    cases hx:ndO x.op with
    |true=>rw[hx] at h;exact ndL_nd h (i:=i) (by simpa using hi) c hc
    |false=>rw[hx] at h;cases h
  | [],_,_,_,hi,_,_=>by simp at hi
theorem anyIn(hn: ∀{i:Nat}{o:Oper},ops[i]? =some o→ ∀c,o.op≠ .defer c)(hQ: ∀a w,¬Q .outgrown a w){ro:Option Nat}{m:Nat}: ∀(fuel:Nat)(listed:Array Bool)(a:Act)(w:World),wpAny P .any ops Q fuel listed a w→wpAnyIn (fR ro) m P .any ops Q fuel listed a w
  |0,_,_,_,h=>h
  |fuel+1,listed,a,w,h=>⟨h.1,fun i hi=>by
    have h1:=h.2 i hi
    unfold wpOp at h1
    unfold wpOpIn
    split at h1
    · rename_i ho;simp only[ho];exact anyIn hn hQ fuel _ _ _ h1
    · rename_i o ho
      simp only[ho]
      by_cases hw:Region.wanted o (yielded ops a.tmps)=true
      · rw[if_pos hw] at h1⊢
        rcases h1 with h1| ⟨_,h1⟩
        · exact Oper.wpIn_mono (fun a w h=>anyIn hn hQ fuel _ a w h) (Qw7 (hn ho) h1)
        · obtain⟨a',w',h1⟩:=h1;exact(hQ _ _ h1).elim
      · rw[if_neg hw] at h1⊢
        exact⟨fun _ _=>trivial,anyIn hn hQ fuel _ _ _ h1⟩⟩
theorem aDr{id:Nat}(todo:List Nat)(G:Nat→Nat→Prop)(hm:P.follows .mixedOrders=true)(hl:todo.length=ops.size)(hn: ∀{i:Nat}{o:Oper},ops[i]? =some o→ ∀c,o.op≠ .defer c)(h:AD P n D C ops G [] todo Q env H):AW P n D C (Code.region id ops true) Q env H:=fun e w S r=>by
  refine cwI fun ro m=>Go.wpIn_mono (wpIn_region_any hm (anyIn (Q:=NoBad Q) hn (fun _ _ h=>h) _ _ _ _ (wpAny_of_S (G:=G) _ _ _ _ ?_))) (fun e a w h=>by cases e<;>first | exact h| exact h.elim)
  have :=h e w.drew S (r.ext (Qp4 w))
  rw[hl,show upTo ops.size []=Array.replicate ops.size false by
    apply Array.ext
    · simp [upTo]
    · intro i h1 h2;simp [upTo]] at this
  exact this
theorem adN(hc:Region.ready .any ops (upTo ops.size done)=[])(h:AX n D C Q .normal env H):AD P n D C ops G done [] Q env H:=fun e w S r=>⟨hc,(show Q .normal (mkA D n e) w from ex' (h e w S r))⟩
def wrB(ws:List FuncId)(ops:Array Oper)(i:Nat):Bool:=match((ops[i]?).map (·.op):Option Op) with
  |some (.store ..)=>true
  |some (.call {callee:= .builtin .append,..})=>true
  |some (.call {callee:= .builtin .copy,..})=>true
  |some (.call {callee:= .value (.func f),..})=>ws.contains f
  |_=>false
class TW (P:Program) (ws:outParam (List FuncId)):Prop
def G0(ws:List FuncId)(ops:Array Oper)(tb:List (Nat×Nat)):Nat→Nat→Prop:=fun j b=>wrB ws ops j=true∧ ∀b',(j,b')∈tb→b=b'
class TD (P:Program) (n id:Nat) (todo:outParam (List Nat)):Prop where
  ok:True
class TX (P:Program) (n id:Nat):Prop where
  ok:True
structure TXo (P:Program) (n id:Nat):Prop
theorem TXo.bad{P:Program}{n id:Nat}[TX P n id]:TXo P n id:=⟨⟩
theorem aDrI{ws:List FuncId}[c:TM P][TW P ws]{id:Nat}{todo:List Nat}[TD P n id todo]{l:List Oper}(h:AD P n D C l.toArray (G0 ws l.toArray []) [] todo Q env H)(hl:Nat.beq todo.length l.length=true:=by exact rfl)(hx:TXo P n id:=by(fail_if_success exact TXo.bad);exact⟨⟩)(hn:ndL l=true:=by exact rfl):AW P n D C (Code.region id l.toArray true) Q env H:=
  aDr _ _ c.mi (by simpa using hl) (ndL_nd hn) h
theorem aDrT{ws:List FuncId}[c:TM P][TW P ws]{id:Nat}{l:List Oper}(tb:List (Nat×Nat))(todo:List Nat)(h:AD P n D C l.toArray (G0 ws l.toArray tb) [] todo Q env H)(hl:Nat.beq todo.length l.length=true:=by exact rfl)(hn:ndL l=true:=by exact rfl):AW P n D C (Code.region id l.toArray true) Q env H:=
  aDr _ _ c.mi (by simpa using hl) (ndL_nd hn) h
theorem aDr0{ws:List FuncId}[c:TM P][TW P ws]{id:Nat}{l:List Oper}(h:AD P n D C l.toArray (G0 ws l.toArray []) [] (List.range l.length) Q env H)(hx:TXo P n id:=by(fail_if_success exact TXo.bad);exact⟨⟩)(hn:ndL l=true:=by exact rfl):AW P n D C (Code.region id l.toArray true) Q env H:=
  aDr _ _ c.mi (by simp) (ndL_nd hn) h
theorem aDr1{ws:List FuncId}[c:TM P][TW P ws]{id:Nat}{l:List Oper}(todo:List Nat)(h:AD P n D C l.toArray (G0 ws l.toArray []) [] todo Q env H)(hl:todo.length=l.length:=by rfl)(hn:ndL l=true:=by exact rfl):AW P n D C (Code.region id l.toArray true) Q env H:=
  aDr _ _ c.mi (by simpa using hl) (ndL_nd hn) h
theorem adE{m:Rk}(L:List Nat)(ho:ops[i]? =some o)(h:AE P n C env H m o a)(hd:o.dst=some d)(hg:AG n env ops o.guard true)(hc:flB ops done i=true)(hL:lateB ops done i L=true)
    (hm: ∀j∈loose ops done i L,∀e w S,Rel C env H S e w→ ∀b,m.of H S b→ ¬G j b)(k:AD P n D C ops G (i::done) todo Q (updA env d a) H):AD P n D C ops G done (i::todo) Q env H:=fun e w S r=>by
  obtain⟨v,h1,h2⟩:=h e w S r
  simp only[flB,Bool.and_eq_true] at hc
  have hlt: ∀b,m.of H S b→b<w.heap.size:=fun b hb=>by
    cases m with
    |no=>exact hb.elim
    |sh=>exact r.lt b hb
    |own j=>obtain⟨o,ho⟩:=hb;exact r.own.lt (List.mem_of_getElem? ho) rfl
  have hfree:=Region.free_spec ho hc.1.2
  refine wpS_first (R:=fun w1 w2=>w.heap.size≤w1.heap.size→w.heap.size≤w2.heap.size∧ ∀b,m.of H S b→w2.heap[b]? =w1.heap[b]?) (v:=v) (fun w1 hl=>⟨hl,fun _ _=>rfl⟩) (fun _ _ _ h1 h2 hl=>⟨(h2 (h1 hl).1).1,fun b hb=>((h2 (h1 hl).1).2 b hb).trans ((h1 hl).2 b hb)⟩) ho (Region.noSelect_spec hc.1.1) (fun _ _ _ h=>h) L (late_spec hL).1 _ _ _ _ ?_ (fun j hj=>upTo_get ((late_spec hL).2 j hj).1 ((late_spec hL).2 j hj).2) (by simpa using hc.2) (.inl ⟨by rw[ZD];exact hg e r.lits,fun w' hr=>by rw[Yy];exact(h2 w' fun b hb=>(hr (Nat.le_refl _)).2 b hb).un⟩) ?_
  · intro j oj hj hji hjL hun hno
    refine⟨hfree j oj hj hji hun hno,fun w1 w2 f hl=>⟨Nat.le_trans hl f.size,fun b hb=>f.block b (Nat.lt_of_lt_of_le (hlt b hb) hl) (hm j ?_ e w S r b hb)⟩⟩
    have hu:=upTo_getD hun
    unfold loose
    refine List.mem_filter.2 ⟨List.mem_range.2 hu.2,?_⟩
    simp only[hu.1,Bool.not_false,Bool.true_and,Bool.and_eq_true,bne_iff_ne,ne_eq,hji,not_false_eq_true,true_and,Bool.not_eq_true']
    rw[←Bool.not_eq_true,List.contains_iff_mem];exact hjL
  · rw[hd,Zp,upTo_set]
    exact k _ w S (r.upd h1)
theorem adS(ho:ops[i]? =some o)(hd:o.dst=some d)(hg:AG n env ops o.guard false)(hc:flB ops done i=true)(k:AD P n D C ops G (i::done) todo Q (updA env d (lit undef)) H):AD P n D C ops G done (i::todo) Q env H:=fun e w S r=>by
  simp only[flB,Bool.and_eq_true] at hc
  have hfree:=Region.free_spec ho hc.1.2
  refine wpS_first (R:=fun _ _=>True) (v:=undef) (fun _=>trivial) (fun _ _ _ _ _=>trivial) ho (Region.noSelect_spec hc.1.1) (fun _ _ _ h=>h) [] (fun _ h=>by cases h) _ _ _ _ (fun j oj hj hji _ hun hno=>⟨hfree j oj hj hji hun hno,fun _ _ _=>trivial⟩) (fun _ h=>by cases h) (by simpa using hc.2) (.inr ⟨by rw[ZD];exact hg e r.lits,rfl⟩) ?_
  rw[hd,Zp,upTo_set]
  exact k _ w S (r.upd rfl)
theorem adEn(ho:ops[i]? =some o)(h:AE P n C env H .no o a)(hd:o.dst=some d)(hg:AG n env ops o.guard true)(hc:flB ops done i=true)(k:AD P n D C ops G (i::done) todo Q (updA env d a) H):AD P n D C ops G done (i::todo) Q env H:=adE [] ho h hd hg hc rfl (fun _ _ _ _ _ _ _ h=>h.elim) k
theorem adEr{ws:List FuncId}{tb:List (Nat×Nat)}{m:Rk}(ho:ops[i]? =some o)(h:AE P n C env H m o a)(hd:o.dst=some d)(hg:AG n env ops o.guard true)(hc:(flB ops done i&&lateB ops done i (late ops done i)&& (loose ops done i (late ops done i)).all fun j=> !wrB ws ops j)=true)(k:AD P n D C ops (G0 ws ops tb) (i::done) todo Q (updA env d a) H):AD P n D C ops (G0 ws ops tb) done (i::todo) Q env H:=by
  rw[Bool.and_eq_true,Bool.and_eq_true] at hc
  refine adE _ ho h hd hg hc.1.1 hc.1.2 (fun j hj _ _ _ _ _ _ hG=> ?_) k
  have :=List.all_eq_true.1 hc.2 j hj
  rw[hG.1] at this;cases this
theorem adEw{ws:List FuncId}{tb js:List (Nat×Nat)}{q:Nat}(ho:ops[i]? =some o)(h:AE P n C env H (.own q) o a)(hd:o.dst=some d)(hg:AG n env ops o.guard true)(hc:(flB ops done i&&lateB ops done i (late ops done i)&& (loose ops done i (late ops done i)).all fun j=> !wrB ws ops j|| (js.map (·.1)).contains j)=true)
    (hj: ∀p∈js,p.2≠q∧ ∃b o',H[p.2]? =some (some b,o')∧(p.1,b)∈tb)(k:AD P n D C ops (G0 ws ops tb) (i::done) todo Q (updA env d a) H):AD P n D C ops (G0 ws ops tb) done (i::todo) Q env H:=by
  rw[Bool.and_eq_true,Bool.and_eq_true] at hc
  refine adE _ ho h hd hg hc.1.1 hc.1.2 (fun j hjl e w S r b hb hG=> ?_) k
  have h1:=List.all_eq_true.1 hc.2 j hjl
  rw[hG.1] at h1
  simp only[Bool.not_true,Bool.false_or,List.contains_iff_mem,List.mem_map] at h1
  obtain⟨p,hp,rfl⟩:=h1
  obtain⟨hne,b',o',h2,h3⟩:=hj p hp
  obtain⟨o2,h4⟩:=hb
  have h5:=hG.2 b' h3
  subst h5
  obtain⟨l1,e1⟩:=List.getElem?_eq_some_iff.1 h2
  obtain⟨l2,e2⟩:=List.getElem?_eq_some_iff.1 h4
  have hnd:=List.pairwise_iff_getElem.1 r.own.nd
  rcases Nat.lt_or_ge p.2 q with h6|h6
  · exact hnd p.2 q l1 l2 h6 b (by rw[e1]) (by rw[e2])
  · exact hnd q p.2 l2 l1 (by omega) b (by rw[e2]) (by rw[e1])
theorem adO{W:Nat→Prop}{Ψ:((Nat→AV)→Hp→Prop)→Prop}(ho:ops[i]? =some o)(h:AO P n D C env H W o Ψ)(hg:AG n env ops o.guard true)(hc:Region.ready .any ops (upTo ops.size done)=[i])(hw: ∀b,W b→G i b)
    (k:Ψ (AD P n D C ops G (i::done) todo Q)):AD P n D C ops G done (i::todo) Q env H:=fun e w S r=>by
  refine⟨fun h=>(by rw[h] at hc;cases hc),fun j hj=> ?_⟩
  rw[hc] at hj
  obtain rfl:j=i:=by simpa using hj
  unfold wpOp
  simp only[ho]
  rw[ZD,hg e r.lits,if_pos rfl]
  refine .inl ?_
  have :=h e w S (NoBad Q) (fun a' w'=>Frm (G j) w w'∧wpS P ops (NoBad Q) G todo.length ((upTo ops.size done).setIfInBounds j true) a' w') _ r k fun env' H' S' e' w' hk f r'=>⟨f.mono fun b _=>hw b,by rw[upTo_set];exact hk e' w' S' r'⟩
  unfold OpW at this;exact this.2
theorem adRe{todo':List Nat}(hl:todo'.length=todo.length)(h:AD P n D C ops G done todo' Q env H):AD P n D C ops G done todo Q env H:=by unfold AD at h⊢;rwa [hl] at h
theorem erase_len{l:List Nat}{k i:Nat}(hk:l[k]? =some i):(i::l.eraseIdx k).length=l.length:=by
  have hlt:=(List.getElem?_eq_some_iff.1 hk).1
  rw[List.length_cons,List.length_eraseIdx,if_pos hlt];omega
theorem adPn(k:Nat)(hk:todo[k]? =some i)(hc:flB ops done i=true)(ho:ops[i]? =some o)(h:AE P n C env H .no o a)(hd:o.dst=some d)(hg:AG n env ops o.guard true)(kk:AD P n D C ops G (i::done) (todo.eraseIdx k) Q (updA env d a) H):AD P n D C ops G done todo Q env H:=
  adRe (erase_len hk) (adEn ho h hd hg hc kk)
theorem adPr{ws:List FuncId}{tb:List (Nat×Nat)}{m:Rk}(k:Nat)(hk:todo[k]? =some i)(hc:(flB ops done i&&lateB ops done i (late ops done i)&& (loose ops done i (late ops done i)).all fun j=> !wrB ws ops j)=true)(ho:ops[i]? =some o)(h:AE P n C env H m o a)(hd:o.dst=some d)(hg:AG n env ops o.guard true)(kk:AD P n D C ops (G0 ws ops tb) (i::done) (todo.eraseIdx k) Q (updA env d a) H):AD P n D C ops (G0 ws ops tb) done todo Q env H:=
  adRe (erase_len hk) (adEr ho h hd hg hc kk)
def Stp(P:Program)(n:Nat)(D:List Deferred)(C:Ctx)(ops:Array Oper)(G:Nat→Nat→Prop)(done todo:List Nat)(Q:Exit→Act→World→Prop)(env:Nat→AV)(H:Hp)(i:Nat):Prop:=
  ∃o W Ψ,ops[i]? =some o∧AO P n D C env H W o Ψ∧AG n env ops o.guard true∧(∀b,W b→G i b)∧ ∃todo',todo'.length+1=todo.length∧Ψ (AD P n D C ops G (i::done) todo' Q)
theorem adOn{L:List Nat}(hc:Region.ready .any ops (upTo ops.size done)=L)(hL:0<L.length)(hs: ∀i∈L,Stp P n D C ops G done todo Q env H i):AD P n D C ops G done todo Q env H:=fun e w S r=>by
  cases todo with
  |nil=>
    cases L with
    |nil=>simp at hL
    |cons i _=>obtain⟨_,_,_,_,_,_,_,_,h,_⟩:=hs i (by simp);simp at h
  |cons i0 todo=>
    refine⟨fun h=>(by rw[h] at hc;subst hc;simp at hL),fun j hj=> ?_⟩
    rw[hc] at hj
    obtain⟨o,W,Ψ,ho,h,hg,hw,todo',hl,k⟩:=hs j hj
    unfold wpOp
    simp only[ho]
    rw[ZD,hg e r.lits,if_pos rfl]
    refine .inl ?_
    have :=h e w S (NoBad Q) (fun a' w'=>Frm (G j) w w'∧wpS P ops (NoBad Q) G todo.length ((upTo ops.size done).setIfInBounds j true) a' w') _ r k fun env' H' S' e' w' hk f r'=>⟨f.mono fun b _=>hw b,by
      have h2:=hk e' w' S' r'
      rw[upTo_set,show todo.length=todo'.length by simpa using hl.symm];exact h2⟩
    unfold OpW at this;exact this.2
theorem stp(k:Nat){W:Nat→Prop}{Ψ:((Nat→AV)→Hp→Prop)→Prop}(hk:todo[k]? =some i)(ho:ops[i]? =some o)(h:AO P n D C env H W o Ψ)(hg:AG n env ops o.guard true)(hw: ∀b,W b→G i b)(kk:Ψ (AD P n D C ops G (i::done) (todo.eraseIdx k) Q)):Stp P n D C ops G done todo Q env H i:=
  ⟨o,W,Ψ,ho,h,hg,hw,_,by have :=erase_len hk;simpa using this,kk⟩
def rdy(ops:Array Oper)(done:List Nat):List Nat:=(List.range ops.size).filter fun i=> !done.contains i&& (match ops[i]? with |some o=>o.after.toList.all fun e=> !Region.binds .any e|| (Nat.blt e.on ops.size&&done.contains e.on)|none=>false)
theorem rdy_eq:Region.ready .any ops (upTo ops.size done)=rdy ops done:=by
  unfold Region.ready rdy
  refine List.filter_congr fun i hi=> ?_
  have hi':=List.mem_range.1 hi
  have e1:(upTo ops.size done).getD i true=done.contains i:=by unfold upTo;simp [Array.getD,hi']
  rw[e1]
  cases ho:ops[i]? with
  |none=>rfl
  |some o=>
    simp only[Option.map_some,Option.getD_some,Array.all_toList]
    congr 2
    funext e
    congr 1
    unfold upTo
    rcases Nat.lt_or_ge e.on ops.size with h|h
    · simp [Array.getD,h,Nat.blt_eq]
    · simp [Array.getD,show ¬e.on<ops.size by omega,Nat.blt_eq]
theorem adO2{j:Nat}(hc:rdy ops done=[i,j])(h1:Stp P n D C ops G done todo Q env H i)(h2:Stp P n D C ops G done todo Q env H j):AD P n D C ops G done todo Q env H:=
  adOn (rdy_eq.trans hc) (by simp) fun k hk=>by rcases List.mem_cons.1 hk with rfl|hk;exact h1;obtain rfl:=List.mem_singleton.1 hk;exact h2
theorem adO3{j m:Nat}(hc:rdy ops done=[i,j,m])(h1:Stp P n D C ops G done todo Q env H i)(h2:Stp P n D C ops G done todo Q env H j)(h3:Stp P n D C ops G done todo Q env H m):AD P n D C ops G done todo Q env H:=
  adOn (rdy_eq.trans hc) (by simp) fun k hk=>by
    rcases List.mem_cons.1 hk with rfl|hk
    · exact h1
    rcases List.mem_cons.1 hk with rfl|hk
    · exact h2
    obtain rfl:=List.mem_singleton.1 hk;exact h3
theorem adO1(hc:rdy ops done=[i])(h1:Stp P n D C ops G done todo Q env H i):AD P n D C ops G done todo Q env H:=
  adOn (rdy_eq.trans hc) (by simp) fun k hk=>by obtain rfl:=List.mem_singleton.1 hk;exact h1
end
end Go.Am
namespace Go.Am
open Go.RowKit Go.Gx
section
variable{P:Program}{n:Nat}{D:List Deferred}{C:Ctx}{env:Nat→AV}{H:Hp}{Q:Exit→Act→World→Prop}{d:Option Nat}{d':Nat}{ty:TypeId}{pos:String}{af:Array Edge}{gd:Option (Nat×Bool)}{x y:Operand}{t t':TypeId}{ops:Array Oper}{l:List Oper}{o:Oper}{α:Type}
class Zr(α:Type)(x:outParam α):Prop
instance:Zr Nat 0:=⟨⟩
instance:Zr Int 0:=⟨⟩
instance:Zr Bool false:=⟨⟩
instance{α:Type}:Zr (List α) []:=⟨⟩
theorem aeAddN{k:IntKind}{a b:Nat}(hx:av n env x=I k (a:Int))(hy:av n env y=I k (b:Int))(h:k.wrap ((a:Int)+b)=((a+b:Nat):Int)):AE P n C env H .no ⟨d,.binOp .add t x y t',ty,pos,af,gd⟩ (I k ((a+b:Nat):Int)):=aeAdd _ hx hy h
theorem aeAddL{k:IntKind}{a m:Nat}(hx:av n env x=I k (a:Int))(hy:av n env y=I k (OfNat.ofNat m:Int))(h:k.wrap ((a:Int)+(OfNat.ofNat m:Int))=((a+(OfNat.ofNat m:Nat):Nat):Int)):AE P n C env H .no ⟨d,.binOp .add t x y t',ty,pos,af,gd⟩ (I k ((a+(OfNat.ofNat m:Nat):Nat):Int)):=aeAdd _ hx hy h
theorem aeSubN{k:IntKind}{a b:Nat}(hx:av n env x=I k (a:Int))(hy:av n env y=I k (b:Int))(hb:b≤a)(h:k.wrap ((a:Int) -b)=((a -b:Nat):Int)):AE P n C env H .no ⟨d,.binOp .sub t x y t',ty,pos,af,gd⟩ (I k ((a -b:Nat):Int)):=aeSub _ hx hy h
theorem aeSubL{k:IntKind}{a m:Nat}(hx:av n env x=I k (a:Int))(hy:av n env y=I k (OfNat.ofNat m:Int))(hb:(OfNat.ofNat m:Nat)≤a)(h:k.wrap ((a:Int) -(OfNat.ofNat m:Int))=((a -(OfNat.ofNat m:Nat):Nat):Int)):AE P n C env H .no ⟨d,.binOp .sub t x y t',ty,pos,af,gd⟩ (I k ((a -(OfNat.ofNat m:Nat):Nat):Int)):=aeSub _ hx hy h
theorem aeMulN{k:IntKind}{a b:Nat}(hx:av n env x=I k (a:Int))(hy:av n env y=I k (b:Int))(h:k.wrap ((a:Int)*b)=((a*b:Nat):Int)):AE P n C env H .no ⟨d,.binOp .mul t x y t',ty,pos,af,gd⟩ (I k ((a*b:Nat):Int)):=aeMul _ hx hy h
theorem aeQuoN{k:IntKind}{a b:Nat}(hx:av n env x=I k (a:Int))(hy:av n env y=I k (b:Int))(hb:b≠0)(h:k.wrap (a:Int)=(a:Int))(hk:k= .i64∨k= .u32∨k= .u64):AE P n C env H .no ⟨d,.binOp .quo t x y t',ty,pos,af,gd⟩ (I k ((a/b:Nat):Int)):=by
  refine aeQuo _ hx hy (by omega) ?_
  have h1:=Nat.div_le_self a b
  rw[←Int.ofNat_tdiv]
  generalize a/b=q at *
  rcases hk with rfl|rfl|rfl
  · refine Qwb ⟨rfl,?_⟩
    have :IntKind.i64.wrap (a:Int)≤9223372036854775807:=by simp only[IntKind.wrap,IntKind.bits,IntKind.signed,Bool.true_and];split<;>rename_i hh<;>simp at hh<;>omega
    omega
  · refine Qwc ⟨rfl,?_⟩
    have :IntKind.u32.wrap (a:Int)<4294967296:=by simp only[IntKind.wrap,IntKind.bits,IntKind.signed];simp;omega
    omega
  · refine Qur ⟨rfl,?_⟩
    have :IntKind.u64.wrap (a:Int)<18446744073709551616:=by simp only[IntKind.wrap,IntKind.bits,IntKind.signed];simp;omega
    omega
theorem aeRemN{k:IntKind}{a b:Nat}(hx:av n env x=I k (a:Int))(hy:av n env y=I k (b:Int))(hb:b≠0):AE P n C env H .no ⟨d,.binOp .rem t x y t',ty,pos,af,gd⟩ (I k ((a % b:Nat):Int)):=aeRem _ hx hy (by omega) (by rw[Int.ofNat_tmod])
theorem aeQuoL{k:IntKind}{a m:Nat}(hx:av n env x=I k (a:Int))(hy:av n env y=I k (OfNat.ofNat m:Int))(hb:(OfNat.ofNat m:Nat)≠0)(h:k.wrap (a:Int)=(a:Int))(hk:k= .i64∨k= .u32∨k= .u64):AE P n C env H .no ⟨d,.binOp .quo t x y t',ty,pos,af,gd⟩ (I k ((a/ (OfNat.ofNat m:Nat):Nat):Int)):=aeQuoN (b:=m) hx hy hb h hk
theorem aeRemL{k:IntKind}{a m:Nat}(hx:av n env x=I k (a:Int))(hy:av n env y=I k (OfNat.ofNat m:Int))(hb:(OfNat.ofNat m:Nat)≠0):AE P n C env H .no ⟨d,.binOp .rem t x y t',ty,pos,af,gd⟩ (I k ((a % (OfNat.ofNat m:Nat):Nat):Int)):=aeRemN (b:=m) hx hy hb
theorem aeMulL{k:IntKind}{a m:Nat}(hx:av n env x=I k (a:Int))(hy:av n env y=I k (OfNat.ofNat m:Int))(h:k.wrap ((a:Int)*(OfNat.ofNat m:Int))=((a*(OfNat.ofNat m:Nat):Nat):Int)):AE P n C env H .no ⟨d,.binOp .mul t x y t',ty,pos,af,gd⟩ (I k ((a*(OfNat.ofNat m:Nat):Nat):Int)):=aeMul _ hx hy h
theorem aeLMul{k:IntKind}{a m:Nat}(hx:av n env x=I k (OfNat.ofNat m:Int))(hy:av n env y=I k (a:Int))(h:k.wrap ((OfNat.ofNat m:Int)*(a:Int))=(((OfNat.ofNat m:Nat)*a:Nat):Int)):AE P n C env H .no ⟨d,.binOp .mul t x y t',ty,pos,af,gd⟩ (I k (((OfNat.ofNat m:Nat)*a:Nat):Int)):=aeMul _ hx hy h
theorem aeShrN{k k':IntKind}{a s:Nat}(hx:av n env x=I k (a:Int))(hy:av n env y=I k' (s:Int))(hs:Nat.ble s k.bits=true):AE P n C env H .no ⟨d,.binOp .shr t x y t',ty,pos,af,gd⟩ (I k ((a/2^s:Nat):Int)):=by
  refine aeShr _ hx hy (by omega) ?_
  rw[Int.toNat_natCast,Nat.min_eq_left (Nat.le_of_ble_eq_true hs),Int.fdiv_eq_ediv_of_nonneg _ (by exact Int.pow_nonneg (by omega))]
  simp
theorem aeShrV{k':IntKind}{a s:Nat}(hx:av n env x=I .u64 (a:Int))(hy:av n env y=I k' (s:Int))(hs:s≤64):AE P n C env H .no ⟨d,.binOp .shr t x y t',ty,pos,af,gd⟩ (I .u64 ((a/2^s:Nat):Int)):=aeShrN hx hy (Nat.ble_eq_true_of_le hs)
theorem aeShrL{k k':IntKind}{a s:Nat}(hx:av n env x=I k (a:Int))(hy:av n env y=I k' (OfNat.ofNat s:Int))(hs:Nat.ble s k.bits=true):AE P n C env H .no ⟨d,.binOp .shr t x y t',ty,pos,af,gd⟩ (I k ((a/2^ (OfNat.ofNat s:Nat):Nat):Int)):=aeShrN (s:=s) hx hy hs
theorem aeCvM{ds:TypeDesc}{k:IntKind}{a:Nat}[c:TU P t ds][c':TU P t' (.int .u32)](hx:av n env x=I k (a:Int)):AE P n C env H .no ⟨d,.convert t t' x,ty,pos,af,gd⟩ (I .u32 ((a % 4294967296:Nat):Int)):=aeConv _ hx (Qpl (by omega))
theorem aeAddM{a b:Nat}(hx:av n env x=I .u32 (a:Int))(hy:av n env y=I .u32 (b:Int)):AE P n C env H .no ⟨d,.binOp .add t x y t',ty,pos,af,gd⟩ (I .u32 (((a+b) % 4294967296:Nat):Int)):=aeAdd _ hx hy (Qpl (by omega))
theorem aeSubM{a b:Nat}(hx:av n env x=I .u32 (a:Int))(hy:av n env y=I .u32 (b:Int))(hb:b<4294967296):AE P n C env H .no ⟨d,.binOp .sub t x y t',ty,pos,af,gd⟩ (I .u32 (((a+4294967296 -b) % 4294967296:Nat):Int)):=aeSub _ hx hy (Qpl (by omega))
theorem aeShlN{k':IntKind}{a s:Nat}(hx:av n env x=I .u64 (a:Int))(hy:av n env y=I k' (s:Int))(hs:s≤64)(h:a*2^s<18446744073709551616):AE P n C env H .no ⟨d,.binOp .shl t x y t',ty,pos,af,gd⟩ (I .u64 ((a*2^s:Nat):Int)):=aeShl _ hx hy (by omega) (QtR rfl rfl hs h)
theorem aeShlL{k':IntKind}{a s:Nat}(hx:av n env x=I .u64 (a:Int))(hy:av n env y=I k' (OfNat.ofNat s:Int))(hs:Nat.ble s 64=true)(h:a*2^ (OfNat.ofNat s:Nat)<18446744073709551616):AE P n C env H .no ⟨d,.binOp .shl t x y t',ty,pos,af,gd⟩ (I .u64 ((a*2^ (OfNat.ofNat s:Nat):Nat):Int)):=aeShlN (s:=s) hx hy (Nat.le_of_ble_eq_true hs) h
theorem aeShl1{k':IntKind}{s:Nat}(hx:av n env x=I .u64 1)(hy:av n env y=I k' (s:Int))(hs:s<64):AE P n C env H .no ⟨d,.binOp .shl t x y t',ty,pos,af,gd⟩ (I .u64 ((2^s:Nat):Int)):=by
  have h:2^s<18446744073709551616:=Nat.pow_lt_pow_right (by decide) hs
  have :=aeShlN (P:=P) (C:=C) (H:=H) (d:=d) (ty:=ty) (pos:=pos) (af:=af) (gd:=gd) (t:=t) (t':=t') (a:=1) hx hy (by omega) (by rw[Nat.one_mul];exact h)
  rwa [Nat.one_mul] at this
section
variable{a b:Nat}
theorem aeAnd(hx:av n env x=I .u32 (a:Int))(hy:av n env y=I .u32 (b:Int)):AE P n C env H .no ⟨d,.binOp .and t x y t',ty,pos,af,gd⟩ (I .u32 (((BitVec.ofNat 32 a&&&BitVec.ofNat 32 b).toNat:Nat):Int)):=aeI hx hy fun _ _ h1 h2=>QsU h1 h2
theorem aeOr(hx:av n env x=I .u32 (a:Int))(hy:av n env y=I .u32 (b:Int)):AE P n C env H .no ⟨d,.binOp .or t x y t',ty,pos,af,gd⟩ (I .u32 (((BitVec.ofNat 32 a|||BitVec.ofNat 32 b).toNat:Nat):Int)):=aeI hx hy fun _ _ h1 h2=>QrI h1 h2
theorem aeXor(hx:av n env x=I .u32 (a:Int))(hy:av n env y=I .u32 (b:Int)):AE P n C env H .no ⟨d,.binOp .xor t x y t',ty,pos,af,gd⟩ (I .u32 (((BitVec.ofNat 32 a^^^BitVec.ofNat 32 b).toNat:Nat):Int)):=aeI hx hy fun _ _ h1 h2=>QsY h1 h2
theorem aeInv(hx:av n env x=I .u32 (a:Int)):AE P n C env H .no ⟨d,.unOp .xor t x,ty,pos,af,gd⟩ (I .u32 (((~~~BitVec.ofNat 32 a).toNat:Nat):Int)):=fun _ _ _ r=>⟨_,rfl,fun _ _=>QsW (r.lit hx)⟩
theorem aeOr64(c:Nat)(hx:av n env x=I .u64 (a:Int))(hy:av n env y=I .u64 (b:Int))(ha:a<18446744073709551616)(hb:b<18446744073709551616)(hc:a|||b=c):AE P n C env H .no ⟨d,.binOp .or t x y t',ty,pos,af,gd⟩ (I .u64 (c:Int)):=aeI hx hy fun _ _ h1 h2=>Qu1 h1 h2 ha hb hc
theorem aeOr32(c:Nat)(hx:av n env x=I .u32 (a:Int))(hy:av n env y=I .u32 (b:Int))(ha:a<4294967296)(hb:b<4294967296)(hc:a|||b=c):AE P n C env H .no ⟨d,.binOp .or t x y t',ty,pos,af,gd⟩ (I .u32 (c:Int)):=aeI hx hy fun _ _ h1 h2=>QsX h1 h2 ha hb hc
end
theorem aeMulU{a b:Nat}(hx:av n env x=I .u32 (a:Int))(hy:av n env y=I .u32 (b:Int)):AE P n C env H .no ⟨d,.binOp .mul t x y t',ty,pos,af,gd⟩ (I .u32 ((a*b % 4294967296:Nat):Int)):=aeMul _ hx hy (Qpl (by omega))
theorem aeMulV{a m:Nat}(hx:av n env x=I .u32 (a:Int))(hy:av n env y=I .u32 (OfNat.ofNat m:Int)):AE P n C env H .no ⟨d,.binOp .mul t x y t',ty,pos,af,gd⟩ (I .u32 ((a*(OfNat.ofNat m:Nat) % 4294967296:Nat):Int)):=aeMulU (b:=m) hx hy
theorem zwB{x z:Int}(h:x=z∧0≤z∧z<256):IntKind.u8.wrap x=z:=by
  obtain⟨rfl,h1,h2⟩:=h
  simp [IntKind.wrap,IntKind.bits,IntKind.signed]
  omega
section
variable{k:IntKind}{ts:Array TypeId}
theorem aeMaxN{a b:Nat}(hx:av n env x=I k (a:Int))(hy:av n env y=I k (b:Int)):AE P n C env H .no ⟨d,.call {callee:= .builtin .max,args:= #[x,y],argTypes:=ts},ty,pos,af,gd⟩ (I k ((max a b:Nat):Int)):=aeMax _ hx hy (by split<;>omega)
theorem aeMinN{a b:Nat}(hx:av n env x=I k (a:Int))(hy:av n env y=I k (b:Int)):AE P n C env H .no ⟨d,.call {callee:= .builtin .min,args:= #[x,y],argTypes:=ts},ty,pos,af,gd⟩ (I k ((min a b:Nat):Int)):=aeMin _ hx hy (by split<;>omega)
theorem aeMaxZ{z:Int}(hx:av n env x=I k 0)(hy:av n env y=I k z):AE P n C env H .no ⟨d,.call {callee:= .builtin .max,args:= #[x,y],argTypes:=ts},ty,pos,af,gd⟩ (I k ((z.toNat:Nat):Int)):=aeMax _ hx hy (by split<;>omega)
theorem aeMaxZ'{z:Int}(hx:av n env x=I k z)(hy:av n env y=I k 0):AE P n C env H .no ⟨d,.call {callee:= .builtin .max,args:= #[x,y],argTypes:=ts},ty,pos,af,gd⟩ (I k ((z.toNat:Nat):Int)):=aeMax _ hx hy (by split<;>omega)
end
theorem aeTab{s:ByteArray}{k:IntKind}{i:Nat}[c:TU P t .string](hx:av n env x=lit (.string s))(hs:QwU s=true)(hy:av n env y=I k (i:Int))(hi:i<256):AE P n C env H .no ⟨d,.index t x y,ty,pos,af,gd⟩ (I .u8 ((bl8 i:Nat):Int)):=fun _ _ _ r=>⟨_,rfl,fun _ _=>QwB i c.un (r.lit hx) hs (r.lit hy) rfl hi⟩
theorem evArr'{e:Nat→Value}{w:World}{el:TypeId}{ix:Operand}{b len:Nat}{k:IntKind}(i:Nat)(ht:P.underlying t=some (.array len el))(hs: ∀w,(sizeOf el).run P w= .ok 1 w)
    (hx:ev n e x= .pointer (some ⟨b,0,none⟩))(hi:ev n e ix= .int k (i:Int))(hlt:i<len):Ev P n e ⟨d,.indexAddr t x ix,ty,pos,af,gd⟩ w (.pointer (some ⟨b,i,none⟩)):=by
  have h1:(0:Int)≤(i:Int)∧(i:Int)<(len:Int):=⟨by omega,by omega⟩
  simp [Ev,execOp,hx,hi,Instr.indexAt,Instr.sureAddr,asIntOf,run_underlying ht,hs,hlt,addr_add]
theorem aeIxA{el:TypeId}{g len:Nat}{k:IntKind}{q:Int}[c:TU P t (.array len el)][c':TS P el 1](i:Nat)(hx:av n env x=lpt 1 g 0)(hy:av n env y=I k q)(hq:q=(i:Int))(hi:i<len):AE P n C env H .no ⟨d,.indexAddr t x y,ty,pos,af,gd⟩ (lpt 1 g i):=fun e w S r=>by
  subst hq
  refine⟨_,rfl,fun w' _=> ?_⟩
  have h1:ev n e x= .pointer (some ⟨g,0,none⟩):=(r.lit hx).trans (by simp)
  have :=evArr' (d:=d) (ty:=ty) (pos:=pos) (af:=af) (gd:=gd) (w:=w') i c.un c'.sz h1 (r.lit hy) hi
  simpa using this
theorem aeIxT{el:TypeId}{k:IntKind}{i:Nat}[c:TU P t (.array 32 el)][c':TS P el 1](hT:env gS=gT)(hy:av n env y=I k (i:Int))(hi:i<32):AE P n C env H .no ⟨d,.indexAddr t (.global 0) y,ty,pos,af,gd⟩ (ep (I .u8 ((deBr.getD i 0:Nat):Int))):=fun e w S r=>by
  obtain⟨h1,cs,t1,f,h2,h3⟩:=(hT▸r.sl gS:gT.rep w S (e gS))
  refine⟨_,⟨0,i,cs,t1,f,.int .u8 ((deBr.getD i 0:Nat):Int),rfl,h1,h2,rfl,(by intro h;cases h),?_⟩,fun w' _=>evArr' i c.un c'.sz rfl (r.lit hy) hi⟩
  have hl:i<deBr.length:=hi
  have h4:(cs.toList.take 32)[i]? =some (.int .u8 ((deBr.getD i 0:Nat):Int)):=by rw[h3,List.getElem?_map,List.getElem?_eq_getElem hl];simp [List.getD,List.getElem?_eq_getElem hl]
  rw[List.getElem?_take,if_pos hi] at h4
  show(cs.toList.drop i).take 1=[_]
  obtain⟨h5,h6⟩:=List.getElem?_eq_some_iff.1 h4
  rw[List.drop_eq_getElem_cons h5,h6]
  rfl
theorem aeOrL{a m b:Nat}(hx:av n env x=I .u64 ((a*2^ (OfNat.ofNat m:Nat):Nat):Int))(hy:av n env y=I .u64 (b:Int))(ha:a*2^ (OfNat.ofNat m:Nat)<18446744073709551616)(hb:b<2^ (OfNat.ofNat m:Nat))(hb':b<18446744073709551616):AE P n C env H .no ⟨d,.binOp .or t x y t',ty,pos,af,gd⟩ (I .u64 ((a*2^ (OfNat.ofNat m:Nat)+b:Nat):Int)):=
  aeOr64 _ hx hy ha hb' (by rw[Nat.mul_comm];exact Qod _ _ _ hb)
theorem aeOrH{a m b:Nat}(hx:av n env x=I .u64 (b:Int))(hy:av n env y=I .u64 ((a*2^ (OfNat.ofNat m:Nat):Nat):Int))(ha:a*2^ (OfNat.ofNat m:Nat)<18446744073709551616)(hb:b<2^ (OfNat.ofNat m:Nat))(hb':b<18446744073709551616):AE P n C env H .no ⟨d,.binOp .or t x y t',ty,pos,af,gd⟩ (I .u64 ((b+a*2^ (OfNat.ofNat m:Nat):Nat):Int)):=
  aeOr64 _ hx hy hb' ha (by rw[Nat.or_comm,Nat.mul_comm,Qod _ _ _ hb,Nat.add_comm])
theorem aeBit{a:Nat}(hx:av n env x=I .u64 (a:Int))(hy:av n env y=I .u64 1)(ha:a<18446744073709551616):AE P n C env H .no ⟨d,.binOp .and t x y t',ty,pos,af,gd⟩ (I .u64 ((a % 2:Nat):Int)):=aeI hx hy fun _ _ h1 h2=>by
  have e1:(Op.intBits .and .u64 (a:Int) 1)=pure (.int .u64 (IntKind.u64.wrap ((BitVec.ofInt 64 (a:Int)&&&BitVec.ofInt 64 1).toNat:Int))):=rfl
  have e2:(BitVec.ofInt 64 (a:Int)&&&BitVec.ofInt 64 1).toNat=a % 2:=by
    have h1:BitVec.ofInt 64 (a:Int)=BitVec.ofNat 64 a:=by simp
    have h2:BitVec.ofInt 64 1=BitVec.ofNat 64 1:=by decide
    rw[h1,h2,BitVec.toNat_and,BitVec.toNat_ofNat,BitVec.toNat_ofNat,Nat.mod_eq_of_lt (by omega)]
    exact Nat.and_one_is_mod a
  rw[e2,Qur (z:=((a % 2:Nat):Int)) ⟨rfl,by omega,by omega⟩] at e1
  simp only[Ev,execOp,h1,h2,eqGuard,binOp,e1]
  simp
theorem aeBitI{a:Nat}(hx:av n env x=I .i64 (a:Int))(hy:av n env y=I .i64 1)(ha:a<9223372036854775808):AE P n C env H .no ⟨d,.binOp .and t x y t',ty,pos,af,gd⟩ (I .i64 ((a % 2:Nat):Int)):=aeI hx hy fun _ _ h1 h2=>by
  have e1:(Op.intBits .and .i64 (a:Int) 1)=pure (.int .i64 (IntKind.i64.wrap ((BitVec.ofInt 64 (a:Int)&&&BitVec.ofInt 64 1).toNat:Int))):=rfl
  have e2:(BitVec.ofInt 64 (a:Int)&&&BitVec.ofInt 64 1).toNat=a % 2:=by
    have h1:BitVec.ofInt 64 (a:Int)=BitVec.ofNat 64 a:=by simp
    have h2:BitVec.ofInt 64 1=BitVec.ofNat 64 1:=by decide
    rw[h1,h2,BitVec.toNat_and,BitVec.toNat_ofNat,BitVec.toNat_ofNat,Nat.mod_eq_of_lt (by omega)]
    exact Nat.and_one_is_mod a
  rw[e2,Qwb (z:=((a % 2:Nat):Int)) ⟨rfl,by omega,by omega⟩] at e1
  simp only[Ev,execOp,h1,h2,eqGuard,binOp,e1]
  simp
theorem aeNegU{a:Nat}(hx:av n env x=I .u32 (a:Int))(h0:0<a)(h:a<4294967296):AE P n C env H .no ⟨d,.unOp .neg t x,ty,pos,af,gd⟩ (I .u32 ((4294967296 -a:Nat):Int)):=aeNeg _ hx (Qpl (by omega))
theorem aeLenM{el:TypeId}[c:TU P t (.slice el)]{z:Nat}{f:α→AV}{l:List α}(hx:av n env x=sl z (l.map f)):AE P n C env H .no ⟨d,.call {callee:= .builtin .len,args:= #[x],argTypes:= #[t]},ty,pos,af,gd⟩ (I .i64 (l.length:Int)):=by
  have :=aeLen (P:=P) (C:=C) (H:=H) (d:=d) (ty:=ty) (pos:=pos) (af:=af) (gd:=gd) (t:=t) (el:=el) hx;rwa [List.length_map] at this
theorem getD_map{f:α→AV}{l:List α}{i:Nat}(x0:α)(hi:i<l.length):(l.map f)[i]? =some (f (l.getD i x0)):=by simp [List.getD,hi]
theorem aeIxM{el:TypeId}{z:Nat}[c:TU P t (.slice el)][c':TS P el z]{x0:α}[Zr α x0]{f:α→AV}{l:List α}{k:IntKind}{q:Int}(i:Nat)(hx:av n env x=sl z (l.map f))(hy:av n env y=I k q)(hq:q=(i:Int))(hi:i<l.length):
    AE P n C env H .no ⟨d,.indexAddr t x y,ty,pos,af,gd⟩ (ep (f (l.getD i x0))):=aeIx (el:=el) i hx hy hq (getD_map x0 hi)
theorem aeIxS{el:TypeId}{z:Nat}[c:TU P t (.slice el)][c':TS P el z]{x0:α}[Zr α x0]{f:α→AV}{l:List α}{k:IntKind}{q m:Nat}(hx:av n env x=sl z (l.map f))(hy:av n env y=I k ((q:Int) -(OfNat.ofNat m:Int)))(hm:(OfNat.ofNat m:Nat)≤q)(hi:q -(OfNat.ofNat m:Nat)<l.length):
    AE P n C env H .no ⟨d,.indexAddr t x y,ty,pos,af,gd⟩ (ep (f (l.getD (q -(OfNat.ofNat m:Nat)) x0))):=aeIxM (el:=el) _ hx hy (show(q:Int) -((OfNat.ofNat m:Nat):Int)=_ by omega) hi
theorem aeIxSO{el:TypeId}{z:Nat}[c:TU P t (.slice el)][c':TS P el z]{g n1 c1:Nat}{k:IntKind}{q m:Nat}(hx:av n env x=lsl z g 0 n1 c1)(hy:av n env y=I k ((q:Int) -(OfNat.ofNat m:Int)))(hm:(OfNat.ofNat m:Nat)≤q)(hi:q -(OfNat.ofNat m:Nat)<n1):
    AE P n C env H .no ⟨d,.indexAddr t x y,ty,pos,af,gd⟩ (lpt z g (q -(OfNat.ofNat m:Nat))):=aeIxO0 (el:=el) _ hx hy (show(q:Int) -((OfNat.ofNat m:Nat):Int)=_ by omega) hi
theorem aeLdM{s:Sh}[c:TL P t s]{z g i:Nat}{x0:α}[Zr α x0]{f:α→AV}{l:List α}(hx:av n env x=lpt z g i)(j:Nat)(hj:H[j]? =some (some g,.arr t' z (l.map f)))(hi:i<l.length)(hs:(f (l.getD i x0)).sh=s):AE P n C env H (.own j) ⟨d,.load t x,ty,pos,af,gd⟩ (f (l.getD i x0)):=aeLdO hx j hj (getD_map x0 hi) hs
theorem aeHiM{el:TypeId}{z:Nat}[c:TU P t (.slice el)][c':TS P el z]{f:α→AV}{l:List α}{k:IntKind}{q:Int}(h:Nat)(hx:av n env x=sl z (l.map f))(hy:av n env y=I k q)(hq:q=(h:Int))(hh:h≤l.length):
    AE P n C env H .no ⟨d,.slice t x none (some y) none,ty,pos,af,gd⟩ (sl z ((l.take h).map f)):=by have :=aeHi (P:=P) (C:=C) (H:=H) (d:=d) (ty:=ty) (pos:=pos) (af:=af) (gd:=gd) (t:=t) (el:=el) h hx hy hq (by simpa using hh);rwa [←List.map_take] at this
theorem aeLoM{el:TypeId}{z:Nat}[c:TU P t (.slice el)][c':TS P el z]{f:α→AV}{l:List α}{k:IntKind}{q:Int}(h:Nat)(hx:av n env x=sl z (l.map f))(hy:av n env y=I k q)(hq:q=(h:Int))(hh:h≤l.length):
    AE P n C env H .no ⟨d,.slice t x (some y) none none,ty,pos,af,gd⟩ (sl z ((l.drop h).map f)):=by have :=aeLo (P:=P) (C:=C) (H:=H) (d:=d) (ty:=ty) (pos:=pos) (af:=af) (gd:=gd) (t:=t) (el:=el) h hx hy hq (by simpa using hh);rwa [←List.map_drop] at this
theorem aeLHM{el:TypeId}{z:Nat}[c:TU P t (.slice el)][c':TS P el z]{f:α→AV}{l:List α}{k k':IntKind}{q q':Int}{y':Operand}(lo h:Nat)(hx:av n env x=sl z (l.map f))(hy:av n env y=I k q)(hy':av n env y'=I k' q')(hq:q=(lo:Int))(hq':q'=(h:Int))(hl:lo≤h)(hh:h≤l.length):
    AE P n C env H .no ⟨d,.slice t x (some y) (some y') none,ty,pos,af,gd⟩ (sl z (((l.take h).drop lo).map f)):=by have :=aeLH (P:=P) (C:=C) (H:=H) (d:=d) (ty:=ty) (pos:=pos) (af:=af) (gd:=gd) (t:=t) (el:=el) lo h hx hy hy' hq hq' hl (by simpa using hh);rwa [←List.map_take,←List.map_drop] at this
theorem aeHiO{el:TypeId}{z:Nat}[c:TU P t (.slice el)][c':TS P el z]{g m1 n1 c1:Nat}{k:IntKind}{q:Int}(h:Nat)(hx:av n env x=lsl z g m1 n1 c1)(hy:av n env y=I k q)(hq:q=(h:Int))(hh:h≤c1):
    AE P n C env H .no ⟨d,.slice t x none (some y) none,ty,pos,af,gd⟩ (lsl z g m1 h c1):=aeSlO (el:=el) 0 h hx (lo:=none) rfl (hi:=some y) ⟨_,_,hy,hq⟩ (Nat.zero_le _) hh
theorem aeLoO{el:TypeId}{z:Nat}[c:TU P t (.slice el)][c':TS P el z]{g m1 n1 c1:Nat}{k:IntKind}{q:Int}(h:Nat)(hx:av n env x=lsl z g m1 n1 c1)(hy:av n env y=I k q)(hq:q=(h:Int))(hh:h≤n1)(hc:n1≤c1):
    AE P n C env H .no ⟨d,.slice t x (some y) none none,ty,pos,af,gd⟩ (lsl z g (m1+h) (n1 -h) (c1 -h)):=aeSlO (el:=el) h n1 hx (lo:=some y) ⟨_,_,hy,hq⟩ (hi:=none) rfl hh hc
theorem aeLoO0{el:TypeId}{z:Nat}[c:TU P t (.slice el)][c':TS P el z]{g n1 c1:Nat}{k:IntKind}{q:Int}(h:Nat)(hx:av n env x=lsl z g 0 n1 c1)(hy:av n env y=I k q)(hq:q=(h:Int))(hh:h≤n1)(hc:n1≤c1):
    AE P n C env H .no ⟨d,.slice t x (some y) none none,ty,pos,af,gd⟩ (lsl z g h (n1 -h) (c1 -h)):=by have :=aeLoO (P:=P) (C:=C) (H:=H) (d:=d) (ty:=ty) (pos:=pos) (af:=af) (gd:=gd) (t:=t) (el:=el) h hx hy hq hh hc;rwa [Nat.zero_add] at this
theorem aeLHO{el:TypeId}{z:Nat}[c:TU P t (.slice el)][c':TS P el z]{g m1 n1 c1:Nat}{k k':IntKind}{q q':Int}{y':Operand}(lo h:Nat)(hx:av n env x=lsl z g m1 n1 c1)(hy:av n env y=I k q)(hy':av n env y'=I k' q')(hq:q=(lo:Int))(hq':q'=(h:Int))(hl:lo≤h)(hh:h≤c1):
    AE P n C env H .no ⟨d,.slice t x (some y) (some y') none,ty,pos,af,gd⟩ (lsl z g (m1+lo) (h -lo) (c1 -lo)):=aeSlO (el:=el) lo h hx (lo:=some y) ⟨_,_,hy,hq⟩ (hi:=some y') ⟨_,_,hy',hq'⟩ hl hh
theorem aeLHO0{el:TypeId}{z:Nat}[c:TU P t (.slice el)][c':TS P el z]{g n1 c1:Nat}{k k':IntKind}{q q':Int}{y':Operand}(lo h:Nat)(hx:av n env x=lsl z g 0 n1 c1)(hy:av n env y=I k q)(hy':av n env y'=I k' q')(hq:q=(lo:Int))(hq':q'=(h:Int))(hl:lo≤h)(hh:h≤c1):
    AE P n C env H .no ⟨d,.slice t x (some y) (some y') none,ty,pos,af,gd⟩ (lsl z g lo (h -lo) (c1 -lo)):=by have :=aeLHO (P:=P) (C:=C) (H:=H) (d:=d) (ty:=ty) (pos:=pos) (af:=af) (gd:=gd) (t:=t) (el:=el) lo h hx hy hy' hq hq' hl hh;rwa [Nat.zero_add] at this
theorem alLen{el:TypeId}[c:TU P t (.slice el)]{z:Nat}{f:α→AV}{r:List α}(hx:av n env x=sl z (r.map f))(hg:AG n env ops gd true)(k:r.length≤9223372036854775807→AL P n D C ops l Q (updA env d' (I .i64 (r.length:Int))) H):
    AL P n D C ops (⟨some d',.call {callee:= .builtin .len,args:= #[x],argTypes:= #[t]},ty,pos,af,gd⟩::l) Q env H:=fun e w S q=>by
  have hl:r.length≤9223372036854775807:=by obtain⟨A,c1,h1,h2,h3,_⟩:=q.at hx;rw[List.length_map] at h2;simp only[maxC] at h3;omega
  exact alE (m:= .no) (a:=I .i64 (r.length:Int)) (aeLenM (el:=el) hx) rfl hg (k hl) e w S q
theorem adLen{el:TypeId}[c:TU P t (.slice el)]{G:Nat→Nat→Prop}{i:Nat}{done todo:List Nat}{z:Nat}{f:α→AV}{r:List α}(ho:ops[i]? =some ⟨some d',.call {callee:= .builtin .len,args:= #[x],argTypes:= #[t]},ty,pos,af,gd⟩)(hx:av n env x=sl z (r.map f))(hg:AG n env ops gd true)(hc:flB ops done i=true)
    (k:r.length≤9223372036854775807→AD P n D C ops G (i::done) todo Q (updA env d' (I .i64 (r.length:Int))) H):AD P n D C ops G done (i::todo) Q env H:=fun e w S q=>by
  have hl:r.length≤9223372036854775807:=by obtain⟨A,c1,h1,h2,h3,_⟩:=q.at hx;rw[List.length_map] at h2;simp only[maxC] at h3;omega
  exact adE (m:= .no) (a:=I .i64 (r.length:Int)) [] ho (aeLenM (el:=el) hx) rfl hg hc rfl (fun _ _ _ _ _ _ _ h=>h.elim) (k hl) e w S q
theorem agP{j s:Nat}{p:Prop}[Decidable p]{want r:Bool}(hj:(ops[j]?).bind (·.dst)=some s)(hb:av n env (.tmp s)=Bo (decide p))(hr:(decide p==want)=r):AG n env ops (some (j,want)) r:=agS hj hb hr
theorem A.bool{s:Nat}{p:Prop}[Decidable p]{G:(Nat→Value)→World→Prop}(hb:av n env (.tmp s)=Bo (decide p)){b:Bool}(hd:decide p=b)(h:A C G (updA env s (Bo b)) H):A C G env H:=by
  subst hd
  by_cases hs:Nat.blt s n=true
  · have e1:env s=Bo (decide p):=by rw[←hb];show _=(bif Nat.blt s n then env s else lit undef);rw[hs];rfl
    exact A.ent (entSub (e1▸le_refl _)) h
  · have :av n env (.tmp s)=lit undef:=by show(bif Nat.blt s n then env s else lit undef)=_;rw[Bool.eq_false_iff.2 hs];rfl
    rw[this] at hb
    have h1:=congrArg AV.sh hb
    cases h1
theorem alSp{j s:Nat}{want:Bool}{p:Prop}[Decidable p](hg:o.guard=some (j,want))(hj:(ops[j]?).bind (·.dst)=some s)(hb:av n env (.tmp s)=Bo (decide p))(h1:p→AL P n D C ops (o::l) Q (updA env s (Bo true)) H)(h2: ¬p→AL P n D C ops (o::l) Q (updA env s (Bo false)) H):AL P n D C ops (o::l) Q env H:=by
  by_cases hp:p
  · exact A.bool hb (decide_eq_true hp) (h1 hp)
  · exact A.bool hb (decide_eq_false hp) (h2 hp)
theorem adSp{G:Nat→Nat→Prop}{i j s:Nat}{done todo:List Nat}{want:Bool}{p:Prop}[Decidable p](ho:ops[i]? =some o)(hg:o.guard=some (j,want))(hj:(ops[j]?).bind (·.dst)=some s)(hb:av n env (.tmp s)=Bo (decide p))(h1:p→AD P n D C ops G done (i::todo) Q (updA env s (Bo true)) H)(h2: ¬p→AD P n D C ops G done (i::todo) Q (updA env s (Bo false)) H):AD P n D C ops G done (i::todo) Q env H:=by
  by_cases hp:p
  · exact A.bool hb (decide_eq_true hp) (h1 hp)
  · exact A.bool hb (decide_eq_false hp) (h2 hp)
theorem aRet1{fn:Func}{L:Hp→List AV→Prop}{t:Nat}{a b:AV}(hr:fn.results= #[.tmp t])(h:av n env (.tmp t)=b)(k:L [] [a])(hb:b.le a):AX n [] C (bodyPost P fn (Ret (Post C L))) .ret env H:=aRet (rs:=[.tmp t]) hr rfl (List.nil_sublist _) (arT h hb arN) k
theorem aRet2{fn:Func}{L:Hp→List AV→Prop}{t t':Nat}{a b a' b':AV}(hr:fn.results= #[.tmp t,.tmp t'])(h:av n env (.tmp t)=b)(h':av n env (.tmp t')=b')(k:L [] [a,a'])(hb:b.le a)(hb':b'.le a'):AX n [] C (bodyPost P fn (Ret (Post C L))) .ret env H:=aRet (rs:=[.tmp t,.tmp t']) hr rfl (List.nil_sublist _) (arT h hb (arT h' hb' arN)) k
theorem aRet3{fn:Func}{L:Hp→List AV→Prop}{t t' t'':Nat}{a b a' b' a'' b'':AV}(hr:fn.results= #[.tmp t,.tmp t',.tmp t''])(h:av n env (.tmp t)=b)(h':av n env (.tmp t')=b')(h'':av n env (.tmp t'')=b'')(k:L [] [a,a',a''])(hb:b.le a)(hb':b'.le a')(hb'':b''.le a''):AX n [] C (bodyPost P fn (Ret (Post C L))) .ret env H:=aRet (rs:=[.tmp t,.tmp t',.tmp t'']) hr rfl (List.nil_sublist _) (arT h hb (arT h' hb' (arT h'' hb'' arN))) k
theorem av_env{t:Nat}{a:AV}(h:av n env (.tmp t)=a)(ha:a.sh≠ (lit undef).sh):env t=a:=by
  have :(bif Nat.blt t n then env t else lit undef)=a:=h
  cases hb:Nat.blt t n with
  |true=>rw[hb] at this;exact this
  |false=>rw[hb] at this;exact absurd (congrArg AV.sh this).symm ha
theorem aRetO{fn:Func}{L:Hp→List AV→Prop}{t z g k c:Nat}{t':TypeId}{l:List AV}{a:AV}(hr:fn.results= #[.tmp t])(hC:NoF C)(h:av n env (.tmp t)=lsl z g 0 k c)(j:Nat)(hj:H[j]? =some (some g,.arr t' z l))(hk:l.length=k)(q:L [] [a])(hb:(sl z l).le a):AX n [] C (bodyPost P fn (Ret (Post C L))) .ret env H:=by
  have he:=av_env h (by rw[lsl_sh];simp [lit,shOf,undef])
  have hn:Nat.blt t n=true:=by
    cases hb:Nat.blt t n with
    |true=>rfl
    |false=>
      have :(bif Nat.blt t n then env t else lit undef)=lsl z g 0 k c:=h
      rw[hb] at this;have :=congrArg AV.sh this;rw[lsl_sh] at this;simp [lit,shOf,undef] at this
  refine AX.ent (entFz0 hC he j hj hk) (aRet1 hr ?_ q hb)
  show(bif Nat.blt t n then updA env t (sl z l) t else lit undef)=sl z l
  rw[hn];simp [updA]
theorem AD.ent{G:Nat→Nat→Prop}{done todo:List Nat}{env':Nat→AV}{H':Hp}(h:Ent C env H env' H')(k:AD P n D C ops G done todo Q env' H'):AD P n D C ops G done todo Q env H:=A.ent h k
theorem entH{H':Hp}(h:HLe H H'):Ent C env H env H':=fun e w S r=>⟨S,r.frm,r.lt,r.sb,r.sl,(h.own r.own).1⟩
theorem aoApp0{el:TypeId}{v:Value}{s b:Nat}[c1:TU P t (.slice el)][c2:TI P el v s b]{l':List AV}(hx:av n env x=nilS)(hy:Src n C env H y s l')(hz:v.cells.size=s∧Nat.ble 1 s=true)(hb:l'.length*b≤140737488355328)(hm2:l'.length≤9223372036854775807):
    AO P n D C env H (fun _=>False) ⟨some d',.call {callee:= .builtin .append,args:= #[x,y],argTypes:= #[t,t]},ty,pos,af,gd⟩ (fun K=> ∀k' c',K (updA env d' (gh k' l'.length c')) ((k',.gro el s l' c')::H)):=fun e w S Q R K r hk kk=>by
  obtain⟨k',c',w',hr,ho,f,hp⟩:=run_app (k:=none) (l:=[]) (c:=0) c1.un c2.nf hz.1 (Nat.le_of_ble_eq_true hz.2) ⟨rfl,rfl⟩ (hy e w S r) (by simpa using hb) (by simpa using hm2) (by simp) r.lt (ty:=ty)
  have f':Ext w w':=f.mono fun b _ h=>by simp at h
  have r':=r.ext f'
  simp only[List.length_nil,Nat.zero_add,List.nil_append] at hr ho
  refine OpW.app (v:=gv none 0 0) (r.lit hx) hr (kk _ _ S _ _ (hk k' c') f' (Rel.upd ⟨r'.frm,r'.lt,r'.sb,r'.sl,r'.own.cons ho fun g hg=> ?_⟩ rfl))
  rcases hp with rfl| ⟨g',h1,h2⟩
  · cases hg
  · rw[h1] at hg;obtain rfl:g'=g:=by simpa using hg
    exact⟨fun hS=>by have :=r.lt g' hS;omega,.inr (Nat.le_trans r.frm.size h2),fun x hx e=>by have :=r.own.lt hx e;omega⟩
end
section
variable{P:Program}{n:Nat}{C:Ctx}{env:Nat→AV}{H:Hp}{d:Option Nat}{ty:TypeId}{pos:String}{af:Array Edge}{gd:Option (Nat×Bool)}{x:Operand}{t t':TypeId}
theorem lpt0{z z' g:Nat}:lpt z g 0=lpt z' g 0:=by unfold lpt;simp
theorem aeLdO0{s:Sh}[c:TL P t s]{z z' g:Nat}{l:List AV}{a:AV}(hx:av n env x=lpt z' g 0)(j:Nat)(hj:H[j]? =some (some g,.arr t' z (a::l)))(hs:a.sh=s):AE P n C env H (.own j) ⟨d,.load t x,ty,pos,af,gd⟩ a:=aeLdO (hx.trans lpt0) j hj rfl hs
end
theorem entBx{C:Ctx}{env:Nat→AV}{H:Hp}(hC:NoF C){s z z' g:Nat}{t:TypeId}{a:AV}(hs:env s=lpt z g 0)(j:Nat)(hj:H[j]? =some (some g,.arr t z' [a])):Ent C env H (updA env s (ep a)) (H.eraseIdx j):=entFzE hC (by rw[hs];rfl) j hj
theorem AO.entH{P:Program}{n:Nat}{D:List Deferred}{C:Ctx}{env:Nat→AV}{H H':Hp}{W:Nat→Prop}{o:Oper}{Ψ:((Nat→AV)→Hp→Prop)→Prop}(h:HLe H H')(k:AO P n D C env H' W o Ψ):AO P n D C env H W o Ψ:=by
  unfold AO at k⊢
  exact fun e w S Q R K r=>k e w S Q R K ⟨r.frm,r.lt,r.sb,r.sl,(h.own r.own).1⟩
theorem HLe.set1{g:Option Nat}{o o':Ob}(ho:o.le o'): ∀{H:Hp}{j:Nat},H[j]? =some (g,o)→HLe H (H.set j (g,o'))
  |x::H,0,h=>by simp at h;subst h;exact .cons ho (HLe.refl _)
  | (g',o2)::H,j+1,h=> .cons (ob_refl _) (HLe.set1 ho (by simpa using h))
  | [],_,h=>by simp at h
class TK (P:Program) (f:FuncId) (p:outParam Prop):Prop where
  k:p
class ZV (v:Value) (s:Nat) {α:outParam Type} (f:outParam (α→AV)) (x0:outParam α):Prop where
  rp:(∀w S,(f x0).rep w S v)∧elB s (f x0)=true
def U(d:Nat):AV:=I .u32 (d:Int)
def N(d:Nat):AV:=I .i64 (d:Int)
instance:ZV (.int .u32 0) 1 U 0:=⟨fun _ _=>rfl,rfl⟩
instance:ZV (.int .i64 0) 1 N 0:=⟨fun _ _=>rfl,rfl⟩
instance:ZV (.bool false) 1 Bo false:=⟨fun _ _=>rfl,rfl⟩
section
variable{P:Program}{n:Nat}{D:List Deferred}{C:Ctx}{env:Nat→AV}{H:Hp}{d:Nat}{d':Option Nat}{ty:TypeId}{pos:String}{af:Array Edge}{gd:Option (Nat×Bool)}{x y:Operand}{t:TypeId}
theorem aoMakeZ{el:TypeId}{v:Value}{s b:Nat}[c:TU P t (.slice el)][c':TI P el v s b]{α:Type}{f:α→AV}{x0:α}[z:ZV v s f x0]{m:Nat}{k k':IntKind}(hx:av n env x=I k (m:Int))(hy:av n env y=I k' (m:Int))(hb:b*m≤281474976710656)(hm:m≤9223372036854775807)(hs:Nat.ble 1 s=true):
    AO P n D C env H (fun _=>False) ⟨some d,.makeSlice t x y,ty,pos,af,gd⟩ (fun K=> ∀g,K (updA env d (lsl s g 0 m m)) ((some g,.arr el s ((List.replicate m x0).map f))::H)):=aoMake f x0 m hx hy rfl rfl hb hm z.rp.1 z.rp.2 hs
theorem aeMkF{f:FuncId}{xs:List Operand}:AE P n C env H .no ⟨d',.makeFunc (.func f) #[] xs.toArray,ty,pos,af,gd⟩ (fnv f (xs.map (av n env))):=fun e w S r=>by
  refine⟨.func (.func f) #[] (xs.map (ev n e)).toArray,⟨_,rfl,?_⟩,fun _ _=>by simp [Ev,execOp,Instr.makeFunc]⟩
  induction xs with
  |nil=>trivial
  |cons x xs ih=>exact⟨r.av n x,ih⟩
end
end Go.Am
namespace Go.Am
open Go.RowKit Go.Gx
def Yd(P:Program)(l:Nat)(args:Array Value)(W:World)(R:Ending→World→Prop):Prop:=
  ∃fn tmps assign body,(Instr.yield l args).run P W= .ok (.round l fn tmps assign body) W∧ ∀m,RoundIn Fence.wide m P l fn tmps assign body W R
abbrev recL(D:List Deferred)(n:Nat)(e:Nat→Value)(p:Nat)(assign body:Code)(Dn:Nat)(fn:FuncId)(st:LoopState)(j:Option Code):Loop:={state:=st,pending:=j,fn,tmps:=(mkA D n e).tmps,params:= #[p],assign,body,defers:=Dn}
def lst:Option Code→LoopState
  |none=> .ready
  |some _=> .done
section
variable{P:Program}{n m:Nat}{D:List Deferred}{e:Nat→Value}{w:World}{Q:Exit→Act→World→Prop}{ops:Array Oper}{rest:List Oper}{ty:TypeId}{pos:String}{af:Array Edge}
theorem act_mkA(n:Nat)(e:Nat→Value)(D':List Deferred):(⟨(mkA D n e).tmps,D'⟩:Act)=mkA D' n e:=by unfold mkA;rfl
theorem tmps_put(n:Nat)(e:Nat→Value)(d:Nat)(v:Value):(mkA D n e).tmps.setIfInBounds d v=(mkA D n (upd e d v)).tmps:=congrArg Act.tmps (Zp (dfs:=D) n e d v)
theorem wlYield{φ:Value→World→Prop}{gd:Option (Nat×Bool)}{d l:Nat}{x:Operand}{xs:List Operand}{ts:Array TypeId}{args:List Value}(hg:QbG n e ops gd=true)(hx:ev n e x= .func (.yield l) #[] #[])(ha:xs.map (ev n e)=args)
    (h:Yd P l args.toArray w (Ret φ))(k: ∀v w',φ v w'→WL P ops Q rest (mkA D n (upd e d v)) w'):
    WL P ops Q (⟨some d,.call {callee:= .value x,args:=xs.toArray,argTypes:=ts},ty,pos,af,gd⟩::rest) (mkA D n e) w:=by
  unfold WL
  intro ro m
  obtain⟨fn,tmps,assign,body,hy,hR⟩:=h
  have ha':xs.toArray.map (ev n e)=args.toArray:=by rw[←ha];simp
  unfold wpListIn
  rw[ZD,hg,if_pos rfl]
  refine⟨fun _ _=>trivial,?_⟩
  rw[QoO (by intro c h;cases h),Yy]
  have hrun:(execOp (ev n e) ⟨some d,.call {callee:= .value x,args:=xs.toArray,argTypes:=ts},ty,pos,af,gd⟩).run P w= .ok (.round l fn tmps assign body) w:=by
    simp only[execOp,resolve,hx,Deferred.ofValue,invoke,Sem.run_bind,Sem.run_pure,Result.andThen_ok,ha']
    simpa using hy
  rw[hrun]
  refine⟨fun hh=>(by cases hh),?_⟩
  exact(hR (m -1)).mono fun en w' ⟨v,he,hv⟩=>by subst he;simp only[Zp];exact wlE (k v w' hv) ro m
def RB(P:Program)(l:Nat)(body:Code)(R:Ending→World→Prop):Exit→Act→World→Prop:=Exit.then (fun a₁ w₁=> ∃w₂,(Instr.beginRound l).run P w₁= .ok () w₂∧CW P body (roundPost P l R) a₁ w₂) (fun _ _ _=>False)
theorem yd_round{l Dn p:Nat}{fn:FuncId}{assign body:Code}{v:Value}{W:World}{φ:Value→World→Prop}(hl:W.heap[l]? =some (.loop (recL D n e p assign body Dn fn .ready none)))
    (h:CW P assign (RB P l body (Ret φ)) (mkA [] n (upd e p v)) W):Yd P l #[v] W (Ret φ):=by
  refine⟨fn,(mkA [] n (upd e p v)).tmps,assign,body,?_,fun m=>roundIn_of_wpIn trivial ?_⟩
  · have hy:=run_yield (P:=P) (args:= #[v]) hl rfl
    have e1:(((#[p]:Array Tmp).zip #[v]).foldl (fun tmps (x:Tmp×Value)=>match x with | (t,a)=>tmps.setIfInBounds t a) (mkA D n e).tmps)=(mkA [] n (upd e p v)).tmps:=by
      have :(((#[p]:Array Tmp).zip #[v]).foldl (fun tmps (x:Tmp×Value)=>match x with | (t,a)=>tmps.setIfInBounds t a) (mkA D n e).tmps)=(mkA D n e).tmps.setIfInBounds p v:=by simp
      rw[this,tmps_put];unfold mkA;rfl
    rw[←e1];exact hy
  · rw[act_mkA]
    exact Go.wpIn_mono (cwE h (some l) m) (fun ex a w hq=>by
      unfold RB at hq
      cases ex<;>first | (obtain⟨w2,h1,h2⟩:=hq;exact⟨w2,h1,cwE h2 (some l) m⟩)| exact hq)
theorem begin_{l Dn p:Nat}{fn:FuncId}{assign body:Code}{W:World}(hl:W.heap[l]? =some (.loop (recL D n e p assign body Dn fn .ready none))):
    ∃Wb,(Instr.beginRound l).run P W= .ok () Wb∧Frm (fun b=>b=l) W Wb∧Wb.heap[l]? =some (.loop (recL D n e p assign body Dn fn .busy none)):=
  ⟨_,run_beginRound hl rfl,⟨rfl,rfl,rfl,by simp,Nat.le_refl _,fun k _ hk=>World.putObj_heap_other hk⟩,World.putObj_heap_same (Array.getElem?_eq_some_iff.1 hl).1⟩
theorem end_{l Dn p:Nat}{fn:FuncId}{assign body:Code}{W:World}(j:Option Code)(hl:W.heap[l]? =some (.loop (recL D n e p assign body Dn fn .busy none))):
    ∃We,(Instr.endRound l j).run P W= .ok (.bool j.isNone) We∧Frm (fun b=>b=l) W We∧We.heap[l]? =some (.loop (recL D n e p assign body Dn fn (lst j) j)):=by
  cases j with
  |none=>exact⟨_,run_endRound none hl,⟨rfl,rfl,rfl,by simp,Nat.le_refl _,fun k _ hk=>World.putObj_heap_other hk⟩,World.putObj_heap_same (Array.getElem?_eq_some_iff.1 hl).1⟩
  |some c=>exact⟨_,run_endRound (some c) hl,⟨rfl,rfl,rfl,by simp,Nat.le_refl _,fun k _ hk=>World.putObj_heap_other hk⟩,World.putObj_heap_same (Array.getElem?_eq_some_iff.1 hl).1⟩
def JQ(P:Program)(Q:Exit→Act→World→Prop):Option Code→Act→World→Prop
  |none,a,w=>Q .normal a w
  |some c,a,w=>c.wp P Q a w
theorem wRange{g:Operand}{p:Nat}{assign body:Code}{gf:Nat}{lb:Array Value}(hg:ev n e g= .func (.func gf) #[] lb)(eg:Qel P gf)
    (h: ∀fn W1,Ext w W1→W1.heap.size=w.heap.size+2→W1.heap[w.heap.size+1]? =some (.loop (recL D n e p assign body w.heap.size fn .ready none))→W1.heap[w.heap.size]? =some (.deferred (some []))→
      Calls P gf (#[.func (.yield (w.heap.size+1)) #[] #[]]++lb) W1 (Ret fun _ W2=> ∃j,W2.heap[w.heap.size+1]? =some (.loop (recL D n e p assign body w.heap.size fn (lst j) j))∧W2.heap[w.heap.size]? =some (.deferred (some []))∧
        ∀W3,Frm (fun b=>b=w.heap.size+1) W2 W3→JQ P Q j (mkA ({target:= .collected w.heap.size,args:= #[]}::D) n e) W3)):
    (Code.rangeFunc g #[p] assign body).wp P Q (mkA D n e) w:=by
  refine(wpIn_wide (n:=1)).1 (wpIn_rangeFunc fun fn _=> ?_)
  obtain⟨W1,hW1⟩: ∃W1,(w.alloc (.deferred (some []))).alloc (.loop (recL D n e p assign body w.heap.size fn .ready none))=W1:=⟨_,rfl⟩
  have hE:Ext w W1:=by rw[←hW1];exact(Qbc _ _).trans (Qbc _ _)
  have hL:W1.heap[w.heap.size+1]? =some (.loop (recL D n e p assign body w.heap.size fn .ready none)):=by
    rw[←hW1];have :=World.alloc_heap_new (w.alloc (.deferred (some []))) (.loop (recL D n e p assign body w.heap.size fn .ready none));rwa [World.size_alloc] at this
  have hD:W1.heap[w.heap.size]? =some (.deferred (some [])):=by
    rw[←hW1];exact(Below.heap_alloc _ _ _ (by simp)).trans (World.alloc_heap_new w _)
  have hc:=h fn W1 hE (by rw[←hW1];simp) hL hD
  refine⟨w.heap.size+1,[{target:= .collected w.heap.size,args:= #[]}],W1,{target:= .fn (.func gf) lb,args:= #[.func (.yield (w.heap.size+1)) #[] #[]]},W1,gf,#[.func (.yield (w.heap.size+1)) #[] #[]]++lb,W1,?_,?_,fun _ _=>trivial,?_,fun hh=>(by cases hh),?_⟩
  · rw[←hW1];exact run_enterLoop_outer _ _ _ _ _
  · rw[Yy];simp only[resolve,hg];simp [go_sem,ev]
  · simp [invoke,go_sem,eg (#[.func (.yield (w.heap.size+1)) #[] #[]]++lb) W1]
  · refine callsIn_wide.2 (Calls.mono hc fun en W2 ⟨v,he,j,hl,hd,hq⟩=> ?_)
    subst he
    have hdf:({mkA D n e with defers:=[{target:= .collected w.heap.size,args:= #[]}]++(mkA D n e).defers}:Act)=mkA ({target:= .collected w.heap.size,args:= #[]}::D) n e:=by rw[Qbi];unfold mkA;rfl
    cases j with
    |none=>
      refine⟨none,_,run_endLoop (P:=P) hl (by simp [recL,lst]),?_⟩
      rw[hdf];exact hq _ ⟨rfl,rfl,rfl,by simp,Nat.le_refl _,fun k _ hk=>World.putObj_heap_other hk⟩
    |some c=>
      refine⟨some c,_,run_endLoop (P:=P) hl (by simp [recL,lst]),?_⟩
      rw[hdf];exact wpIn_wide.2 (hq _ ⟨rfl,rfl,rfl,by simp,Nat.le_refl _,fun k _ hk=>World.putObj_heap_other hk⟩)
end
theorem Keep.trans{w w' w2:World}{S S' S2:Nat→Prop}(h:Keep w w' S S')(k:Keep w' w2 S' S2):Keep w w2 S S2:=fun b hb=>⟨(k b (h b hb).1).1,(k b (h b hb).1).2.trans (h b hb).2⟩
def yv(l:Nat)(w1:World)(S1:Nat→Prop):AV:=⟨.one,fun w S v=>v= .func (.yield l) #[] #[]∧Keep w1 w S1 S,fun⟨h,_⟩=>by subst h;rfl,fun k ⟨h1,h2⟩=>⟨h1,h2.trans k⟩⟩
def YC(P:Program)(l:Nat)(w1:World)(S1:Nat→Prop)(F:Hp)(args:List AV)(Φ:(Hp→List AV→Prop)→Prop):Prop:=
  ∀K w S vs,Keep w1 w S1 S→(∀b,S b→b<w.heap.size)→Own w S (fun _=>True) F→reps w S args vs→gT.rep w S undef→Φ K→Yd P l vs.toArray w (Ret (Post ⟨w,S,inH F⟩ K))
section
variable{P:Program}{n:Nat}{D:List Deferred}{C:Ctx}{env:Nat→AV}{H R F N:Hp}{Q:Exit→Act→World→Prop}
theorem Own.top{w:World}{S G:Nat→Prop}(h:Own w S G H):Own w S (fun _=>True) H:=⟨h.ob,fun x hx g hg=>⟨(h.ow x hx g hg).1,trivial⟩,h.nd⟩
theorem Rel.after{S S':Nat→Prop}{e:Nat→Value}{w w':World}(r:Rel C env (R++F) S e w)(f:Frm (inH F) w w')(hl: ∀b,S' b→b<w'.heap.size)(hb: ∀b,S' b→S b∨w.heap.size≤b)(ho:Own w' S' (fun g=>inH F g∨w.heap.size≤g) N):
    Rel C env (R++N) (fun b=>S b∨S' b) e w':=by
  have hF: ∀b,inH F b→ ¬S b∧(C.F b∨C.w0.heap.size≤b):=fun b ⟨x,hx,hg⟩=>r.own.ow x (List.mem_append_right _ hx) b hg
  have hR: ∀x∈R,∀g,x.1=some g→ ¬inH F g:=fun x hx g hg ⟨y,hy,hg'⟩=>(List.pairwise_append.1 r.own.nd).2.2 x hx y hy g hg hg'
  refine r.to f (fun b _ hb=>hF b hb) (fun _ h=> .inl h) (fun b h=>h.elim (fun h=>Nat.lt_of_lt_of_le (r.lt b h) f.size) (hl b)) (fun b h=>h.elim .inl fun h=>(hb b h).imp id fun h=>Nat.le_trans r.frm.size h) ⟨fun x hx=> ?_,fun x hx g hg=> ?_,?_⟩
  · rcases List.mem_append.1 hx with hx|hx
    · exact(r.own.ob x (List.mem_append_left _ hx)).mono (fun b q=>⟨.inl q,f.block b (r.lt b q) fun h=>(hF b h).1 q⟩) fun b q=>f.block b (r.own.lt (List.mem_append_left _ hx) q) (hR x hx b q)
    · exact(ho.ob x hx).mono (fun b q=>⟨.inr q,rfl⟩) fun _ _=>rfl
  · rcases List.mem_append.1 hx with hx|hx
    · have h1:=r.own.ow x (List.mem_append_left _ hx) g hg
      refine⟨fun h=>h.elim h1.1 fun h=> ?_,h1.2⟩
      rcases hb g h with h|h
      · exact h1.1 h
      · have :=r.own.lt (List.mem_append_left _ hx) hg;omega
    · have h1:=ho.ow x hx g hg
      refine⟨fun h=>h.elim (fun h=> ?_) h1.1,?_⟩
      · rcases h1.2 with h2|h2
        · exact(hF g h2).1 h
        · have :=r.lt g h;omega
      · rcases h1.2 with h2|h2
        · exact(hF g h2).2
        · exact .inr (Nat.le_trans r.frm.size h2)
  · refine List.pairwise_append.2 ⟨(List.pairwise_append.1 r.own.nd).1,ho.nd,fun x hx y hy g hg hg'=> ?_⟩
    rcases(ho.ow y hy g hg').2 with h|h
    · exact hR x hx g hg h
    · have :=r.own.lt (List.mem_append_left _ hx) hg;omega
theorem alYield{ops:Array Oper}{rest:List Oper}{x:Operand}{xs:List Operand}{ts:Array TypeId}{d l:Nat}{ty:TypeId}{pos:String}{af:Array Edge}{gd:Option (Nat×Bool)}{w1:World}{S1:Nat→Prop}{args:List AV}{Φ:(Hp→List AV→Prop)→Prop}
    (hx:av n env x=yv l w1 S1)(hH:H=R++F)(h:YC P l w1 S1 F args Φ)(ha:Args n C env H (fun _=>False) xs [] args)(hT:env gS=gT)(hg:AG n env ops gd true)
    (k:Φ fun N r=>AL P n D C ops rest Q (updA env d (tupA r)) (R++N)):AL P n D C ops (⟨some d,.call {callee:= .value x,args:=xs.toArray,argTypes:=ts},ty,pos,af,gd⟩::rest) Q env H:=fun e w S r=>by
  subst hH
  obtain⟨h1,h2⟩:=r.at hx
  have h3:=ha e w S [] r trivial
  have e1:(fun b=>S b∨False)=S:=by funext b;simp
  rw[e1,List.append_nil] at h3
  refine wlYield (hg e r.lits) h1 rfl (h _ w S _ h2 r.lt (r.own.subl (List.sublist_append_right _ _)).top h3 (show gT.rep w S undef from(hT▸r.sl gS:gT.rep w S (e gS))) k) ?_
  rintro _ w' ⟨N,rs,S',us,hK,rfl,hr,fr,hl,hb,ho⟩
  exact hK _ _ _ ((r.after fr hl hb ho).upd (tupA_rep (hr.mono fun b hb=>⟨.inr hb,rfl⟩)))
def AT(P:Program)(n:Nat)(D:List Deferred)(C:Ctx)(c:Code)(Q:Exit→Act→World→Prop)(env:Nat→AV)(H:Hp):Prop:=A C (fun e w=>c.wp P Q (mkA D n e) w) env H
def ETt(P:Program)(y:Code)(Q:Exit→Act→World→Prop):Exit→Act→World→Prop:=Exit.then (fun a w=>y.wp P Q a w) Q
section
variable{c y:Code}{x:Exit}
theorem atW(h:AW P n D C c Q env H):AT P n D C c Q env H:=fun e w S r=>cw' (h e w S r)
theorem atSeq(h:AT P n D C c (ETt P y Q) env H):AT P n D C (.seq c y) Q env H:=fun e w S r=>wp_seq (h e w S r)
theorem atBk{id:Nat}(h:AT P n D C c (Exit.inBlock id Q) env H):AT P n D C (.block id c) Q env H:=fun e w S r=>wp_block (h e w S r)
theorem axT(h:AT P n D C y Q env H):AX n D C (ETt P y Q) .normal env H:=fun e w S r=>ex (h e w S r)
theorem axtE{id:Nat}(h:AX n D C Q (.exit id) env H):AX n D C (ETt P y Q) (.exit id) env H:=fun e w S r=>zeE (h e w S r)
theorem axtR(h:AX n D C Q .ret env H):AX n D C (ETt P y Q) .ret env H:=fun e w S r=>zeR (h e w S r)
end
theorem Rel.raw{S:Nat→Prop}{e:Nat→Value}{w w':World}{l:Nat}{x y:Obj}(r:Rel C env H S e w){j:Nat}(hj:H[j]? =some (some l,.raw x))(f:Frm (fun b=>b=l) w w')(h:w'.heap[l]? =some y):Rel C env (H.set j (some l,.raw y)) S e w':=
  r.to f (fun b _ hb=>by have hb:b=l:=hb;subst hb;exact r.own.ow _ (List.mem_of_getElem? hj) _ rfl) (fun _ h=>h) (fun b h=>Nat.lt_of_lt_of_le (r.lt b h) f.size) (fun _ h=> .inl h) (r.own.set hj r.lt f h)
theorem axRB{l Dn p:Nat}{fn:FuncId}{assign body:Code}{e1:Nat→Value}{R':Ending→World→Prop}{D1:List Deferred}{H':Hp}(hH:H=(some l,.raw (.loop (recL D1 n e1 p assign body Dn fn .ready none)))::H')
    (h:AW P n D C body (roundPost P l R') env ((some l,.raw (.loop (recL D1 n e1 p assign body Dn fn .busy none)))::H')):AX n D C (RB P l body R') .normal env H:=fun e w S r=>by
  subst hH
  obtain⟨Wb,b1,b2,b3⟩:=begin_ (P:=P) (r.own.ob _ (List.mem_cons_self ..))
  exact ex ⟨Wb,b1,h e Wb S (r.raw (j:=0) rfl b2 b3)⟩
def wayOf:Exit→Option (Option Code)
  | .normal=>some none
  | .exit id=>some (some (.exit id))
  | .ret=>some (some .ret)
  |_=>none
theorem axRd{l Dn p:Nat}{fn:FuncId}{assign body:Code}{e1:Nat→Value}{D1:List Deferred}{H' H2:Hp}{x:Exit}{K:Hp→List AV→Prop}(j:Option Code)(hx:wayOf x=some j)(hH:H=(some l,.raw (.loop (recL D1 n e1 p assign body Dn fn .busy none)))::H')(hle:HLe H' H2)
    (k:K ((some l,.raw (.loop (recL D1 n e1 p assign body Dn fn (lst j) j)))::H2) [Bo j.isNone]):AX n D C (roundPost P l (Ret (Post C K))) x env H:=fun e w S r=>by
  subst hH
  obtain⟨We,b1,b2,b3⟩:=end_ (P:=P) j (r.own.ob _ (List.mem_cons_self ..))
  have r2:=r.raw (j:=0) rfl b2 b3
  have h1:HLe ((some l,.raw (.loop (recL D1 n e1 p assign body Dn fn (lst j) j)))::H') ((some l,.raw (.loop (recL D1 n e1 p assign body Dn fn (lst j) j)))::H2):= .cons (fun _ _ _ h=>h) hle
  have h2:Ret (Post C K) (.returned (.bool j.isNone)) We:=⟨_,rfl,_,_,S,[.bool j.isNone],k,rfl,⟨rfl,trivial⟩,r2.frm,r2.lt,r2.sb,(h1.own r2.own).1⟩
  cases x<;>simp only[wayOf,Option.some.injEq,reduceCtorEq] at hx<;>subst hx<;>exact ex ⟨_,We,b1,h2⟩
theorem ycRound{l Dn p:Nat}{fn:FuncId}{assign body:Code}{e1:Nat→Value}{w1:World}{S1:Nat→Prop}{D1:List Deferred}{H':Hp}{a:AV}{Φ:(Hp→List AV→Prop)→Prop}(he: ∀s,(env s).rep w1 S1 (e1 s))(hT:env gS=gT)
    (h: ∀K C',C'.F=inH ((some l,.raw (.loop (recL D1 n e1 p assign body Dn fn .ready none)))::H')→Φ K→AW P n [] C' assign (RB P l body (Ret (Post C' K))) (updA env p a) ((some l,.raw (.loop (recL D1 n e1 p assign body Dn fn .ready none)))::H')):
    YC P l w1 S1 ((some l,.raw (.loop (recL D1 n e1 p assign body Dn fn .ready none)))::H') [a] Φ:=fun K w S vs hk hS ho hr hg hK=>by
  match vs,hr with
  | [v],hr=>
    refine yd_round (ho.ob _ (List.mem_cons_self ..)) (h K ⟨w,S,inH _⟩ rfl hK _ w S ⟨Frm.refl _ _,hS,fun b hb=> .inl hb,rep_upd (fun s=>(env s).mono hk (he s)) hr.1,ho.ob,fun x hx g hg=>⟨(ho.ow x hx g hg).1,.inl ⟨x,hx,hg⟩⟩,ho.nd⟩)
def AJ(P:Program)(n:Nat)(D:List Deferred)(C:Ctx)(Q:Exit→Act→World→Prop):Option Code→(Nat→AV)→Hp→Prop
  |none,env,H=>AX n D C Q .normal env H
  |some c,env,H=>AT P n D C c Q env H
theorem aRange{gf p:Nat}{g:Operand}{assign body:Code}{lb:List AV}{σ ε:Type}(el:ε→AV)(E:σ→ε→Prop)(Ψ:σ→ε→(σ→Option Code→Prop)→Prop)(Fin:σ→Option Code→Prop)(G:σ→Hp)(s0:σ)
    [c:TC P gf](hx:(av n env g).le (fnv gf lb))(hT:env gS=gT)(hH:HLe H (G s0))
    (hbody: ∀l Dn fn e1 s x,E s x→ ∀K C',C'.F=inH ((some l,.raw (.loop (recL D n e1 p assign body Dn fn .ready none)))::G s)→Ψ s x (fun s' j=>K ((some l,.raw (.loop (recL D n e1 p assign body Dn fn (lst j) j)))::G s') [Bo j.isNone])→
      AW P n [] C' assign (RB P l body (Ret (Post C' K))) (updA env p (el x)) ((some l,.raw (.loop (recL D n e1 p assign body Dn fn .ready none)))::G s))
    (hiter: ∀l w1 S1 (LO:Option Code→σ→Hp),(∀s x,E s x→YC P l w1 S1 (LO none s) [el x] fun K=>Ψ s x fun s' j=>K (LO j s') [Bo j.isNone])→AC P gf (LO none s0) (yv l w1 S1::lb) fun K=> ∀s j,Fin s j→K (LO j s) [])
    (k: ∀Dn s j,Fin s j→AJ P n ({target:= .collected Dn,args:= #[]}::D) C Q j env ((some Dn,.raw (.deferred (some [])))::G s)):AT P n D C (Code.rangeFunc g #[p] assign body) Q env H:=fun e w S r=>by
  obtain⟨vs,h1,h2⟩:=hx _ _ _ (r.av n g)
  refine wRange (lb:=vs.toArray) h1 c.ca fun fn W1 hE hs hl hd=> ?_
  have r0:Rel C env (G s0) S e w:=⟨r.frm,r.lt,r.sb,r.sl,(hH.own r.own).1⟩
  have r1:=r0.ext hE
  have hk1:Keep w W1 S S:=fun b hb=>⟨hb,hE.block b (r.lt b hb) fun h=>h⟩
  have hfr:C.w0.heap.size≤w.heap.size:=r.frm.size
  have hown1:Own W1 S (fun g=>C.F g∨C.w0.heap.size≤g) ((some w.heap.size,.raw (.deferred (some [])))::(some (w.heap.size+1),.raw (.loop (recL D n e p assign body w.heap.size fn .ready none)))::G s0):=by
    refine Own.cons (k:=some w.heap.size) (o:= .raw (.deferred (some []))) (Own.cons (k:=some (w.heap.size+1)) (o:= .raw (.loop (recL D n e p assign body w.heap.size fn .ready none))) r1.own hl fun b hb=> ?_) hd fun b hb=> ?_
    · obtain rfl:w.heap.size+1=b:=by simpa using hb
      exact⟨fun h=>by have :=r.lt _ h;omega,.inr (by omega),fun x hx h=>by have :=r0.own.lt hx h;omega⟩
    · obtain rfl:w.heap.size=b:=by simpa using hb
      refine⟨fun h=>by have :=r.lt _ h;omega,.inr (by omega),fun x hx h=> ?_⟩
      rcases List.mem_cons.1 hx with rfl|hx
      · simp at h
      · have :=r0.own.lt hx h;omega
  have r2:Rel C env ([(some w.heap.size,.raw (.deferred (some [])))]++((some (w.heap.size+1),.raw (.loop (recL D n e p assign body w.heap.size fn .ready none)))::G s0)) S e W1:=⟨r1.frm,r1.lt,r1.sb,r1.sl,hown1⟩
  have hc:=hiter (w.heap.size+1) W1 S (fun j s=>(some (w.heap.size+1),.raw (.loop (recL D n e p assign body w.heap.size fn (lst j) j)))::G s) (fun s x hE'=>ycRound (env:=env) r1.sl hT fun K C' hC' hΨ=>hbody _ _ _ _ s x hE' K C' hC' hΨ)
  have hargs:reps W1 S (yv (w.heap.size+1) W1 S::lb) (.func (.yield (w.heap.size+1)) #[] #[]::vs):=⟨⟨rfl,fun b hb=>⟨hb,rfl⟩⟩,h2.mono hk1⟩
  have hcall:=hc (fun N r=> ∃s j,Fin s j∧N=(some (w.heap.size+1),.raw (.loop (recL D n e p assign body w.heap.size fn (lst j) j)))::G s∧r=[]) W1 S _ r1.lt (r2.own.subl (List.sublist_append_right _ _)).top hargs (show gT.rep W1 S undef from(hT▸r1.sl gS:gT.rep W1 S (e gS))) fun s j hj=>⟨s,j,hj,rfl,rfl⟩
  have e0:(#[Value.func (.yield (w.heap.size+1)) #[] #[]]++vs.toArray)=(Value.func (.yield (w.heap.size+1)) #[] #[]::vs).toArray:=by simp
  rw[e0]
  refine Ret.mono hcall ?_
  rintro _ W2 ⟨N,rs,S',us,⟨s,j,hj,rfl,rfl⟩,rfl,hr,fr,hl2,hb,ho⟩
  have r3:=r2.after fr hl2 hb ho
  have hl3:W2.heap[w.heap.size+1]? =some (.loop (recL D n e p assign body w.heap.size fn (lst j) j)):=r3.own.ob (some (w.heap.size+1),.raw _) (by simp)
  have hd3:W2.heap[w.heap.size]? =some (.deferred (some [])):=r3.own.ob (some w.heap.size,.raw _) (by simp)
  refine⟨j,hl3,hd3,fun W3 f3=> ?_⟩
  have hmem:(some (w.heap.size+1),Ob.raw (.loop (recL D n e p assign body w.heap.size fn (lst j) j)))∈([(some w.heap.size,.raw (.deferred (some [])))]++((some (w.heap.size+1),.raw (.loop (recL D n e p assign body w.heap.size fn (lst j) j)))::G s):Hp):=by simp
  have r4:Rel C env ((some w.heap.size,.raw (.deferred (some [])))::G s) (fun b=>S b∨S' b) e W3:=by
    refine r3.to f3 (fun b _ hb=>by have hb:b=w.heap.size+1:=hb;subst hb;exact r3.own.ow _ hmem _ rfl) (fun _ h=>h) (fun b h=>Nat.lt_of_lt_of_le (r3.lt b h) f3.size) (fun _ h=> .inl h) ?_
    have ho3:Own W2 (fun b=>S b∨S' b) (fun g=>C.F g∨C.w0.heap.size≤g) ((some w.heap.size,.raw (.deferred (some [])))::G s):=r3.own.subl (List.Sublist.cons_cons _ (List.sublist_cons_self _ _))
    have hnd:=(List.pairwise_cons.1 (r3.own.nd.perm (List.Perm.swap _ _ _) fun h g a b=>h g b a)).1
    refine ho3.to (fun b h=>⟨h,f3.block b (r3.lt b h) fun e=> ?_⟩) (fun x hx g hg=>f3.block g (ho3.lt hx hg) fun e=> ?_) (fun x hx g hg=>(ho3.ow x hx g hg).1) fun _ h=>h
    · have e:b=w.heap.size+1:=e
      subst e;exact(r3.own.ow _ hmem _ rfl).1 h
    · have e:g=w.heap.size+1:=e
      subst e;exact hnd x hx _ rfl hg
  have :=k w.heap.size s j hj
  cases j with
  |none=>exact ex' (this e W3 _ r4)
  |some c=>exact this e W3 _ r4
theorem aEnterM{f:FuncId}{fn:Func}{c:Code}{F:Hp}{args:List AV}{Φ:(Hp→List AV→Prop)→Prop}(hf:P.funcs[f]? =some fn)(hb:fn.body=some c)(hn:fn.ntmps=n)(hs:Nat.ble args.length n=true)
    (h: ∀K C,C.F=inH F→Φ K→AT P n [] C c (bodyPostM Fence.wide 0 P fn (Ret (Post C K))) (argE args) F):AC P f F args Φ:=fun K w S vs hS ho hr hg hK=>by
  refine callsIn_wide.1 (callsIn_of_wp_marks (F:=Fence.wide) (n:=0) hf hb trivial ?_)
  rw[hn,Qh7 n vs.toArray (by rw[List.size_toArray,hr.len];exact Nat.le_of_ble_eq_true hs)]
  refine wpIn_wide.2 (h K ⟨w,S,inH F⟩ rfl hK _ w S ⟨Frm.refl _ _,hS,fun b hb=> .inl hb,fun s=> ?_,ho.ob,fun x hx g hg=>⟨(ho.ow x hx g hg).1,.inl ⟨x,hx,hg⟩⟩,ho.nd⟩)
  have :=reps_getD hr s
  unfold argE
  cases Nat.beq s gS with
  |true=>exact hg
  |false=>simpa using this
theorem aRetM0{fn:Func}{rs:List ResultVar}{L:Hp→List AV→Prop}{l:List AV}{H':Hp}(hr:fn.results=rs.toArray)(h4:Nat.ble rs.length 4=true)(hs:List.Sublist H' H)(h:ARs P n C env H rs l)(k:L H' l):AX n [] C (bodyPostM Fence.wide 0 P fn (Ret (Post C L))) .ret env H:=fun e w S r=>by
  obtain⟨us,h1,h2,h3⟩:=h e w S r
  refine ex ?_
  show LeavesInM Fence.wide 0 P fn (mkA [] n e).tmps (Ret (Post C L)) (mkA [] n e).defers .returning w
  rw[Qbi]
  exact⟨_,results_of hr h4 h2 h3,_,rfl,H',l,S,us,k,rfl,h1,r.frm,r.lt,r.sb,r.own.subl hs⟩
theorem aRetM{fn:Func}{rs:List ResultVar}{L:Hp→List AV→Prop}{l:List AV}{H' H2:Hp}{Dn:Nat}(hr:fn.results=rs.toArray)(h4:Nat.ble rs.length 4=true)(hH:H=(some Dn,.raw (.deferred (some [])))::H2)(hs:List.Sublist H' H2)(h:ARs P n C env H2 rs l)(k:L H' l):
    AX n [{target:= .collected Dn,args:= #[]}] C (bodyPostM Fence.wide 0 P fn (Ret (Post C L))) .ret env H:=fun e w S r=>by
  subst hH
  have hD:w.heap[Dn]? =some (.deferred (some [])):=r.own.ob (some Dn,.raw _) (by simp)
  have f:Frm (fun b=>b=Dn) w (w.putObj Dn (.deferred none)):=⟨rfl,rfl,rfl,by simp,Nat.le_refl _,fun k _ hk=>World.putObj_heap_other hk⟩
  have r2:=r.raw (j:=0) rfl f (World.putObj_heap_same (Array.getElem?_eq_some_iff.1 hD).1)
  have r3:Rel C env H2 S e (w.putObj Dn (.deferred none)):=⟨r2.frm,r2.lt,r2.sb,r2.sl,r2.own.subl (List.sublist_cons_self _ _)⟩
  obtain⟨us,h1,h2,h3⟩:=h e _ S r3
  refine ex ?_
  show LeavesInM Fence.wide 0 P fn (mkA _ n e).tmps (Ret (Post C L)) (mkA _ n e).defers .returning w
  rw[Qbi]
  exact⟨by simp,.inl ⟨Dn,_,rfl,run_takeDeferred hD,_,results_of hr h4 h2 h3,_,rfl,H',l,S,us,k,rfl,h1,r3.frm,r3.lt,r3.sb,r3.own.subl hs⟩⟩
end
end Go.Am
namespace Go.Am
open Go.RowKit Go.Gx
class TB (P:Program) (t:TypeId) (zs:outParam (List AV)) (pl:outParam (List (Nat×Nat))):Prop where
  bd: ∃cs:List Value,zs=cs.map lit∧cs.all Value.oneCell'=true∧ ∀parts,P.built t parts=Instr.fill (pl.toArray[·]?) cs.toArray parts
inductive Cel:AV→List AV→Prop
  |one {a:AV}:a.sh= .one→Cel a [a]
  |agg {l:List AV}:Cel (agg l) l
theorem Cel.reps{a:AV}{l:List AV}(h:Cel a l){w:World}{S:Nat→Prop}{v:Value}(r:a.rep w S v):Am.reps w S l v.cells.toList∧ ∀c∈v.cells.toList,c.oneCell'=true:=by
  cases h with
  |one h=>
    have hk:=a.ok r
    rw[h] at hk
    have h1:=Sh.ok.size hk (by simp)
    cases v<;>simp_all [Sh.ok,Value.oneCell',Value.cells,Sh.size,Am.reps]
  |agg=>
    obtain⟨vs,rfl,h1,h2⟩:=r
    exact⟨by simpa [Value.cells] using h1,by simpa [Value.cells] using h2⟩
def fillA(pl:List (Nat×Nat)):List AV→List (Nat×List AV)→Option (List AV)
  |L,[]=>some L
  |L,(i,l)::rest=>match pl[i]? with
    |none=>none
    |some (off,size)=>bif Nat.beq l.length size&&Nat.ble (off+l.length) L.length then fillA pl (L.take off++l++L.drop (off+l.length)) rest else none
theorem reps_app{w:World}{S:Nat→Prop}: ∀{l l':List AV}{vs vs':List Value},reps w S l vs→reps w S l' vs'→reps w S (l++l') (vs++vs')
  | [],_,[],_,_,h=>h
  |_::_,_,_::_,_,⟨h1,h2⟩,h=>⟨h1,reps_app h2 h⟩
  | [],_,_::_,_,h,_=>h.elim
  |_::_,_,[],_,h,_=>h.elim
theorem reps_take{w:World}{S:Nat→Prop}: ∀{l:List AV}{vs:List Value}(k:Nat),reps w S l vs→reps w S (l.take k) (vs.take k)∧reps w S (l.drop k) (vs.drop k)
  | [],[],_,_=>by simp [reps]
  |_::_,_::_,0,h=>⟨trivial,h⟩
  |_::_,_::_,k+1,⟨h1,h2⟩=>⟨⟨h1,(reps_take k h2).1⟩,(reps_take k h2).2⟩
  | [],_::_,_,h=>h.elim
  |_::_,[],_,h=>h.elim
theorem fill_rep{w:World}{S:Nat→Prop}{pl:List (Nat×Nat)}: ∀{ps:List (Nat×List AV)}{vs:List (Nat×Value)}{L L':List AV}{cs:List Value},reps w S L cs→(∀c∈cs,c.oneCell'=true)→ps.map (·.1)=vs.map (·.1)→(∀(i:Nat) p v,ps[i]? =some p→vs[i]? =some v→reps w S p.2 v.2.cells.toList∧ ∀c∈v.2.cells.toList,c.oneCell'=true)→fillA pl L ps=some L'→
    ∃cs':List Value,Instr.fill (pl.toArray[·]?) cs.toArray vs=some cs'.toArray∧reps w S L' cs'∧ ∀c∈cs',c.oneCell'=true
  | [],[],L,L',cs,h,ho,_,_,hf=>by
    obtain rfl:=Option.some.inj hf
    exact⟨cs,rfl,h,ho⟩
  | [],_::_,_,_,_,_,_,he,_,_=>by simp at he
  |_::_,[],_,_,_,_,_,he,_,_=>by simp at he
  | (i,l)::ps,(j,v)::vs,L,L',cs,h,ho,he,hp,hf=>by
    simp only[List.map_cons,List.cons.injEq] at he
    obtain⟨rfl,he⟩:=he
    obtain⟨h0,h0'⟩:=hp 0 _ _ rfl rfl
    unfold fillA at hf
    cases hpl:pl[i]? with
    |none=>rw[hpl] at hf;cases hf
    |some q=>
      obtain⟨off,size⟩:=q
      rw[hpl] at hf
      simp only at hf
      cases hb:Nat.beq l.length size&&Nat.ble (off+l.length) L.length with
      |false=>rw[hb] at hf;cases hf
      |true=>
        rw[hb] at hf
        rw[Bool.and_eq_true] at hb
        have e1:=Nat.eq_of_beq_eq_true hb.1
        have e2:=Nat.le_of_ble_eq_true hb.2
        have e3:=h0.len
        have e4:=h.len
        simp only[Array.length_toList] at e3
        have hc:=Qcu v.cells.toList off 0 cs.toArray (by simp;omega) (by simp;omega)
        obtain⟨cs',k1,k2,k3⟩:=fill_rep (cs:=cs.take off++v.cells.toList++cs.drop (off+v.cells.toList.length)) (reps_app (reps_app (reps_take off h).1 h0) (by rw[show v.cells.toList.length=l.length by rw[Array.length_toList,e3]];exact(reps_take _ h).2))
          (fun c hc=>by
            rcases List.mem_append.1 hc with hc|hc
            · rcases List.mem_append.1 hc with hc|hc
              · exact ho c (List.mem_of_mem_take hc)
              · exact h0' c hc
            · exact ho c (List.mem_of_mem_drop hc)) he (fun i p v h1 h2=>hp (i+1) p v (by simpa using h1) (by simpa using h2)) hf
        refine⟨cs',?_,k2,k3⟩
        rw[←k1]
        simp only[Instr.fill,List.getElem?_toArray,hpl]
        rw[if_neg (by simp;omega)]
        have hf':(v.cells.zipIdx.foldl (fun cs (x:Value×Nat)=>match x with | (c,j)=>cs.setIfInBounds (off+j) c) cs.toArray)=(cs.take off++v.cells.toList++cs.drop (off+v.cells.toList.length)).toArray:=by
          obtain⟨c,hc0⟩: ∃c:List Value,v.cells=c.toArray:=⟨v.cells.toList,by simp⟩
          rw[hc0] at hc⊢
          simpa using hc
        rw[hf']
section
variable{P:Program}{n:Nat}{D:List Deferred}{C:Ctx}{env:Nat→AV}{H:Hp}{d:Option Nat}{ty:TypeId}{pos:String}{af:Array Edge}{gd:Option (Nat×Bool)}{x:Operand}{t:TypeId}
inductive Parts(n:Nat)(env:Nat→AV):List (Nat×Operand)→List (Nat×List AV)→Prop
  |nil:Parts n env [] []
  |cons {i:Nat} {x:Operand} {a:AV} {l:List AV} {ps:List (Nat×Operand)} {qs:List (Nat×List AV)}:av n env x=a→Cel a l→Parts n env ps qs→Parts n env ((i,x)::ps) ((i,l)::qs)
theorem Parts.idx{ps:List (Nat×Operand)}{qs:List (Nat×List AV)}(h:Parts n env ps qs)(e:Nat→Value):qs.map (·.1)=(ps.map fun p=>(p.1,ev n e p.2)).map (·.1):=by
  induction h with
  |nil=>rfl
  |cons _ _ _ ih=>simp [ih]
theorem Parts.reps{ps:List (Nat×Operand)}{qs:List (Nat×List AV)}(h:Parts n env ps qs){e:Nat→Value}{w:World}{S:Nat→Prop}(r:Rel C env H S e w): ∀(i:Nat) p v,qs[i]? =some p→(ps.map fun p=>(p.1,ev n e p.2))[i]? =some v→Am.reps w S p.2 v.2.cells.toList∧ ∀c∈v.2.cells.toList,c.oneCell'=true:=by
  induction h with
  |nil=>intro i p v h;simp at h
  |cons h1 h2 _ ih=>
    intro i p v hp hv
    cases i with
    |zero=>
      simp at hp hv
      subst hp hv
      exact h2.reps (r.at h1)
    |succ i=>exact ih i p v (by simpa using hp) (by simpa using hv)
theorem aeBuild{zs L':List AV}{pl:List (Nat×Nat)}[c:TB P t zs pl]{ps:List (Nat×Operand)}{qs:List (Nat×List AV)}(hp:Parts n env ps qs)(hf:fillA pl zs qs=some L'):AE P n C env H .no ⟨d,.build t ps.toArray,ty,pos,af,gd⟩ (agg L'):=fun e w S r=>by
  obtain⟨cs,rfl,h1,h2⟩:=c.bd
  have hl: ∀cs:List Value,reps w S (cs.map lit) cs:=fun cs=>by induction cs with |nil=>trivial|cons c cs ih=>exact⟨rfl,ih⟩
  obtain⟨cs',k1,k2,k3⟩:=fill_rep (hl cs) (fun c hc=>List.all_eq_true.1 h1 c hc) (hp.idx e) (hp.reps r) hf
  refine⟨.agg cs'.toArray,⟨cs',rfl,k2,k3⟩,fun w' _=> ?_⟩
  unfold Ev
  have :=run_build w' t (ps.map fun x=>(x.1,ev n e x.2)).toArray cs'.toArray (by rw[h2];exact k1)
  simp [execOp,this]
end
theorem agg_lay{w:World}{S:Nat→Prop}{l:List AV}{u:Value}(h:(agg l).rep w S u)(h1:l.all isOne=true):lay w S l u.cells.toList:=by
  obtain⟨vs,rfl,h2,_⟩:=h
  simpa [Value.cells] using reps_lay h2 h1
section
variable{P:Program}{n:Nat}{C:Ctx}{env:Nat→AV}{H:Hp}{d:Option Nat}{ty:TypeId}{pos:String}{af:Array Edge}{gd:Option (Nat×Bool)}{x y:Operand}{t:TypeId}
def cOf:Operand→Value
  | .const v=>v
  |_=>undef
def allK(ps:List (Nat×Operand)):Bool:=ps.all fun p=>match p.2 with | .const _=>true|_=>false
theorem aeBuildK{ps:List (Nat×Operand)}{L:List AV}(cs:List Value)(hL:cs.map cst1=L)(hk:allK ps=true)(hb:P.built t (ps.map fun p=>(p.1,cOf p.2))=some cs.toArray)(h1:cs.all Value.oneCell'=true):AE P n C env H .no ⟨d,.build t ps.toArray,ty,pos,af,gd⟩ (agg L):=fun e w S r=>by
  subst hL
  refine⟨.agg cs.toArray,⟨cs,rfl,reps_lit cs,List.all_eq_true.1 h1⟩,fun w' _=> ?_⟩
  unfold Ev
  have he:ps.map (fun x=>(x.1,ev n e x.2))=ps.map fun p=>(p.1,cOf p.2):=List.map_congr_left fun p hp=>by
    have :=List.all_eq_true.1 hk p hp
    obtain⟨i,o⟩:=p
    cases o<;>first |rfl| cases this
  have :=run_build w' t (ps.map fun x=>(x.1,ev n e x.2)).toArray cs.toArray (by rw[he];exact hb)
  simp [execOp,this]
class TA2 (P:Program) (t:TypeId):Prop where
  bd: ∀(A A':Option Addr)(l c l' c':Nat),P.built t [(0,.slice A l c),(1,.slice A' l' c')]=some #[.slice A l c,.slice A' l' c']
def IsSl(a:AV):Prop:= ∀w S v,a.rep w S v→ ∃A l c,v= .slice A l c
theorem isSl_sl{z:Nat}{l:List AV}:IsSl (sl z l):=fun _ _ _ ⟨A,c,h,_⟩=>⟨A,_,c,h⟩
theorem isSl_gh{k:Option Nat}{m c:Nat}:IsSl (gh k m c):=fun _ _ _ h=>⟨_,_,_,h⟩
theorem isSl_nil:IsSl nilS:=fun _ _ _ h=>⟨_,_,_,h⟩
theorem aeBuild2[c:TA2 P t]{a b:AV}(hx:av n env x=a)(hy:av n env y=b)(ha:IsSl a)(hb:IsSl b):AE P n C env H .no ⟨d,.build t #[(0,x),(1,y)],ty,pos,af,gd⟩ (agg [a,b]):=fun e w S r=>by
  have h1:=r.at hx
  have h2:=r.at hy
  obtain⟨A,l,m,e1⟩:=ha _ _ _ h1
  obtain⟨A',l',m',e2⟩:=hb _ _ _ h2
  refine⟨.agg #[.slice A l m,.slice A' l' m'],⟨[.slice A l m,.slice A' l' m'],rfl,⟨e1▸h1,e2▸h2,trivial⟩,fun c hc=>by simp at hc;rcases hc with rfl|rfl<;>rfl⟩,fun w' _=> ?_⟩
  unfold Ev
  have :=run_build w' t #[(0,ev n e x),(1,ev n e y)] #[.slice A l m,.slice A' l' m'] (by rw[e1,e2];exact c.bd A A' l m l' m')
  simp [execOp,this]
theorem aeArr{len:Nat}{el:TypeId}{k:IntKind}{q:Int}{l:List AV}{a:AV}(i:Nat)[c:TU P t (.array len el)][c':TS P el 1](h1:QfV P el=true)(hx:av n env x=agg l)(hy:av n env y=I k q)(hq:q=(i:Int))(hi:i<len)(ha:l[i]? =some a):AE P n C env H .no ⟨d,.index t x y,ty,pos,af,gd⟩ a:=fun e w S r=>by
  obtain⟨vs,h2,h3,_⟩:=r.at hx
  obtain⟨u,hu,hr⟩:=h3.get ha
  exact⟨u,hr,fun w' _=>QuZ i c.un h1 c'.sz h2 (r.lit hy) hq hi (by simpa using hu)⟩
end
attribute [irreducible] yv YC AT lit any agg tup sl ep lpt lsl gh I Bo fnv nilS AE AO AC AW AL AX AD AG A Ent ETh Args Src ARs
end Go.Am
