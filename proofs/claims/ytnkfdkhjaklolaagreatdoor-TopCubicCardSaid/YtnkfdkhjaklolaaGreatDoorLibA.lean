/-
  The laws of the walks and the plain laws of numbers and polynomials, part 1: Core, Laws, Float, Preds, NatMath, Laws2, NatMath2, IntMath, VbMath, Laws3, DivMath, DivMath2, RatMath, PolyPreds, PolyMath, PolyMath2, RefPreds, EvMath, ModMath, ModSym, HenMath, Laws4.
-/
import Derived.Orders
import Derived.Below
import Derived.Tactics
import Derived.Tactics2
import Derived.KernelRfl
import Derived.Deep.RegionHeld3
import Derived.Laws.OwnMore
import Derived.Laws.CopyRow
import Derived.Laws.Cells
import Derived.Laws.Entries
import Derived.Laws.Small
import Derived.OwnWalk
import Derived.Laws.Strings
import Derived.Scope
import Derived.Laws.AppendOwn
open Array renaming getD→Qzy,getElem?_modify→WG,replicate→Qzr
open BitVec renaming ofInt→UL,ofNat→Ue,toNat_ofNat→WK
open Bool renaming and_eq_true→UH,false_eq_true→Qzg
open Int renaming add_mul_emod_self_left→QyI,emod_eq_of_lt→Qzl,emod_nonneg→Qza,lt_trichotomy→Qy0,mul_comm→WW,mul_ne_zero→UE,mul_nonneg→Qzk,mul_zero→WH,natAbs_mul→UW,natCast_add→Qyt,natCast_mul→Wa,natCast_nonneg→QyX,ofNat_tdiv→QzA,sign_eq_neg_one_of_neg→UX,sign_eq_one_of_pos→Uq,tmod_add_mul_tdiv→QyD,tmod_lt_of_pos→Qzj,toNat_natCast→QyG,zero_mul→Qyi
open List renaming all_eq_true→QyO,append_assoc→WI,append_nil→Wg,cons_append→Qye,drop_append_of_le_length→WF,drop_eq_getElem_cons→Ws,drop_of_length_le→Us,eq_nil_of_length_eq_zero→Ua,eq_of_mem_replicate→Uu,ext_getElem→Qyf,getD→Uh,getElem?_append_left→UR,getElem?_append_right→UD,getElem?_drop→UU,getElem?_eq_getElem→Ud,getElem?_eq_none→Ul,getElem?_map→Un,getElem?_take→WA,getElem_mem→Wr,length_append→UO,length_cons→Um,length_drop→QyP,length_replicate→Wp,length_set→UF,length_take→UP,map_append→Uo,map_congr_left→Qze,map_cons→Wk,map_nil→QyE,map_toArray→Qzp,mem_cons→WN,mem_of_getElem?→Ub,mem_of_mem_drop→Wl,mem_of_mem_take→UJ,mem_or_eq_of_mem_set→Wi,not_mem_nil→Ww,range→UV,replicate→Uc,replicate_succ→Qyl,replicate_zero→Wh,set_append_right→US,set_cons_zero→WY,take_append_drop→Ux,take_append_of_le_length→UI,take_of_length_le→Ui,take_succ_eq_append_getElem→Qys
open Nat renaming add_assoc→QyH,add_mul→UZ,add_sub_cancel→Wn,add_sub_cancel_left→Qyh,add_zero→WB,beq→QyF,blt→QzJ,div_add_mod→Qym,div_div_eq_div_mul→QyA,div_eq_of_lt→Qy6,div_le_self→Qzt,div_lt_of_lt_mul→Qy9,div_mul_le_self→Qzf,eq_zero_or_pos→Uk,gcd→UK,gcd_comm→QyU,gcd_rec→Qzo,le_of_ble_eq_true→Uj,le_of_lt→Qzu,le_refl→Ug,le_succ→QzI,le_trans→Wj,lt_of_lt_of_le→UM,lt_of_mul_lt_mul_left→Qyq,lt_or_ge→Up,lt_trichotomy→Qy1,min_eq_left→UT,mod_eq_of_lt→UQ,mod_lt→UG,mul_add→Ut,mul_add_mod→Qzv,mul_assoc→UB,mul_comm→UC,mul_le_mul→QyN,mul_le_mul_left→Uf,mul_le_mul_right→Uy,mul_left_comm→Wz,mul_lt_mul_of_pos_right→Qyn,mul_one→Wt,mul_zero→QyV,one_mul→Qyy,pow_add→Wv,pow_le_pow_right→UN,pow_mul→QzC,pow_pos→WQ,pow_succ→WC,sub_self→WD,zero_add→WJ,zero_le→Qyr
open Option renaming getD_some→Qyg,map_some→QyY
open Rat renaming intCast_add→QyZ,intCast_mul→Ur,pow_succ→QyW
namespace Go.Gx
open Go.RowKit
variable{dfs:List Deferred}
theorem lq{p:Prop}(h:p:=by((try simp only[List.length_map,List.length_append,List.length_replicate,List.length_set,List.length_take,List.length_drop,List.length_cons,List.length_nil])<;>omega)):p:=h
theorem q1{p:Prop}(h:p:=by intro hh;(try dsimp only at hh);omega):p:=h
theorem q2{p:Prop}(h:p:=by intro b hb hh;(try dsimp only at hb hh);omega):p:=h
theorem q3{p:Prop}(h:p:=by intro b hlt hb hh;(try dsimp only at hb hh);omega):p:=h
theorem q4{p:Prop}(h:p:=by intro b hlt hh;(try dsimp only at hh⊢);omega):p:=h
theorem q5{p:Prop}(h:p:=by intro b hlt hb;(try dsimp only at hb⊢);omega):p:=h
def upd(e:Nat→Value)(t:Nat)(v:Value):Nat→Value:=fun s=>bif QyF s t then v else e s
def mkA(dfs:List Deferred)(n:Nat)(e:Nat→Value):Act:=⟨Array.ofFn (n:=n) fun i=>e i.val,dfs⟩
def ev(n:Nat)(e:Nat→Value):Operand→Value
 | .tmp t=>bif QzJ t n then e t else undef
 | .const v=>v
 | .global g=> .pointer (some ⟨g,0,none⟩)
 | .func f=> .func (.func f) #[] #[]
theorem QlT{a b:Nat}(h:a<b):QzJ a b=true:=by
 unfold QzJ;exact Nat.ble_eq_true_of_le h
theorem QjE{a b:Nat}(h: ¬a<b):QzJ a b=false:=by
 cases hb:QzJ a b with
 |false=>rfl
 |true=>exact absurd (Uj hb) h
theorem Yk(n:Nat)(e:Nat→Value):(mkA dfs n e).eval=ev n e:=by
 funext x
 cases x with
 |tmp t=>
  simp only[Act.eval,ev,mkA]
  by_cases h:t<n
  ·rw[QlT h];simp [Qzy,h]
  ·rw[QjE h];simp [Qzy,h]
 |const v=>rfl
 |global g=>rfl
 |func f=>rfl
theorem Qr8{a b:Nat}(h:a≠b):QyF a b=false:=by
 cases hb:QyF a b with
 |false=>rfl
 |true=>exact absurd (Nat.eq_of_beq_eq_true hb) h
theorem QlP(a:Nat):QyF a a=true:=by simp
theorem upd_same(e:Nat→Value)(t:Nat)(v:Value):upd e t v t=v:=by simp [upd]
theorem Qcz(e:Nat→Value){t s:Nat}(v:Value)(h:s≠t):upd e t v s=e s:=by
 simp only[upd,Qr8 h,cond_false]
theorem Xm{e:Nat→Value}{t:Nat}{v:Value}(h:e t=v):upd e t v=e:=by
 funext s
 by_cases hs:s=t
 ·subst hs;rw[upd_same,h]
 ·rw[Qcz e v hs]
theorem sq{e:Nat→Value}{t:Nat}{v:Value}(h:e t=v): ∃r,e=upd r t v:=⟨e,(Xm h).symm⟩
theorem YM(n:Nat)(e:Nat→Value)(d:Nat)(v:Value):(mkA dfs n e).put (some d) v=mkA dfs n (upd e d v):=by
 unfold Act.put mkA
 simp only[Act.mk.injEq,and_true]
 apply Array.ext
 ·simp
 ·intro i h1 h2
  simp at h1 h2
  by_cases hd:i=d
  ·subst hd;simp [upd_same]
  ·rw[Array.getElem_setIfInBounds (by simpa using h1),if_neg (Ne.symm hd)]
   simp [Qcz e v hd]
theorem Qgq(a:Act)(v:Value):a.put none v=a:=rfl
theorem Qj0(n:Nat)(args:Array Value)(h:args.size≤n):
  (⟨args++Qzr (n -args.size) undef,[]⟩:Act)=mkA [] n (fun t=>args.getD t undef):=by
 unfold mkA
 simp only[Act.mk.injEq,and_true]
 apply Array.ext
 ·simp;omega
 ·intro i h1 h2
  simp at h1 h2
  by_cases hi:i<args.size
  ·simp [Array.getElem_append_left hi,Qzy,hi]
  ·simp [Array.getElem_append_right (Nat.le_of_not_lt hi),Qzy,hi]
theorem Qq9(n:Nat)(e:Nat→Value)(t:Nat):(mkA dfs n e).tmps.getD t undef=ev n e (.tmp t):=by
 rw[←Yk];rfl
theorem Qar(n:Nat)(e:Nat→Value):(mkA dfs n e).defers=dfs:=rfl
structure Frm (G:Nat→Prop) (w w':World):Prop where
 os:w'.os=w.os
 tape:w'.tape=w.tape
 output:w'.output=w.output
 size:w.heap.size≤w'.heap.size
 drawn:w.drawn≤w'.drawn
 block: ∀k,k<w.heap.size→ ¬G k→w'.heap[k]? =w.heap[k]?
abbrev Ext(w w':World):Prop:=Frm (fun _=>False) w w'
theorem Frm.refl(G:Nat→Prop)(w:World):Frm G w w:=⟨rfl,rfl,rfl,Ug _,Ug _,fun _ _ _=>rfl⟩
theorem Frm.trans{G:Nat→Prop}{a b c:World}(h:Frm G a b)(k:Frm G b c):Frm G a c:=
 ⟨k.os.trans h.os,k.tape.trans h.tape,k.output.trans h.output,Wj h.size k.size,Wj h.drawn k.drawn,
  fun i hi hg=>(k.block i (UM hi h.size) hg).trans (h.block i hi hg)⟩
theorem Frm.mono{G G':Nat→Prop}{w w':World}(h:Frm G w w')(hG: ∀b,b<w.heap.size→G b→G' b):Frm G' w w':=
 ⟨h.os,h.tape,h.output,h.size,h.drawn,fun k hk hg=>h.block k hk fun g=>hg (hG k hk g)⟩
theorem Frm.of_ext{G:Nat→Prop}{w w':World}(h:Ext w w'):Frm G w w':=h.mono fun _ _ f=>f.elim
theorem Frm.xr{G:Nat→Prop}{a b c:World}(h:Frm G a b)(k:Ext b c):Frm G a c:=h.trans k.of_ext
theorem Frm.rx{G:Nat→Prop}{a b c:World}(h:Ext a b)(k:Frm G b c):Frm G a c:=h.of_ext.trans k
theorem Frm.tr{G H:Nat→Prop}{a b c:World}(h:Frm G a b)(k:Frm H b c):Frm (fun x=>G x∨H x) a c:=
 (h.mono fun _ _ g=> .inl g).trans (k.mono fun _ _ g=> .inr g)
theorem Frm.below{w w':World}(h:Ext w w'):Below w.heap.size w w':=⟨h.os,h.tape,h.output,h.size,fun k hk=>h.block k hk fun f=>f⟩
theorem Ql5(w:World):Ext w w.drew:=⟨rfl,rfl,rfl,Ug _,QzI _,fun _ _ _=>rfl⟩
theorem Frm.cell{G:Nat→Prop}{w w':World}(h:Frm G w w'){p:Addr}(hp:p.block<w.heap.size)(hg: ¬G p.block):w'.cell? p=w.cell? p:=
 World.cell?_of_block (w:=w) (h.block p.block hp hg)
def Blk(w:World)(g:Nat)(t:TypeId)(cs:List Value):Prop:=w.heap[g]? =some (.cells cs.toArray t (0,0))
theorem Blk.lt{w:World}{g:Nat}{t:TypeId}{cs:List Value}(h:Blk w g t cs):g<w.heap.size:=by
 rcases Up g w.heap.size with hlt|hge
 ·exact hlt
 ·unfold Blk at h;rw[Array.getElem?_eq_none hge] at h;cases h
theorem Blk.frm{G:Nat→Prop}{w w':World}{g:Nat}{t:TypeId}{cs:List Value}(h:Blk w g t cs)(k:Frm G w w')(hg: ¬G g):Blk w' g t cs:=
 (k.block g h.lt hg).trans h
theorem Blk.ext{w w':World}{g:Nat}{t:TypeId}{cs:List Value}(h:Blk w g t cs)(k:Ext w w'):Blk w' g t cs:=h.frm k fun f=>f
theorem Blk.cell{w:World}{g:Nat}{t:TypeId}{cs:List Value}(h:Blk w g t cs)(i:Nat):w.cell? ⟨g,i,none⟩=cs[i]? :=by
 unfold Blk at h;simp [World.cell?,h]
theorem Blk.at_{w:World}{g:Nat}{t:TypeId}{cs:List Value}(h:Blk w g t cs){i:Nat}{v:Value}(hv:cs[i]? =some v):w.cell? ⟨g,i,none⟩=some v:=by
 rw[h.cell,hv]
theorem Blk.new(w:World)(t:TypeId)(cs:List Value):Blk (w.alloc (.cells cs.toArray t)) w.heap.size t cs:=by
 show(w.heap.push _)[w.heap.size]? =_
 simp
theorem QbE(w:World)(o:Obj):Ext w (w.alloc o):=
 ⟨rfl,rfl,rfl,by simp,Ug _,fun k hk _=>Below.heap_alloc _ _ _ hk⟩
def Ev(P:Program)(n:Nat)(e:Nat→Value)(o:Oper)(w:World)(v:Value):Prop:=(execOp (ev n e) o).run P w= .ok (.value v) w
theorem Qdm{P:Program}{n:Nat}{e:Nat→Value}{w:World}{x:Operand}{d:Option Nat}{ty:TypeId}{pos:String}{af:Array Edge}{gd:Option (Nat×Bool)}{v:Value}(hx:ev n e x=v):Ev P n e ⟨d,.move x,ty,pos,af,gd⟩ w v:=by subst hx;rfl
theorem Qbc{P:Program}{n:Nat}{e:Nat→Value}{w:World}{x:Operand}{d:Option Nat}{ty:TypeId}{pos:String}{af:Array Edge}{gd:Option (Nat×Bool)}{v:Value}(hx:ev n e x=v):Ev P n e ⟨d,.assign x,ty,pos,af,gd⟩ w v:=by subst hx;rfl
def guardOf(n:Nat)(e:Nat→Value)(ops:Array Oper)(j:Nat):Option Bool:=
 match(ops[j]?).bind (·.dst) with
 |some t=>match ev n e (.tmp t) with | .bool b=>some b|_=>none
 |none=>none
theorem QlM(n:Nat)(e:Nat→Value)(ops:Array Oper)(j:Nat):yielded ops (mkA dfs n e).tmps j=guardOf n e ops j:=by
 unfold yielded guardOf
 cases h:(ops[j]?).bind (·.dst) with
 |none=>rfl
 |some t=>
  simp only[Option.bind_some]
  by_cases ht:t<n
  ·simp [mkA,ht,ev,QlT ht]
   cases e t<;>rfl
  ·simp [mkA,ht,ev,QjE ht,undef]
def Qaa(n:Nat)(e:Nat→Value)(ops:Array Oper)(g:Option (Nat×Bool)):Bool:=
 match g with
 |none=>true
 |some (j,want)=>guardOf n e ops j==some want
theorem Zd(n:Nat)(e:Nat→Value)(ops:Array Oper)(o:Oper):Region.wanted o (yielded ops (mkA dfs n e).tmps)=Qaa n e ops o.guard:=by
 unfold Region.wanted Qaa
 cases o.guard with
 |none=>rfl
 |some g=>simp only[QlM]
def OpW(P:Program)(o:Oper)(a:Act)(w:World)(K:Act→World→Prop)(Q:Exit→Act→World→Prop):Prop:=Oper.wp P o a w K Q
section seq
variable{P:Program}{ops:Array Oper}{Q:Exit→Act→World→Prop}{n:Nat}{e:Nat→Value}{w:World}{rest:List Oper}{o:Oper}
theorem sEv{d:Nat}{v:Value}(hv:Ev P n e o w v)(hd:o.dst=some d)(hg:Qaa n e ops o.guard=true)
  (k:wpList P ops Q rest (mkA dfs n (upd e d v)) w):wpList P ops Q (o::rest) (mkA dfs n e) w:=by
 unfold wpList
 rw[Zd,hg,if_pos rfl]
 refine .inl ?_
 unfold Oper.wp
 rw[Yk,hv]
 show wpList P ops Q rest ((mkA dfs n e).put o.dst v) w
 rw[hd,YM]
 exact k
theorem XH{d:Nat}(hd:o.dst=some d)(hg:Qaa n e ops o.guard=false)
  (k:wpList P ops Q rest (mkA dfs n (upd e d undef)) w):wpList P ops Q (o::rest) (mkA dfs n e) w:=by
 unfold wpList
 rw[Zd,hg,if_neg (by simp),hd,YM]
 exact k
theorem sOp(hg:Qaa n e ops o.guard=true)(k:OpW P o (mkA dfs n e) w (wpList P ops Q rest) Q):wpList P ops Q (o::rest) (mkA dfs n e) w:=by
 unfold wpList
 rw[Zd,hg,if_pos rfl]
 exact .inl k
theorem sV{op:Op}{ty:TypeId}{pos:String}{af:Array Edge}{d:Nat}{v:Value}(hv:Ev P n e ⟨some d,op,ty,pos,af,none⟩ w v)(k:wpList P ops Q rest (mkA dfs n (upd e d v)) w):
  wpList P ops Q (⟨some d,op,ty,pos,af,none⟩::rest) (mkA dfs n e) w:=sEv hv rfl rfl k
theorem sMi{x:Operand}{ty:TypeId}{pos:String}{af:Array Edge}{d:Nat}{k:IntKind}{a:Int}(hx:ev n e x= .int k a)(h:wpList P ops Q rest (mkA dfs n (upd e d (.int k a))) w):
  wpList P ops Q (⟨some d,.move x,ty,pos,af,none⟩::rest) (mkA dfs n e) w:=sEv (Qdm hx) rfl rfl h
theorem sMs{x:Operand}{ty:TypeId}{pos:String}{af:Array Edge}{d:Nat}{A:Option Addr}{m c:Nat}(hx:ev n e x= .slice A m c)(h:wpList P ops Q rest (mkA dfs n (upd e d (.slice A m c))) w):
  wpList P ops Q (⟨some d,.move x,ty,pos,af,none⟩::rest) (mkA dfs n e) w:=sEv (Qdm hx) rfl rfl h
theorem sMp{x:Operand}{ty:TypeId}{pos:String}{af:Array Edge}{d:Nat}{p:Addr}(hx:ev n e x= .pointer (some p))(h:wpList P ops Q rest (mkA dfs n (upd e d (.pointer (some p)))) w):
  wpList P ops Q (⟨some d,.move x,ty,pos,af,none⟩::rest) (mkA dfs n e) w:=sEv (Qdm hx) rfl rfl h
theorem sMb{x:Operand}{ty:TypeId}{pos:String}{af:Array Edge}{d:Nat}{b:Bool}(hx:ev n e x= .bool b)(h:wpList P ops Q rest (mkA dfs n (upd e d (.bool b))) w):
  wpList P ops Q (⟨some d,.move x,ty,pos,af,none⟩::rest) (mkA dfs n e) w:=sEv (Qdm hx) rfl rfl h
theorem sAi{x:Operand}{ty:TypeId}{pos:String}{af:Array Edge}{d:Nat}{k:IntKind}{a:Int}(hx:ev n e x= .int k a)(h:wpList P ops Q rest (mkA dfs n (upd e d (.int k a))) w):
  wpList P ops Q (⟨some d,.assign x,ty,pos,af,none⟩::rest) (mkA dfs n e) w:=sEv (Qbc hx) rfl rfl h
theorem sAs{x:Operand}{ty:TypeId}{pos:String}{af:Array Edge}{d:Nat}{A:Option Addr}{m c:Nat}(hx:ev n e x= .slice A m c)(h:wpList P ops Q rest (mkA dfs n (upd e d (.slice A m c))) w):
  wpList P ops Q (⟨some d,.assign x,ty,pos,af,none⟩::rest) (mkA dfs n e) w:=sEv (Qbc hx) rfl rfl h
theorem sAp{x:Operand}{ty:TypeId}{pos:String}{af:Array Edge}{d:Nat}{p:Addr}(hx:ev n e x= .pointer (some p))(h:wpList P ops Q rest (mkA dfs n (upd e d (.pointer (some p)))) w):
  wpList P ops Q (⟨some d,.assign x,ty,pos,af,none⟩::rest) (mkA dfs n e) w:=sEv (Qbc hx) rfl rfl h
theorem sAb{x:Operand}{ty:TypeId}{pos:String}{af:Array Edge}{d:Nat}{b:Bool}(hx:ev n e x= .bool b)(h:wpList P ops Q rest (mkA dfs n (upd e d (.bool b))) w):
  wpList P ops Q (⟨some d,.assign x,ty,pos,af,none⟩::rest) (mkA dfs n e) w:=sEv (Qbc hx) rfl rfl h
theorem sO{op:Op}{ty:TypeId}{pos:String}{af:Array Edge}{d:Option Nat}(k:OpW P ⟨d,op,ty,pos,af,none⟩ (mkA dfs n e) w (wpList P ops Q rest) Q):
  wpList P ops Q (⟨d,op,ty,pos,af,none⟩::rest) (mkA dfs n e) w:=sOp rfl k
theorem XB{n:Nat}{e:Nat→Value}{w:World}(h:Q .normal (mkA dfs n e) w):wpList P ops Q [] (mkA dfs n e) w:=h
end seq
section draw
variable{P:Program}{ops:Array Oper}{Q:Exit→Act→World→Prop}{md:Region.Mode}{R:World→World→Prop}
def QaE(P:Program)(ops:Array Oper)(R:World→World→Prop)(w:World)(o:Oper)(v:Value)(a:Act):Prop:=
 (Region.wanted o (yielded ops a.tmps)=true∧ ∀w',R w w'→(execOp a.eval o).run P w'= .ok (.value v) w')∨
 (Region.wanted o (yielded ops a.tmps)=false∧v=undef)
theorem QaE.later(ht: ∀a b c,R a b→R b c→R a c){w w':World}{o:Oper}{v:Value}{a:Act}(h:QaE P ops R w o v a)(hr:R w w'):QaE P ops R w' o v a:=
 h.imp (fun⟨hw,hv⟩=>⟨hw,fun w2 h2=>hv w2 (ht _ _ _ hr h2)⟩) id
theorem QaE.of_same{w:World}{o:Oper}{v:Value}{a a':Act}(hy:QaE P ops R w o v a)(he:execOp a'.eval o=execOp a.eval o)
  (hw:Region.wanted o (yielded ops a'.tmps)=Region.wanted o (yielded ops a.tmps)):QaE P ops R w o v a':=by
 unfold QaE at *
 rw[he,hw]
 exact hy
theorem QaE.wpOp(hr: ∀a,R a a){i:Nat}{o:Oper}{v:Value}{a:Act}{w:World}(hi:ops[i]? =some o)(hy:QaE P ops R w o v a)
  {K:Act→World→Prop}(h:K (a.put o.dst v) w):wpOp P ops Q i K a w:=by
 unfold Go.wpOp
 simp only[hi]
 rcases hy with⟨hw,hv⟩| ⟨hw,rfl⟩
 ·simp only[hw,if_true,Oper.wp,hv w (hr w),Oper.upon];exact .inl h
 ·simp only[hw,Qzg,if_false];exact h
def QkJ(P:Program)(md:Region.Mode)(ops:Array Oper)(Q:Exit→Act→World→Prop)(R:World→World→Prop):Nat→Array Bool→Act→World→Prop
 |0,listed,a,w=>Region.ready md ops listed=[]∧Q .normal a w
 |fuel+1,listed,a,w=>
  (Region.ready md ops listed=[]→Q .normal a w)∧
  ∀i∈Region.ready md ops listed,wpOp P ops Q i (fun a' w'=>R w w'∧QkJ P md ops Q R fuel (listed.setIfInBounds i true) a' w') a w
theorem Qig: ∀(fuel:Nat)(listed:Array Bool)(a:Act)(w:World),QkJ P md ops Q R fuel listed a w→wpAny P md ops Q fuel listed a w
 |0,_,_,_,h=>h
 |fuel+1,_,_,_,h=>⟨h.1,fun i hi=>wpOp_mono (fun a' w' h'=>Qig fuel _ a' w' h'.2) (h.2 i hi)⟩
theorem Qqt{j:Nat}{oi oj:Oper}{v:Value}(hj:ops[j]? =some oj)(hap:oi.apart ops oj=true)
  (hsi: ∀cs b,oi.op≠ .select cs b)(hsj: ∀cs b,oj.op≠ .select cs b)
  (hQ: ∀c a w,Q (.panic c) (a.put oi.dst v) w→Q (.panic c) a w){K:Act→World→Prop}{a:Act}{w:World}
  (hy:QaE P ops R w oi v a)(h:wpOp P ops Q j K (a.put oi.dst v) w):
  wpOp P ops Q j (fun a' w'=>QaE P ops R w oi v a'∧K (a'.put oi.dst v) w') a w:=by
 obtain⟨h1,h2,h3⟩:=Oper.apart_spec hap
 have keep: ∀(a:Act),QaE P ops R w oi v a→ ∀u,QaE P ops R w oi v (a.put oj.dst u):=fun a hy u=>
  hy.of_same (execOp_put oi hsi a oj.dst u h3) (wanted_put oi a oj.dst u h3)
 have keepD: ∀d,QaE P ops R w oi v {a with defers:=d::a.defers}:=fun d=>hy.of_same rfl rfl
 unfold wpOp at *
 simp only[hj] at *
 rw[wanted_put oj a oi.dst v h1] at h
 split
 ·rename_i hw
  simp only[hw,if_true] at h
  rcases h with h| ⟨hasks,hlets⟩
  case inr=>exact .inr ⟨by unfold Oper.asks at *;rw[execOp_put oj hsj a oi.dst v h1] at hasks;exact hasks,hlets⟩
  refine .inl ?_
  unfold Oper.wp at *
  rw[execOp_put oj hsj a oi.dst v h1] at h
  generalize(execOp a.eval oj).run P w=r at *
  cases r with
  |ok n w'=>
   cases n<;>simp only[Oper.upon] at h⊢
   case value u=>exact⟨keep a hy u,by rw[←Act.put_comm a v u h2];exact h⟩
   case skip=>exact⟨keep a hy _,by rw[←Act.put_comm a v undef h2];exact h⟩
   case defer d=>
    refine⟨keep _ (keepD d) _,?_⟩
    rw[←Act.put_comm _ v undef h2,←Act.put_defers]
    exact h
   case enter f args=>
    refine Calls.mono h fun e w'' he=> ?_
    cases e with
    |returned u=>exact⟨keep a hy u,by rw[←Act.put_comm a v u h2];exact he⟩
    |panicked c=>exact hQ _ _ _ he
    |outgrown=>exact he
   case row row args=>exact Rows.mono h fun u w'' he=>⟨keep a hy u,by rw[←Act.put_comm a v u h2];exact he⟩
  |halt x w'=>
   cases x<;>simp only[Oper.upon] at h⊢
   case panic u=>exact hQ _ _ _ h
 ·rename_i hw
  simp only[hw] at h
  exact⟨keep a hy _,by rw[←Act.put_comm a v undef h2];exact h⟩
theorem QkK(hr: ∀a,R a a)(ht: ∀a b c,R a b→R b c→R a c){i:Nat}{oi:Oper}{v:Value}(hi:ops[i]? =some oi)
  (hsel: ∀(j:Nat)(o:Oper) cs b,ops[j]? =some o→o.op≠ .select cs b)
  (hQ: ∀c a w,Q (.panic c) (a.put oi.dst v) w→Q (.panic c) a w):
  ∀(fuel:Nat)(listed:Array Bool)(a:Act)(w:World),
   (∀j oj,ops[j]? =some oj→j≠i→listed.getD j true=false→(∀e∈oj.after,Region.binds md e=true→e.on≠i)→oi.apart ops oj=true)→
   i∈Region.ready md ops listed→QaE P ops R w oi v a→
   QkJ P md ops Q R fuel (listed.setIfInBounds i true) (a.put oi.dst v) w→QkJ P md ops Q R (fuel+1) listed a w:=by
 intro fuel
 induction fuel with
 |zero=>
  intro listed a w _ hrd hy H
  refine⟨fun h=>(by rw[h] at hrd;cases hrd),fun j hj=> ?_⟩
  by_cases hji:j=i
  ·subst hji;exact hy.wpOp hr hi ⟨hr w,H⟩
  ·have :=ready_mono hj hji
   rw[H.1] at this
   cases this
 |succ fuel ih=>
  intro listed a w hfree hrd hy H
  refine⟨fun h=>(by rw[h] at hrd;cases hrd),fun j hj=> ?_⟩
  by_cases hji:j=i
  ·subst hji;exact hy.wpOp hr hi ⟨hr w,H⟩
  ·have h1:=H.2 j (ready_mono hj hji)
   obtain⟨hjun,oj,hoj,hall⟩:=mem_ready.1 hj
   have hnot: ∀e∈oj.after,Region.binds md e=true→e.on≠i:=fun e he hb heq=>by
    have h1:=hall e he hb
    have h0:=(mem_ready.1 hrd).1
    rw[heq] at h1
    rcases Up i listed.size with h'|h'
    ·simp [h'] at h0 h1;rw[h0] at h1;cases h1
    ·simp [Array.getElem?_eq_none h'] at h1
   have h2:=Qqt hoj (hfree j oj hoj hji hjun hnot) (fun cs b=>hsel i oi cs b hi) (fun cs b=>hsel j oj cs b hoj) hQ hy h1
   have hfree': ∀k ok,ops[k]? =some ok→k≠i→(listed.setIfInBounds j true).getD k true=false→
     (∀e∈ok.after,Region.binds md e=true→e.on≠i)→oi.apart ops ok=true:=fun k ok hk hki hun hno=>by
    refine hfree k ok hk hki ?_ hno
    by_cases hjk:j=k
    ·subst hjk;exact hjun
    ·rw[getD_set_ne true hjk] at hun;exact hun
   refine wpOp_mono (fun a' w' h3=>⟨h3.2.1,ih (listed.setIfInBounds j true) a' w' hfree' (ready_mono hrd (Ne.symm hji)) (h3.1.later ht h3.2.1) ?_⟩) h2
   rw[Array.setIfInBounds_comm _ _ hji]
   exact h3.2.2
theorem Qq7(G:Nat→Prop): ∀a,Frm G a a:=Frm.refl G
theorem Qo9(G:Nat→Prop): ∀a b c,Frm G a b→Frm G b c→Frm G a c:=fun _ _ _=>Frm.trans
abbrev Dr(P:Program)(ops:Array Oper)(Q:Exit→Act→World→Prop)(G:Nat→Prop)(fuel:Nat)(listed:Array Bool)(a:Act)(w:World):Prop:=
 QkJ P .any ops (NoPanic Q) (Frm G) fuel listed a w
theorem XA{id:Nat}{a:Act}{w:World}(G:Nat→Prop)(hm:P.follows .mixedOrders=true)
  (h: ∀w',Ext w w'→w'.heap.size=w.heap.size→Dr P ops Q G ops.size (Qzr ops.size false) a w'):(Code.region id ops true).wp P Q a w:=
 wp_region_noPanic (wp_region_any hm (Qig _ _ _ _ (h w.drew (Ql5 w) rfl)))
theorem dEv{G:Nat→Prop}{n:Nat}{e:Nat→Value}{w:World}{fuel:Nat}{listed:Array Bool}(i:Nat){o:Oper}{d:Nat}{v:Value}
  (ho:ops[i]? =some o)(hv: ∀w',Frm G w w'→Ev P n e o w' v)(hd:o.dst=some d)(hg:Qaa n e ops o.guard=true)
  (hc:(Region.noSelect ops&&Region.free .any ops listed i&& (Region.ready .any ops listed).contains i)=true)
  (k:Dr P ops Q G fuel (listed.setIfInBounds i true) (mkA dfs n (upd e d v)) w):Dr P ops Q G (fuel+1) listed (mkA dfs n e) w:=by
 simp only[UH] at hc
 refine QkK (Qq7 G) (Qo9 G) ho (Region.noSelect_spec hc.1.1) (fun _ _ _ h=>h) fuel listed _ w (Region.free_spec ho hc.1.2) (by simpa using hc.2) (v:=v) (.inl ⟨by rw[Zd];exact hg,fun w' hr=>by rw[Yk];exact hv w' hr⟩) ?_
 rw[hd,YM]
 exact k
theorem dV{G:Nat→Prop}{n:Nat}{e:Nat→Value}{w:World}{fuel:Nat}{listed:Array Bool}(i:Nat){op:Op}{ty:TypeId}{pos:String}{af:Array Edge}{d:Nat}{v:Value}
  (ho:ops[i]? =some ⟨some d,op,ty,pos,af,none⟩)(hv: ∀w',Frm G w w'→Ev P n e ⟨some d,op,ty,pos,af,none⟩ w' v)
  (k:Dr P ops Q G fuel (listed.setIfInBounds i true) (mkA dfs n (upd e d v)) w)
  (hc:(Region.noSelect ops&&Region.free .any ops listed i&& (Region.ready .any ops listed).contains i)=true:=by kernel_rfl):Dr P ops Q G (fuel+1) listed (mkA dfs n e) w:=
 dEv i ho hv rfl rfl hc k
theorem dMi{G:Nat→Prop}{n:Nat}{e:Nat→Value}{w:World}{fuel:Nat}{listed:Array Bool}(i:Nat){x:Operand}{ty:TypeId}{pos:String}{af:Array Edge}{d:Nat}{k:IntKind}{a:Int}
  (ho:ops[i]? =some ⟨some d,.move x,ty,pos,af,none⟩)(hx:ev n e x= .int k a)(h:Dr P ops Q G fuel (listed.setIfInBounds i true) (mkA dfs n (upd e d (.int k a))) w)
  (hc:(Region.noSelect ops&&Region.free .any ops listed i&& (Region.ready .any ops listed).contains i)=true:=by kernel_rfl):Dr P ops Q G (fuel+1) listed (mkA dfs n e) w:=
 dEv i ho (fun _ _=>Qdm hx) rfl rfl hc h
theorem dMs{G:Nat→Prop}{n:Nat}{e:Nat→Value}{w:World}{fuel:Nat}{listed:Array Bool}(i:Nat){x:Operand}{ty:TypeId}{pos:String}{af:Array Edge}{d:Nat}{A:Option Addr}{m c:Nat}
  (ho:ops[i]? =some ⟨some d,.move x,ty,pos,af,none⟩)(hx:ev n e x= .slice A m c)(h:Dr P ops Q G fuel (listed.setIfInBounds i true) (mkA dfs n (upd e d (.slice A m c))) w)
  (hc:(Region.noSelect ops&&Region.free .any ops listed i&& (Region.ready .any ops listed).contains i)=true:=by kernel_rfl):Dr P ops Q G (fuel+1) listed (mkA dfs n e) w:=
 dEv i ho (fun _ _=>Qdm hx) rfl rfl hc h
theorem dMp{G:Nat→Prop}{n:Nat}{e:Nat→Value}{w:World}{fuel:Nat}{listed:Array Bool}(i:Nat){x:Operand}{ty:TypeId}{pos:String}{af:Array Edge}{d:Nat}{p:Addr}
  (ho:ops[i]? =some ⟨some d,.move x,ty,pos,af,none⟩)(hx:ev n e x= .pointer (some p))(h:Dr P ops Q G fuel (listed.setIfInBounds i true) (mkA dfs n (upd e d (.pointer (some p)))) w)
  (hc:(Region.noSelect ops&&Region.free .any ops listed i&& (Region.ready .any ops listed).contains i)=true:=by kernel_rfl):Dr P ops Q G (fuel+1) listed (mkA dfs n e) w:=
 dEv i ho (fun _ _=>Qdm hx) rfl rfl hc h
theorem dAi{G:Nat→Prop}{n:Nat}{e:Nat→Value}{w:World}{fuel:Nat}{listed:Array Bool}(i:Nat){x:Operand}{ty:TypeId}{pos:String}{af:Array Edge}{d:Nat}{k:IntKind}{a:Int}
  (ho:ops[i]? =some ⟨some d,.assign x,ty,pos,af,none⟩)(hx:ev n e x= .int k a)(h:Dr P ops Q G fuel (listed.setIfInBounds i true) (mkA dfs n (upd e d (.int k a))) w)
  (hc:(Region.noSelect ops&&Region.free .any ops listed i&& (Region.ready .any ops listed).contains i)=true:=by kernel_rfl):Dr P ops Q G (fuel+1) listed (mkA dfs n e) w:=
 dEv i ho (fun _ _=>Qbc hx) rfl rfl hc h
theorem dAs{G:Nat→Prop}{n:Nat}{e:Nat→Value}{w:World}{fuel:Nat}{listed:Array Bool}(i:Nat){x:Operand}{ty:TypeId}{pos:String}{af:Array Edge}{d:Nat}{A:Option Addr}{m c:Nat}
  (ho:ops[i]? =some ⟨some d,.assign x,ty,pos,af,none⟩)(hx:ev n e x= .slice A m c)(h:Dr P ops Q G fuel (listed.setIfInBounds i true) (mkA dfs n (upd e d (.slice A m c))) w)
  (hc:(Region.noSelect ops&&Region.free .any ops listed i&& (Region.ready .any ops listed).contains i)=true:=by kernel_rfl):Dr P ops Q G (fuel+1) listed (mkA dfs n e) w:=
 dEv i ho (fun _ _=>Qbc hx) rfl rfl hc h
theorem dAb{G:Nat→Prop}{n:Nat}{e:Nat→Value}{w:World}{fuel:Nat}{listed:Array Bool}(i:Nat){x:Operand}{ty:TypeId}{pos:String}{af:Array Edge}{d:Nat}{b:Bool}
  (ho:ops[i]? =some ⟨some d,.assign x,ty,pos,af,none⟩)(hx:ev n e x= .bool b)(h:Dr P ops Q G fuel (listed.setIfInBounds i true) (mkA dfs n (upd e d (.bool b))) w)
  (hc:(Region.noSelect ops&&Region.free .any ops listed i&& (Region.ready .any ops listed).contains i)=true:=by kernel_rfl):Dr P ops Q G (fuel+1) listed (mkA dfs n e) w:=
 dEv i ho (fun _ _=>Qbc hx) rfl rfl hc h
theorem dOp{G:Nat→Prop}{n:Nat}{e:Nat→Value}{w:World}{fuel:Nat}{listed:Array Bool}(i:Nat){o:Oper}
  (ho:ops[i]? =some o)(hg:Qaa n e ops o.guard=true)(hc:Region.ready .any ops listed=[i])
  (k:OpW P o (mkA dfs n e) w (fun a' w'=>Frm G w w'∧Dr P ops Q G fuel (listed.setIfInBounds i true) a' w') (NoPanic Q)):Dr P ops Q G (fuel+1) listed (mkA dfs n e) w:=by
 refine⟨fun h=>(by rw[h] at hc;cases hc),fun j hj=> ?_⟩
 rw[hc] at hj
 obtain rfl:j=i:=by simpa using hj
 unfold wpOp
 simp only[ho]
 rw[Zd,hg,if_pos rfl]
 exact .inl k
theorem QdN{G:Nat→Prop}{a:Act}{w:World}{fuel:Nat}{listed:Array Bool}(i j:Nat)(hc:Region.ready .any ops listed=[i,j])
  (hi:wpOp P ops (NoPanic Q) i (fun a' w'=>Frm G w w'∧Dr P ops Q G fuel (listed.setIfInBounds i true) a' w') a w)
  (hj:wpOp P ops (NoPanic Q) j (fun a' w'=>Frm G w w'∧Dr P ops Q G fuel (listed.setIfInBounds j true) a' w') a w):Dr P ops Q G (fuel+1) listed a w:=by
 refine⟨fun h=>(by rw[h] at hc;cases hc),fun k hk=> ?_⟩
 rw[hc] at hk
 simp only[WN,Ww,or_false] at hk
 rcases hk with rfl|rfl
 ·exact hi
 ·exact hj
theorem Qsu{G:Nat→Prop}{a:Act}{w:World}{fuel:Nat}{listed:Array Bool}(i j l:Nat)(hc:Region.ready .any ops listed=[i,j,l])
  (hi:wpOp P ops (NoPanic Q) i (fun a' w'=>Frm G w w'∧Dr P ops Q G fuel (listed.setIfInBounds i true) a' w') a w)
  (hj:wpOp P ops (NoPanic Q) j (fun a' w'=>Frm G w w'∧Dr P ops Q G fuel (listed.setIfInBounds j true) a' w') a w)
  (hl:wpOp P ops (NoPanic Q) l (fun a' w'=>Frm G w w'∧Dr P ops Q G fuel (listed.setIfInBounds l true) a' w') a w):Dr P ops Q G (fuel+1) listed a w:=by
 refine⟨fun h=>(by rw[h] at hc;cases hc),fun k hk=> ?_⟩
 rw[hc] at hk
 simp only[WN,Ww,or_false] at hk
 rcases hk with rfl|rfl|rfl
 ·exact hi
 ·exact hj
 ·exact hl
theorem dWp{K:Act→World→Prop}{n:Nat}{e:Nat→Value}{w:World}{i:Nat}{o:Oper}(ho:ops[i]? =some o)(hg:Qaa n e ops o.guard=true)
  (k:OpW P o (mkA dfs n e) w K (NoPanic Q)):wpOp P ops (NoPanic Q) i K (mkA dfs n e) w:=by
 unfold wpOp
 simp only[ho]
 rw[Zd,hg,if_pos rfl]
 exact .inl k
theorem XG{G:Nat→Prop}{a:Act}{w:World}{fuel:Nat}{listed:Array Bool}(hc:Region.ready .any ops listed=[])(h:Q .normal a w):Dr P ops Q G fuel listed a w:=by
 cases fuel with
 |zero=>exact⟨hc,h⟩
 |succ fuel=>exact⟨fun _=>h,fun j hj=>by rw[hc] at hj;cases hj⟩
end draw
attribute [irreducible] mkA OpW
end Go.Gx

namespace Go.Gx
open Go.RowKit
variable{dfs:List Deferred}
section control
variable{P:Program}{Q:Exit→Act→World→Prop}{n:Nat}{e:Nat→Value}{w:World}
theorem cT{c:Operand}{x y:Code}(hc:ev n e c= .bool true)(h:x.wp P Q (mkA dfs n e) w):(Code.cond c x y).wp P Q (mkA dfs n e) w:=
 wp_cond_true (by rw[Yk];exact hc) h
theorem cF{c:Operand}{x y:Code}(hc:ev n e c= .bool false)(h:y.wp P Q (mkA dfs n e) w):(Code.cond c x y).wp P Q (mkA dfs n e) w:=
 wp_cond_false (by rw[Yk];exact hc) h
theorem cB{c:Operand}{x y:Code}(b:Bool)(hc:ev n e c= .bool b)(ht:b=true→x.wp P Q (mkA dfs n e) w)(hf:b=false→y.wp P Q (mkA dfs n e) w):
  (Code.cond c x y).wp P Q (mkA dfs n e) w:=by
 cases b
 ·exact cF hc (hf rfl)
 ·exact cT hc (ht rfl)
theorem xN{K:Act→World→Prop}{a:Act}(h:K a w):Exit.then K Q .normal a w:=h
theorem xE{K:Act→World→Prop}{a:Act}{id:Nat}(h:Q (.exit id) a w):Exit.then K Q (.exit id) a w:=h
theorem xR{K:Act→World→Prop}{a:Act}(h:Q .ret a w):Exit.then K Q .ret a w:=h
theorem sK{ops:Array Oper}{K R:Act→World→Prop}(hK: ∀a w,R a w→K a w)(h:R (mkA dfs n e) w):wpList P ops (Exit.then K Q) [] (mkA dfs n e) w:=hK _ _ h
theorem rS{a:Act}{id:Nat}{l:List Oper}{y:Code}(h: ∀K:Act→World→Prop,(∀a w,y.wp P Q a w→K a w)→wpList P l.toArray (Exit.then K Q) l a w):
  (Code.seq (.region id l.toArray false) y).wp P Q a w:=wp_seq_k fun K hK=>wp_region_lit (h K hK)
theorem bN{a:Act}{id:Nat}(h:Q .normal a w):Exit.inBlock id Q .normal a w:=h
theorem bR{a:Act}{id:Nat}(h:Q .ret a w):Exit.inBlock id Q .ret a w:=h
theorem bE{a:Act}{id:Nat}(h:Q .normal a w):Exit.inBlock id Q (.exit id) a w:=by
 show(if id=id then Q .normal a w else Q (.exit id) a w)
 rw[if_pos rfl];exact h
theorem bO{a:Act}{id j:Nat}(hj:QyF j id=false)(h:Q (.exit j) a w):Exit.inBlock id Q (.exit j) a w:=by
 show(if j=id then Q .normal a w else Q (.exit j) a w)
 rw[if_neg (fun e=>by subst e;simp at hj)];exact h
def QsY(n:Nat)(I:Nat→(Nat→Value)→World→Prop)(m:Nat)(a:Act)(w:World):Prop:= ∃m' e',a=mkA dfs n e'∧m'<m∧I m' e' w
theorem Ym{c:Code}(I:Nat→(Nat→Value)→World→Prop)(m0:Nat)(h0:I m0 e w)
  (round: ∀m e w,I m e w→c.wp P (Exit.then (QsY (dfs:=dfs) n I m) Q) (mkA dfs n e) w):(Code.loop c).wp P Q (mkA dfs n e) w:=by
 intro b k cs
 have key: ∀m e w,I m e w→ ∃ex a' w',Q ex a' w'∧Arrives P (lone (b.at (mkA dfs n e) (.code c:: .inLoop c::k)) cs w) b k cs ex a' w':=by
  intro m
  induction m using Nat.strongRecOn with
  |_ m ih=>
   intro e w hI
   obtain⟨ex,a1,w1,hq,harr⟩:=round m e w hI b (.inLoop c::k) cs
   cases ex with
   |normal=>
    obtain⟨m',e',rfl,hlt,hi⟩:=hq
    obtain⟨ex2,a2,w2,hq2,harr2⟩:=ih m' hlt e' w1 hi
    exact⟨ex2,a2,w2,hq2,.of_steps (Steps.trans harr (.one step_inLoop)) harr2⟩
   |exit id=>exact⟨_,a1,w1,hq,.pass (x:= .inLoop c) rfl (fun _ _=> .inl (by simp)) harr⟩
   |goto l=>exact⟨_,a1,w1,hq,.pass (x:= .inLoop c) rfl (fun _ _=> .inl (by simp)) harr⟩
   |ret=>exact⟨_,a1,w1,hq,.pass (x:= .inLoop c) rfl (fun _ _=> .inl (by simp)) harr⟩
   |panic ch=>exact⟨_,a1,w1,hq,.pass (x:= .inLoop c) rfl (fun _ _=> .inl (by simp)) harr⟩
   |outgrown=>exact⟨_,a1,w1,hq,.pass (x:= .inLoop c) rfl (fun _ _=> .inl (by simp)) harr⟩
 obtain⟨ex,a',w',hq,harr⟩:=key _ e w h0
 exact⟨ex,a',w',hq,.of_steps (.one step_loop) harr⟩
theorem Qqs{c:Code}{a:Act}(J:(Nat→Value)→World→Prop)(h:c.wp P (fun ex a w=>ex= .normal∧ ∃e,a=mkA dfs n e∧J e w) a w)(k: ∀e w,J e w→Q .normal (mkA dfs n e) w):c.wp P Q a w:=by
 intro b kk cs
 obtain⟨ex,a',w',⟨rfl,e',rfl,hj⟩,harr⟩:=h b kk cs
 exact⟨.normal,mkA dfs n e',w',k e' w' hj,harr⟩
theorem again{I:Nat→(Nat→Value)→World→Prop}{m:Nat}(m':Nat)(hm:m'<m)(h:I m' e w):Exit.then (QsY (dfs:=dfs) n I m) Q .normal (mkA dfs n e) w:=⟨m',e,rfl,hm,h⟩
end control
def Ret(φ:Value→World→Prop):Ending→World→Prop:=fun en w'=> ∃v,en= .returned v∧φ v w'
theorem Ret.mono{φ ψ:Value→World→Prop}{P:Program}{f:FuncId}{args:Array Value}{w:World}(h:Calls P f args w (Ret φ))(k: ∀v w',φ v w'→ψ v w'):Calls P f args w (Ret ψ):=
 Calls.mono h fun _ w' ⟨v,he,hv⟩=>⟨v,he,k v w' hv⟩
theorem enter{P:Program}{f:FuncId}{fn:Func}{c:Code}{n:Nat}{args:Array Value}{w:World}{R:Ending→World→Prop}
  (hf:P.funcs[f]? =some fn)(hb:fn.body=some c)(hn:fn.ntmps=n)(hs:Nat.ble args.size n=true)
  (h:c.wp P (bodyPost P fn R) (mkA [] n fun t=>args.getD t undef) w):Calls P f args w R:=by
 refine calls_of_wp hf hb ?_
 rw[hn,Qj0 n args (Uj hs)]
 exact h
def Qb6(P:Program)(n:Nat)(e:Nat→Value)(w:World):ResultVar→Value→Prop
 | .tmp t,v=>ev n e (.tmp t)=v
 | .cell a t,v=> ∃p,ev n e (.tmp a)= .pointer (some p)∧(loadVar t p).run P w= .ok v w
theorem Qcn(n:Nat)(e:Nat→Value)(t:Nat):(mkA dfs n e).tmps[t]?.getD undef=ev n e (.tmp t):=by
 rw[←Qq9 (dfs:=dfs)];simp
theorem Qao(p:Addr):asAddr (.pointer (some p))=pure p:=rfl
theorem Qxu{P:Program}{w:World}(f:ResultVar→Sem Value){r:ResultVar}{v:Value}(h:(f r).run P w= .ok v w):
  ((do let vs← #[r].mapM f;pure (if h:vs.size=1 then vs[0] else .tuple vs)):Sem Value).run P w= .ok v w:=by
 simp [h]
theorem Qx1{P:Program}{w:World}(f:ResultVar→Sem Value){r s:ResultVar}{v u:Value}(h:(f r).run P w= .ok v w)(h':(f s).run P w= .ok u w):
  ((do let vs← #[r,s].mapM f;pure (if h:vs.size=1 then vs[0] else .tuple vs)):Sem Value).run P w= .ok (.tuple #[v,u]) w:=by
 simp [h,h']
theorem QxP{P:Program}{w:World}(f:ResultVar→Sem Value){r s t:ResultVar}{v u x:Value}(h:(f r).run P w= .ok v w)(h':(f s).run P w= .ok u w)(h'':(f t).run P w= .ok x w):
  ((do let vs← #[r,s,t].mapM f;pure (if h:vs.size=1 then vs[0] else .tuple vs)):Sem Value).run P w= .ok (.tuple #[v,u,x]) w:=by
 simp [h,h',h'']
theorem XL{P:Program}{fn:Func}{φ:Value→World→Prop}{n:Nat}{e:Nat→Value}{w:World}{r:ResultVar}(v:Value)(hr:fn.results= #[r])(h1:Qb6 P n e w r v)(h:φ v w):
  bodyPost P fn (Ret φ) .ret (mkA [] n e) w:=by
 refine⟨Qar _ _,v,?_,v,rfl,h⟩
 unfold results
 rw[hr]
 refine Qxu _ ?_
 cases r with
 |tmp t=>simp only[Qb6] at h1;simp [Qcn,h1]
 |cell a t=>obtain⟨p,hp,hl⟩:=h1;simp [Qcn,hp,Qao,hl]
theorem Qbl{P:Program}{fn:Func}{φ:Value→World→Prop}{n:Nat}{e:Nat→Value}{w:World}{r s:ResultVar}(v u:Value)(hr:fn.results= #[r,s])(h1:Qb6 P n e w r v)(h2:Qb6 P n e w s u)
  (h:φ (.tuple #[v,u]) w):bodyPost P fn (Ret φ) .ret (mkA [] n e) w:=by
 refine⟨Qar _ _,_,?_,_,rfl,h⟩
 unfold results
 rw[hr]
 refine Qx1 _ ?_ ?_
 ·cases r with
  |tmp t=>simp only[Qb6] at h1;simp [Qcn,h1]
  |cell a t=>obtain⟨p,hp,hl⟩:=h1;simp [Qcn,hp,Qao,hl]
 ·cases s with
  |tmp t=>simp only[Qb6] at h2;simp [Qcn,h2]
  |cell a t=>obtain⟨p,hp,hl⟩:=h2;simp [Qcn,hp,Qao,hl]
theorem Qnv{P:Program}{fn:Func}{φ:Value→World→Prop}{n:Nat}{e:Nat→Value}{w:World}{r s t:ResultVar}(v u x:Value)(hr:fn.results= #[r,s,t])(h1:Qb6 P n e w r v)(h2:Qb6 P n e w s u)(h3:Qb6 P n e w t x)
  (h:φ (.tuple #[v,u,x]) w):bodyPost P fn (Ret φ) .ret (mkA [] n e) w:=by
 refine⟨Qar _ _,_,?_,_,rfl,h⟩
 unfold results
 rw[hr]
 refine QxP _ ?_ ?_ ?_
 ·cases r with
  |tmp t=>simp only[Qb6] at h1;simp [Qcn,h1]
  |cell a t=>obtain⟨p,hp,hl⟩:=h1;simp [Qcn,hp,Qao,hl]
 ·cases s with
  |tmp t=>simp only[Qb6] at h2;simp [Qcn,h2]
  |cell a t=>obtain⟨p,hp,hl⟩:=h2;simp [Qcn,hp,Qao,hl]
 ·cases t with
  |tmp t=>simp only[Qb6] at h3;simp [Qcn,h3]
  |cell a t=>obtain⟨p,hp,hl⟩:=h3;simp [Qcn,hp,Qao,hl]
theorem Qp1{P:Program}{fn:Func}{φ:Value→World→Prop}{n:Nat}{e:Nat→Value}{w:World}(hr:fn.results= #[])(h:φ (.tuple #[]) w):bodyPost P fn (Ret φ) .ret (mkA [] n e) w:=by
 refine⟨Qar _ _,_,?_,_,rfl,h⟩
 unfold results
 rw[hr]
 simp
theorem QnI{P:Program}{fn:Func}{φ:Value→World→Prop}{n:Nat}{e:Nat→Value}{w:World}(hr:fn.results= #[])(h:φ (.tuple #[]) w):bodyPost P fn (Ret φ) .normal (mkA [] n e) w:=by
 refine⟨Qar _ _,_,?_,_,rfl,h⟩
 unfold results
 rw[hr]
 simp
def Xf(P:Program)(f:FuncId):Prop:= ∀(args:Array Value)(w:World),(callFunc f args).run P w= .ok (.enter f args) w
theorem Qk3{P:Program}{f:FuncId}{fn:Func}(hf:P.funcs[f]? =some fn)(hn:(fn.name== "runtime.NumGoroutine")=false)(hb:fn.body.isNone=false):Xf P f:=by
 intro args w
 have h1: ¬fn.name= "runtime.NumGoroutine" :=by simpa using hn
 have h2: ¬fn.body=none:=by intro h;rw[h] at hb;cases hb
 simp [callFunc,program,Sem.run,hf,h1,h2]
section ops
variable{P:Program}{n:Nat}{e:Nat→Value}{w:World}{K:Act→World→Prop}{Q:Exit→Act→World→Prop}{ty:TypeId}{pos:String}{af:Array Edge}{gd:Option (Nat×Bool)}
theorem Xc{φ:Value→World→Prop}{d:Nat}{x:Operand}{xs:List Operand}{ts:Array TypeId}{f:FuncId}{fs cs args:List Value}(hx:ev n e x= .func (.func f) fs.toArray cs.toArray)(hc:Xf P f)
  (h:Calls P f args.toArray w (Ret φ))(ha:fs++(xs.map (ev n e)++cs)=args)(k: ∀v w',φ v w'→K (mkA dfs n (upd e d v)) w'):
  OpW P ⟨some d,.call {callee:= .value x,args:=xs.toArray,argTypes:=ts},ty,pos,af,gd⟩ (mkA dfs n e) w K Q:=by
 have ha':fs.toArray++xs.toArray.map (ev n e)++cs.toArray=args.toArray:=by rw[←ha];simp
 unfold OpW Oper.wp
 rw[Yk]
 simp only[execOp,resolve,hx,Deferred.ofValue,invoke,Sem.run_bind,Sem.run_pure,Result.andThen_ok,ha',hc args.toArray w,Oper.upon]
 exact Calls.mono h fun en w' ⟨v,he,hv⟩=>by subst he;simp only[YM];exact k v w' hv
theorem Ys{d:Nat}{t:TypeId}{x:Operand}{v:Value}(cs:List Value)(hx:ev n e x=v)(hc:v.cells=cs.toArray)
  (k: ∀g w',g=w.heap.size→Ext w w'→w'.heap.size=g+1→Blk w' g t cs→K (mkA dfs n (upd e d (.pointer (some ⟨g,0,none⟩)))) w'):
  OpW P ⟨some d,.box t x,ty,pos,af,gd⟩ (mkA dfs n e) w K Q:=by
 unfold OpW Oper.wp
 rw[Yk]
 have :=k w.heap.size (w.alloc (.cells cs.toArray t)) rfl (QbE _ _) (by simp) (Blk.new _ _ _)
 simp only[execOp,hx,Instr.box,newVar,newRow,newObj,hc,Sem.run_bind,Sem.run_pure,Result.andThen_ok,Sem.run,Oper.upon,YM]
 exact this
theorem Xj{d:Nat}{t:TypeId}{z:Value}(cs:List Value)(hz: ∀w,(zeroValue t).run P w= .ok z w)(hc:z.cells=cs.toArray)
  (k: ∀g w',g=w.heap.size→Ext w w'→w'.heap.size=g+1→Blk w' g t cs→K (mkA dfs n (upd e d (.pointer (some ⟨g,0,none⟩)))) w'):
  OpW P ⟨some d,.alloc t,ty,pos,af,gd⟩ (mkA dfs n e) w K Q:=by
 unfold OpW Oper.wp
 rw[Yk]
 have :=k w.heap.size (w.alloc (.cells cs.toArray t)) rfl (QbE _ _) (by simp) (Blk.new _ _ _)
 simp only[execOp,Instr.alloc,hz w,newVar,newRow,newObj,hc,Sem.run_bind,Sem.run_pure,Result.andThen_ok,Sem.run,Oper.upon,YM]
 exact this
theorem YK{t t':TypeId}{a x:Operand}{g off:Nat}{v:Value}{cs:List Value}(vs:List Value)(ha:ev n e a= .pointer (some ⟨g,off,none⟩))(hx:ev n e x=v)
  (hv:v.cells=vs.toArray)(hs: ∀w,(sizeOf t).run P w= .ok vs.length w)(h1:vs.all Value.oneCell'=true)(hb:Blk w g t' cs)(hl:off+vs.length≤cs.length)
  (k: ∀w',Frm (· =g) w w'→w'.heap.size=w.heap.size→Blk w' g t' (cs.take off++vs++cs.drop (off+vs.length))→K (mkA dfs n e) w'):
  OpW P ⟨none,.store t a x,ty,pos,af,gd⟩ (mkA dfs n e) w K Q:=by
 unfold OpW Oper.wp
 rw[Yk]
 have hst:=run_storeCells_at P g off t' vs 0 cs.toArray w hb (by simpa using hl) (List.all_eq_true.1 h1)
 simp only[WB] at hst
 simp only[execOp,ha,hx,Instr.storeAt,Instr.sureAddr,storeVar,hv,hs w,Sem.run_bind,Sem.run_pure,Result.andThen_ok,List.size_toArray,ne_eq,not_true_eq_false,if_false,hst,Oper.upon,Qgq]
 refine k _ ⟨rfl,rfl,rfl,by simp [World.setRow],Ug _,fun j _ hj=> ?_⟩ (by simp [World.setRow]) ?_
 ·simp only[World.setRow,WG]
  rw[if_neg fun h=>hj h.symm]
 ·have :=setRow_heap w g cs.toArray (cs.take off++vs++cs.drop (off+vs.length)).toArray t' (0,0) hb
  exact this
theorem YH{t t':TypeId}{a x:Operand}{g off:Nat}{v:Value}{cs:List Value}(ha:ev n e a= .pointer (some ⟨g,off,none⟩))(hx:ev n e x=v)
  (h1:v.oneCell'=true)(hs: ∀w,(sizeOf t).run P w= .ok 1 w)(hb:Blk w g t' cs)(hl:off<cs.length)
  (k: ∀w',Frm (· =g) w w'→w'.heap.size=w.heap.size→Blk w' g t' (cs.set off v)→K (mkA dfs n e) w'):
  OpW P ⟨none,.store t a x,ty,pos,af,gd⟩ (mkA dfs n e) w K Q:=by
 have hv:v.cells=[v].toArray:=by cases v<;>first |rfl| (simp [Value.oneCell'] at h1)
 refine YK [v] ha hx hv hs (by simp [h1]) hb (by simp;omega) ?_
 intro w' h2 h3 h4
 refine k w' h2 h3 ?_
 have :cs.take off++[v]++cs.drop (off+[v].length)=cs.set off v:=by
  rw[List.set_eq_take_append_cons_drop,if_pos hl];simp
 rw[this] at h4
 exact h4
theorem QuG{d:Nat}{t el:TypeId}{l c:Operand}{k1 k2:IntKind}{z:Value}{size bytes:Nat}(m:Nat)(ht:P.underlying t=some (.slice el))
  (hi:(P.info? el).map (fun i=>(i.zero,i.size,i.bytes))=some (some z,size,bytes))(hl:ev n e l= .int k1 (m:Int))(hc:ev n e c= .int k2 (m:Int))
  (hb:bytes*m≤281474976710656)(hm:m≤9223372036854775807)
  (k: ∀g w',g=w.heap.size→Ext w w'→w'.heap.size=g+1→Blk w' g el (madeCells z.cells (m*size)).toList→K (mkA dfs n (upd e d (.slice (some ⟨g,0,none⟩) m m))) w'):
  OpW P ⟨some d,.makeSlice t l c,ty,pos,af,gd⟩ (mkA dfs n e) w K Q:=by
 obtain⟨i,hi',hz,rfl,rfl⟩:=info_parts hi
 have hb':(i.bytes:Int)*(m:Int)≤281474976710656:=by
  have h:((i.bytes*m:Nat):Int)≤281474976710656:=by omega
  rwa [Wa] at h
 have hr:=run_make (P:=P) w t el i z ht hi' hz k1 k2 m m (by omega) (Int.le_refl _) hb' (by omega)
 simp only[QyG] at hr
 unfold OpW Oper.wp
 rw[Yk]
 simp only[execOp,hl,hc,Sem.run_bind,hr,Sem.run_pure,Result.andThen_ok,Oper.upon,YM]
 refine k _ _ rfl (QbE _ _) (by simp) ?_
 have :=Blk.new w el (madeCells z.cells (m*i.size)).toList
 simpa using this
theorem QjC{P:Program}{w w':World}{t ty e:TypeId}{i:TypeInfo}{z v v':Value}{size bytes base n:Nat}{xs news:List Value}{a:Addr}{m c:Nat}(ht:P.underlying t=some (.slice e))(hi:P.info? e=some i)(hz:i.zero=some z)
  (hsize:i.size=size)(hby:i.bytes=bytes)(hown:w.ownsRow base e size v n xs)(hl:news.length=m*size)(hnews: ∀(j:Nat) u,news[j]? =some u→w.cell? (a.add j)=some u)(h1: ∀u∈news,u.oneCell'=true)
  (h63:n+m≤9223372036854775807)(hbytes:(n+m)*bytes≤140737488355328)(hr:(Builtin.append_ #[t,t] ty #[v,.slice (some a) m c]).run P w= .ok v' w'):w.drawn≤w'.drawn:=by
 subst hsize
 subst hby
 rcases hown.2 with⟨rfl,rfl⟩| ⟨g,cap,cur,rfl,hbg,hg,hnc,hcm,hcs,htake⟩
 ·by_cases hm:m=0
  ·subst hm
   have hn:news=[]:=Ua (by simpa using hl)
   subst hn
   have :(Builtin.append_ #[t,t] ty #[Value.slice none 0 0,.slice (some a) 0 c]).run P w= .ok (.slice none 0 0) w:=by
    simp [Builtin.append_,run_underlying ht,sizeOf,typeInfo,hi,Builtin.lenOf,Builtin.firstCells,loadCells,loadCellsFrom]
   rw[this] at hr
   injection hr with _ h2
   rw[←h2];exact Ug _
  ·have h:=run_append_nil (P:=P) w t ty e i z ht hi hz a m c news hl hnews (by omega) (by omega) (by have hb:=hbytes;simp only[WJ] at hb;omega)
   rw[h] at hr
   injection hr with _ h2
   rw[←h2];exact QzI _
 ·by_cases hroom:n+m≤cap
  ·have hfit:n*i.size+news.length≤cur.size:=by rw[hl,hcs,←UZ];exact Uy _ hroom
   have h:=run_append_room (P:=P) w t ty e i ht hi g n cap cur hg a m c news hl hnews h1 hroom hfit
   rw[h] at hr
   injection hr with _ h2
   rw[←h2];exact Ug _
  ·have holds: ∀(j:Nat) u,xs[j]? =some u→w.cell? ((⟨g,0,none⟩:Addr).add j)=some u:=World.ownsRow.cells hown (g:=g) rfl
   have h:=run_append_grow (P:=P) w t ty e i z ht hi hz ⟨g,0,none⟩ n cap xs hown.1 holds a m c news hl hnews (by omega) (by omega) (growslice_fits (by omega) hbytes)
   rw[h] at hr
   injection hr with _ h2
   rw[←h2];exact QzI _
theorem addr_add(b o i:Nat):(⟨b,o,none⟩:Addr).add i=⟨b,o+i,none⟩:=by
 unfold Addr.add;split<;>simp_all
def QhH(P:Program)(t:TypeId):Bool:=match P.underlying t with |some (.struct _)|some (.array _ _)|none=>false|_=>true
theorem Qe6{t:TypeId}(h:QhH P t=true)(w:World):(isAgg t).run P w= .ok false w:=by
 unfold QhH at h
 cases hu:P.underlying t with
 |none=>simp [hu] at h
 |some d=>cases d<;>simp [hu] at h<;>simp [isAgg,run_underlying hu]
def QkM(P:Program)(t:TypeId):Bool:=match P.underlying t with |some (.struct _)|some (.array _ _)=>true|_=>false
theorem Qjg{t:TypeId}(h:QkM P t=true)(w:World):(isAgg t).run P w= .ok true w:=by
 unfold QkM at h
 cases hu:P.underlying t with
 |none=>simp [hu] at h
 |some d=>cases d<;>simp [hu] at h<;>simp [isAgg,run_underlying hu]
theorem Qjh{p:Addr}{v:Value}(h:w.cell? p=some v):(load p).run P w= .ok v w:=by simp [load,Sem.run,h]
theorem QfV{t:TypeId}{p:Addr}{v:Value}(ht:QhH P t=true)(h:w.cell? p=some v):(loadVar t p).run P w= .ok v w:=by
 have h1:=Qe6 ht w
 have h2:=Qjh (P:=P) h
 simp only[loadVar,Sem.run_bind,h1,Result.andThen_ok,Qzg,if_false,h2]
theorem QfW{t:TypeId}{p:Addr}{cs:List Value}(ht:QkM P t=true)(hs: ∀w,(sizeOf t).run P w= .ok cs.length w)(h: ∀(j:Nat) v,cs[j]? =some v→w.cell? (p.add j)=some v):
  (loadVar t p).run P w= .ok (.agg cs.toArray) w:=by
 simp [loadVar,Qjg ht,hs,run_loadCells_list w p cs h]
theorem XR{d:Option Nat}{t:TypeId}{a:Operand}{p:Addr}{v:Value}(ht:QhH P t=true)(ha:ev n e a= .pointer (some p))(hc:w.cell? p=some v):
  Ev P n e ⟨d,.load t a,ty,pos,af,gd⟩ w v:=by
 simp [Ev,execOp,ha,Instr.loadAt,Instr.sureAddr,QfV ht hc]
theorem XO{d:Option Nat}{t:TypeId}{a:Operand}{p:Addr}(cs:List Value)(ht:QkM P t=true)(hs: ∀w,(sizeOf t).run P w= .ok cs.length w)(ha:ev n e a= .pointer (some p))
  (hc: ∀(j:Nat) v,cs[j]? =some v→w.cell? (p.add j)=some v):Ev P n e ⟨d,.load t a,ty,pos,af,gd⟩ w (.agg cs.toArray):=by
 simp [Ev,execOp,ha,Instr.loadAt,Instr.sureAddr,QfW ht hs hc]
theorem Quh{d:Option Nat}{t el:TypeId}{x ix:Operand}{b off len cap size:Nat}{k:IntKind}{z:Int}(i:Nat)(ht:P.underlying t=some (.slice el))(hs: ∀w,(sizeOf el).run P w= .ok size w)
  (hx:ev n e x= .slice (some ⟨b,off,none⟩) len cap)(hi:ev n e ix= .int k z)(hz:z=(i:Int))(hlt:i<len)(p:Nat)(hp:off+i*size=p):
  Ev P n e ⟨d,.indexAddr t x ix,ty,pos,af,gd⟩ w (.pointer (some ⟨b,p,none⟩)):=by
 subst hz hp
 have h1:(0:Int)≤(i:Int)∧(i:Int)<(len:Int):=⟨by omega,by omega⟩
 simp [Ev,execOp,hx,hi,Instr.indexAt,asIntOf,run_underlying ht,hs,hlt,addr_add]
theorem XU{d:Option Nat}{t el:TypeId}{x ix:Operand}{b off len cap size:Nat}{k:IntKind}{z:Int}(i:Nat)(ht:P.underlying t=some (.slice el))(hs: ∀w,(sizeOf el).run P w= .ok size w)
  (hx:ev n e x= .slice (some ⟨b,off,none⟩) len cap)(hi:ev n e ix= .int k z)(p:Nat)(hz:z=(i:Int):=by omega)(hlt:i<len:=by omega)(hp:off+i*size=p:=by omega):
  Ev P n e ⟨d,.indexAddr t x ix,ty,pos,af,gd⟩ w (.pointer (some ⟨b,p,none⟩)):=Quh i ht hs hx hi hz hlt p hp
theorem Qlh{d:Option Nat}{t el:TypeId}{x:Operand}{lo hi:Option Operand}{A:Option Addr}{len cap size:Nat}(l h:Nat)(ht:P.underlying t=some (.slice el))(hs: ∀w,(sizeOf el).run P w= .ok size w)
  (hx:ev n e x= .slice A len cap)
  (hlo:match lo with |none=>l=0|some y=> ∃k z,ev n e y= .int k z∧z=(l:Int))
  (hhi:match hi with |none=>h=len|some y=> ∃k z,ev n e y= .int k z∧z=(h:Int))
  (h1:l≤h)(h2:h≤cap):
  Ev P n e ⟨d,.slice t x lo hi none,ty,pos,af,gd⟩ w (.slice (if cap=l then A else A.map (·.add (l*size))) (h -l) (cap -l)):=by
 have e1:((h:Int)≤(cap:Int)):=by omega
 have e2:((l:Int)≤(h:Int)):=by omega
 cases lo with
 |none=>
  cases hi with
  |none=>
   subst hlo hhi
   simp [Ev,execOp,hx,Instr.sliceAt,Instr.slice,Instr.sliceBounds,run_underlying ht,hs]
  |some y=>
   obtain⟨k,z,hy,rfl⟩:=hhi
   subst hlo
   simp [Ev,execOp,hx,hy,Instr.sliceAt,Instr.slice,Instr.sliceBounds,Instr.sliceBound,asIntOf,run_underlying ht,hs,h2]
 |some y=>
  obtain⟨k,z,hy,rfl⟩:=hlo
  cases hi with
  |none=>
   subst hhi
   simp [Ev,execOp,hx,hy,Instr.sliceAt,Instr.slice,Instr.sliceBounds,Instr.sliceBound,asIntOf,run_underlying ht,hs,h1]
  |some y'=>
   obtain⟨k',z',hy',rfl⟩:=hhi
   simp [Ev,execOp,hx,hy,hy',Instr.sliceAt,Instr.slice,Instr.sliceBounds,Instr.sliceBound,asIntOf,run_underlying ht,hs,h1,h2]
theorem Qlg{d:Option Nat}{op:BinOp}{t t':TypeId}{x y:Operand}{k:IntKind}{a b:Int}(z:Int)(hx:ev n e x= .int k a)(hy:ev n e y= .int k b)
  (h:(op= .add∧k.wrap (a+b)=z)∨(op= .sub∧k.wrap (a -b)=z)∨(op= .mul∧k.wrap (a*b)=z)):
  Ev P n e ⟨d,.binOp op t x y t',ty,pos,af,gd⟩ w (.int k z):=by
 rcases h with⟨rfl,h⟩| ⟨rfl,h⟩| ⟨rfl,h⟩<;>simp [Ev,execOp,hx,hy,eqGuard,binOp,Op.intArith,h]
theorem XF{d:Option Nat}{t t':TypeId}{x y:Operand}{k:IntKind}{a b:Int}(z:Int)(hx:ev n e x= .int k a)(hy:ev n e y= .int k b)(h:k.wrap (a+b)=z):
  Ev P n e ⟨d,.binOp .add t x y t',ty,pos,af,gd⟩ w (.int k z):=Qlg z hx hy (.inl ⟨rfl,h⟩)
theorem XQ{d:Option Nat}{t t':TypeId}{x y:Operand}{k:IntKind}{a b:Int}(z:Int)(hx:ev n e x= .int k a)(hy:ev n e y= .int k b)(h:k.wrap (a -b)=z):
  Ev P n e ⟨d,.binOp .sub t x y t',ty,pos,af,gd⟩ w (.int k z):=Qlg z hx hy (.inr (.inl ⟨rfl,h⟩))
theorem Qf3{d:Option Nat}{t t':TypeId}{x y:Operand}{k:IntKind}{a b:Int}(z:Int)(hx:ev n e x= .int k a)(hy:ev n e y= .int k b)(h:k.wrap (a*b)=z):
  Ev P n e ⟨d,.binOp .mul t x y t',ty,pos,af,gd⟩ w (.int k z):=Qlg z hx hy (.inr (.inr ⟨rfl,h⟩))
theorem Qj6{d:Option Nat}{t t':TypeId}{x y:Operand}{k:IntKind}{a b:Int}(z:Int)(hx:ev n e x= .int k a)(hy:ev n e y= .int k b)(hb:b≠0)(h:k.wrap (a.tdiv b)=z):
  Ev P n e ⟨d,.binOp .quo t x y t',ty,pos,af,gd⟩ w (.int k z):=by
 simp [Ev,execOp,hx,hy,eqGuard,binOp,Op.intDiv,hb,h]
theorem QbK{d:Option Nat}{t t':TypeId}{x y:Operand}{k:IntKind}{a b:Int}(z:Int)(hx:ev n e x= .int k a)(hy:ev n e y= .int k b)(hb:b≠0)(h:a.tmod b=z):
  Ev P n e ⟨d,.binOp .rem t x y t',ty,pos,af,gd⟩ w (.int k z):=by
 simp [Ev,execOp,hx,hy,eqGuard,binOp,Op.intDiv,hb,h]
theorem Xq{d:Option Nat}{t t':TypeId}{x y:Operand}{k:IntKind}{a b:Int}(r:Bool)(hx:ev n e x= .int k a)(hy:ev n e y= .int k b)(h:decide (a<b)=r):
  Ev P n e ⟨d,.binOp .lss t x y t',ty,pos,af,gd⟩ w (.bool r):=by
 subst h;simp [Ev,execOp,hx,hy,eqGuard,binOp,Op.intCmp]
theorem QaM{d:Option Nat}{t t':TypeId}{x y:Operand}{k:IntKind}{a b:Int}(r:Bool)(hx:ev n e x= .int k a)(hy:ev n e y= .int k b)(h:decide (a≤b)=r):
  Ev P n e ⟨d,.binOp .leq t x y t',ty,pos,af,gd⟩ w (.bool r):=by
 subst h;simp [Ev,execOp,hx,hy,eqGuard,binOp,Op.intCmp]
theorem Yu{d:Option Nat}{t t':TypeId}{x y:Operand}{k:IntKind}{a b:Int}(r:Bool)(hx:ev n e x= .int k a)(hy:ev n e y= .int k b)(h:decide (a>b)=r):
  Ev P n e ⟨d,.binOp .gtr t x y t',ty,pos,af,gd⟩ w (.bool r):=by
 subst h;simp [Ev,execOp,hx,hy,eqGuard,binOp,Op.intCmp]
theorem Zi{d:Option Nat}{t t':TypeId}{x y:Operand}{k:IntKind}{a b:Int}(r:Bool)(hx:ev n e x= .int k a)(hy:ev n e y= .int k b)(h:decide (a≥b)=r):
  Ev P n e ⟨d,.binOp .geq t x y t',ty,pos,af,gd⟩ w (.bool r):=by
 subst h;simp [Ev,execOp,hx,hy,eqGuard,binOp,Op.intCmp]
theorem XD{d:Option Nat}{t t':TypeId}{x y:Operand}{k:IntKind}{a b:Int}(r:Bool)(hx:ev n e x= .int k a)(hy:ev n e y= .int k b)(h:decide (a=b)=r):
  Ev P n e ⟨d,.binOp .eql t x y t',ty,pos,af,gd⟩ w (.bool r):=by
 subst h;simp [Ev,execOp,hx,hy,eqGuard,binOp,Op.intCmp,BEq.beq]
theorem ZI{d:Option Nat}{t t':TypeId}{x y:Operand}{k:IntKind}{a b:Int}(r:Bool)(hx:ev n e x= .int k a)(hy:ev n e y= .int k b)(h:decide (a≠b)=r):
  Ev P n e ⟨d,.binOp .neq t x y t',ty,pos,af,gd⟩ w (.bool r):=by
 subst h
 have :(a !=b)=decide (a≠b):=by by_cases hab:a=b<;>simp [hab]
 simp [Ev,execOp,hx,hy,eqGuard,binOp,Op.intCmp,this]
theorem Qv2{d:Option Nat}{t t':TypeId}{x y:Operand}{a b:Bool}(r:Bool)(hu:P.underlying t=some .bool)(hx:ev n e x= .bool a)(hy:ev n e y= .bool b)(h:(a==b)=r):
  Ev P n e ⟨d,.binOp .eql t x y t',ty,pos,af,gd⟩ w (.bool r):=by
 subst h
 have h1:=run_eql_bool (P:=P) w t a b hu
 simp [Ev,execOp,hx,hy,eqGuard,h1]
theorem Qsz{d:Option Nat}{t t':TypeId}{x y:Operand}{a b:Bool}(r:Bool)(hu:P.underlying t=some .bool)(hx:ev n e x= .bool a)(hy:ev n e y= .bool b)(h:(a !=b)=r):
  Ev P n e ⟨d,.binOp .neq t x y t',ty,pos,af,gd⟩ w (.bool r):=by
 subst h
 have h1:=run_equal_bool (P:=P) w t a b hu
 have h2:(binOp .neq t (.bool a) (.bool b)).run P w= .ok (.bool (a !=b)) w:=by
  unfold binOp
  simp [h1,bne]
 simp [Ev,execOp,hx,hy,eqGuard]
 rw[h2]
 rfl
theorem XY{d:Option Nat}{s t:TypeId}{ds:TypeDesc}{x:Operand}{k k':IntKind}{a:Int}(z:Int)(hs:P.underlying s=some ds)(ht:P.underlying t=some (.int k'))(hx:ev n e x= .int k a)(h:k'.wrap a=z):
  Ev P n e ⟨d,.convert s t x,ty,pos,af,gd⟩ w (.int k' z):=by
 subst h;simp [Ev,execOp,hx,convert,run_underlying hs,run_underlying ht,Conv.intToInt]
theorem Qq2{d:Option Nat}{t t':TypeId}{x y:Operand}{k k':IntKind}{a b:Int}(z:Int)(hx:ev n e x= .int k a)(hy:ev n e y= .int k' b)(hb:0≤b)(h:k.wrap (a*2^ (min b.toNat k.bits))=z):
  Ev P n e ⟨d,.binOp .shl t x y t',ty,pos,af,gd⟩ w (.int k z):=by
 subst h
 have : ¬b<0:=by omega
 simp [Ev,execOp,hx,hy,eqGuard,binOp,Op.shift,this]
theorem QeM{d:Option Nat}{t t':TypeId}{x y:Operand}{k k':IntKind}{a b:Int}(z:Int)(hx:ev n e x= .int k a)(hy:ev n e y= .int k' b)(hb:0≤b)(h:a.fdiv (2^ (min b.toNat k.bits))=z):
  Ev P n e ⟨d,.binOp .shr t x y t',ty,pos,af,gd⟩ w (.int k z):=by
 subst h
 have : ¬b<0:=by omega
 simp [Ev,execOp,hx,hy,eqGuard,binOp,Op.shift,this]
theorem Qq0{d:Option Nat}{t:TypeId}{x:Operand}{k:IntKind}{a:Int}(z:Int)(hx:ev n e x= .int k a)(h:k.wrap (0 -a)=z):Ev P n e ⟨d,.unOp .neg t x,ty,pos,af,gd⟩ w (.int k z):=by
 subst h;simp [Ev,execOp,hx,Op.unary,Op.intArith]
theorem Qas{d:Option Nat}{t:TypeId}{x:Operand}{b:Bool}(r:Bool)(hx:ev n e x= .bool b)(h:(!b)=r):Ev P n e ⟨d,.unOp .not t x,ty,pos,af,gd⟩ w (.bool r):=by
 subst h;simp [Ev,execOp,hx,Op.unary]
theorem Xw{d:Option Nat}{t el:TypeId}{x:Operand}{A:Option Addr}{len cap:Nat}(ht:P.underlying t=some (.slice el))(hx:ev n e x= .slice A len cap):
  Ev P n e ⟨d,.call {callee:= .builtin .len,args:= #[x],argTypes:= #[t]},ty,pos,af,gd⟩ w (.int .i64 (len:Int)):=by
 simp [Ev,execOp,resolve,hx,invoke,builtin,Builtin.len_,run_underlying ht,goInt]
theorem Qer{d:Option Nat}{ts:Array TypeId}{x y:Operand}{k k':IntKind}{a b:Int}(z:Int)(hx:ev n e x= .int k a)(hy:ev n e y= .int k' b)(h:(if b>a then b else a)=z):
  Ev P n e ⟨d,.call {callee:= .builtin .max,args:= #[x,y],argTypes:=ts},ty,pos,af,gd⟩ w (.int k z):=by
 subst h;simp [Ev,execOp,resolve,hx,hy,invoke,builtin,Builtin.max_,Builtin.max2]
theorem Quk{d:Option Nat}{ts:Array TypeId}{x y:Operand}{k k':IntKind}{a b:Int}(z:Int)(hx:ev n e x= .int k a)(hy:ev n e y= .int k' b)(h:(if b<a then b else a)=z):
  Ev P n e ⟨d,.call {callee:= .builtin .min,args:= #[x,y],argTypes:=ts},ty,pos,af,gd⟩ w (.int k z):=by
 subst h;simp [Ev,execOp,resolve,hx,hy,invoke,builtin,Builtin.min_,Builtin.min2]
end ops
section more
variable{P:Program}{n:Nat}{e:Nat→Value}{w:World}{K:Act→World→Prop}{Q:Exit→Act→World→Prop}{ty:TypeId}{pos:String}{af:Array Edge}{gd:Option (Nat×Bool)}
theorem evK{o:Oper}{v:Value}(h:(execOp (ev n e) o).run P w= .ok (.value v) w):Ev P n e o w v:=h
theorem YJ{d:Option Nat}{t el:TypeId}{x y:Operand}{A:Option Addr}{len cap size:Nat}{k:IntKind}{z:Int}(h:Nat)(ht:P.underlying t=some (.slice el))(hs: ∀w,(sizeOf el).run P w= .ok size w)
  (hx:ev n e x= .slice A len cap)(hy:ev n e y= .int k z)(hz:z=(h:Int))(h2:h≤cap):
  Ev P n e ⟨d,.slice t x none (some y) none,ty,pos,af,gd⟩ w (.slice A h cap):=by
 have :=Qlh (P:=P) (w:=w) (d:=d) (ty:=ty) (pos:=pos) (af:=af) (gd:=gd) 0 h ht hs hx (lo:=none) (hi:=some y) rfl ⟨k,z,hy,hz⟩ (Qyr _) h2
 have e1:(if cap=0 then A else A.map (·.add (0*size)))=A:=by
  split
  ·rfl
  ·cases A<;>simp [Addr.add]
 rw[e1] at this
 exact this
theorem ZP{d:Option Nat}{t el:TypeId}{x y:Operand}{A:Option Addr}{len cap size:Nat}{k:IntKind}{z:Int}(l:Nat)(ht:P.underlying t=some (.slice el))(hs: ∀w,(sizeOf el).run P w= .ok size w)
  (hx:ev n e x= .slice A len cap)(hy:ev n e y= .int k z)(hz:z=(l:Int))(h1:l≤len)(h2:len≤cap):
  Ev P n e ⟨d,.slice t x (some y) none none,ty,pos,af,gd⟩ w (.slice (if cap=l then A else A.map (·.add (l*size))) (len -l) (cap -l)):=
 Qlh l len ht hs hx (lo:=some y) (hi:=none) ⟨k,z,hy,hz⟩ rfl h1 h2
theorem XZ{d:Option Nat}{s:TypeId}{x:Operand}{f off:Nat}{b o:Nat}(p:Nat)(hf: ∀a w,(Instr.fieldAt s (.pointer (some a)) f).run P w= .ok (.pointer (some (a.add off))) w)
  (hx:ev n e x= .pointer (some ⟨b,o,none⟩))(hp:o+off=p):Ev P n e ⟨d,.fieldAddr s x f,ty,pos,af,gd⟩ w (.pointer (some ⟨b,p,none⟩)):=by
 subst hp
 simp [Ev,execOp,hx,hf,addr_add]
theorem Xg{d:Option Nat}{t t':TypeId}{a:Operand}{g o:Nat}{v:Value}{cs:List Value}(ht:QhH P t=true)(ha:ev n e a= .pointer (some ⟨g,o,none⟩))(hb:Blk w g t' cs)(hv:cs[o]? =some v):
  Ev P n e ⟨d,.load t a,ty,pos,af,gd⟩ w v:=XR ht ha (hb.at_ hv)
theorem Xa{d:Option Nat}{t t':TypeId}{a:Operand}{g o:Nat}{cs:List Value}(vs:List Value)(ht:QkM P t=true)(hs: ∀w,(sizeOf t).run P w= .ok vs.length w)(ha:ev n e a= .pointer (some ⟨g,o,none⟩))(hb:Blk w g t' cs)
  (hv:(cs.drop o).take vs.length=vs):Ev P n e ⟨d,.load t a,ty,pos,af,gd⟩ w (.agg vs.toArray):=
 XO vs ht hs ha fun j v hj=>by
  rw[addr_add,hb.cell]
  have hlt:j<vs.length:=by
   rcases Up j vs.length with h|h
   ·exact h
   ·rw[Ul h] at hj;cases hj
  rw[←hv,List.getElem?_take_of_lt hlt,UU] at hj
  exact hj
theorem XK{t:Nat}{v:Value}(h:ev n e (.tmp t)=v):Qb6 P n e w (.tmp t) v:=h
theorem YE{a:Nat}{t t':TypeId}{g:Nat}(vs:List Value)(ht:QkM P t=true)(hs: ∀w,(sizeOf t).run P w= .ok vs.length w)(ha:ev n e (.tmp a)= .pointer (some ⟨g,0,none⟩))(hb:Blk w g t' vs):Qb6 P n e w (.cell a t) (.agg vs.toArray):=
 ⟨_,ha,QfW ht hs fun j v hj=>by rw[addr_add,WJ,hb.cell];exact hj⟩
theorem Qaw{d:Nat}{t el:TypeId}{l c:Operand}{k1 k2:IntKind}{z:Value}{bytes:Nat}(m:Nat)(ht:P.underlying t=some (.slice el))
  (hi:(P.info? el).map (fun i=>(i.zero,i.size,i.bytes))=some (some z,1,bytes))(hz1:z.oneCell'=true)(hl:ev n e l= .int k1 (m:Int))(hc:ev n e c= .int k2 (m:Int))
  (hb:bytes*m≤281474976710656)(hm:m≤9223372036854775807)
  (k: ∀g w',g=w.heap.size→Ext w w'→w'.heap.size=g+1→Blk w' g el (Uc m z)→K (mkA dfs n (upd e d (.slice (some ⟨g,0,none⟩) m m))) w'):
  OpW P ⟨some d,.makeSlice t l c,ty,pos,af,gd⟩ (mkA dfs n e) w K Q:=by
 refine QuG m ht hi hl hc hb hm fun g w' h1 h2 h3 h4=>k g w' h1 h2 h3 ?_
 have hcells:z.cells= #[z]:=by cases z<;>first |rfl| (simp [Value.oneCell'] at hz1)
 have :(madeCells z.cells (m*1)).toList=Uc m z:=by
  rw[hcells]
  apply Qyf
  ·simp [madeCells]
  ·intro i h1 h2
   simp [madeCells]
   have :i % 1=0:=Nat.mod_one i
   simp [this]
 rw[this] at h4
 exact h4
end more
theorem QaZ{x z:Int}(h:x=z∧ -9223372036854775808≤z∧z≤9223372036854775807):IntKind.i64.wrap x=z:=by
 obtain⟨rfl,h1,h2⟩:=h
 simp only[IntKind.wrap,IntKind.bits,IntKind.signed]
 simp only[Bool.true_and]
 split<;>rename_i hh<;>simp at hh<;>omega
theorem Qju{x z:Int}(h:x=z∧0≤z∧z<4294967296):IntKind.u32.wrap x=z:=by
 obtain⟨rfl,h1,h2⟩:=h
 simp only[IntKind.wrap,IntKind.bits,IntKind.signed]
 simp
 omega
theorem Qbm{x z:Int}(h:x=z∧0≤z∧z<18446744073709551616):IntKind.u64.wrap x=z:=by
 obtain⟨rfl,h1,h2⟩:=h
 simp only[IntKind.wrap,IntKind.bits,IntKind.signed]
 simp
 omega
theorem QeD{x z:Int}(h:z=x % 4294967296):IntKind.u32.wrap x=z:=by
 subst h
 simp [IntKind.wrap,IntKind.bits,IntKind.signed]
theorem QwR{x z:Int}(h:z=x % 18446744073709551616):IntKind.u64.wrap x=z:=by
 subst h
 simp [IntKind.wrap,IntKind.bits,IntKind.signed]
theorem wI{x z:Int}(h:x=z∧ -9223372036854775808≤z∧z≤9223372036854775807:=by omega):IntKind.i64.wrap x=z:=QaZ h
theorem cI{k:IntKind}{a b:Int}(h:a=b:=by omega):Value.int k a=Value.int k b:=congrArg _ h
theorem dT{p:Prop}[Decidable p](h:p):decide p=true:=decide_eq_true h
theorem dF{p:Prop}[Decidable p](h: ¬p):decide p=false:=decide_eq_false h
end Go.Gx
namespace Go.Gx
variable{dfs:List Deferred}
theorem Qjl{a b:Int}{k:IntKind}(n:Nat)(hn:min b.toNat k.bits=n)(p:Int)(hp:(2:Int)^n=p)(h0:0≤p):a.fdiv (2^ (min b.toNat k.bits))=a/p:=by
 rw[hn,hp];exact Int.fdiv_eq_ediv_of_nonneg _ h0
theorem oEv{P:Program}{n:Nat}{e:Nat→Value}{w:World}{K:Act→World→Prop}{Q:Exit→Act→World→Prop}{o:Oper}{d:Nat}{v:Value}(hv:Ev P n e o w v)(hd:o.dst=some d)(k:K (mkA dfs n (upd e d v)) w):
  OpW P o (mkA dfs n e) w K Q:=by
 unfold OpW Oper.wp
 rw[Yk,hv]
 show K ((mkA dfs n e).put o.dst v) w
 rw[hd,YM]
 exact k
end Go.Gx

namespace Go.Gx
open Go.RowKit
def over(ds:List Nat)(fl e:Nat→Value):Nat→Value:=fun s=>bif ds.any (QyF s) then fl s else e s
theorem QfT{ds:List Nat}{fl e:Nat→Value}{d:Nat}{v:Value}(h:ds.any (QyF d)=false):upd (over ds fl e) d v=over ds fl (upd e d v):=by
 funext s
 by_cases hs:s=d
 ·subst hs;simp only[upd_same,over,h,cond_false]
 ·simp only[Qcz _ _ hs,over]
theorem Qlu{ds:List Nat}{fl e:Nat→Value}{d:Nat}{v:Value}(h:ds.any (QyF d)=true):upd (over ds fl e) d v=over ds (upd fl d v) e:=by
 funext s
 by_cases hs:s=d
 ·subst hs;simp only[upd_same,over,h,cond_true]
 ·simp only[Qcz _ _ hs,over]
inductive Rch (ks:List Nat) (l0:Array Bool):List Nat→Array Bool→Prop
 |nil:Rch ks l0 ks l0
 |cons {p:List Nat} {l:Array Bool} {k:Nat}:Rch ks l0 p l→k∈p→Rch ks l0 (p.erase k) (l.setIfInBounds k true)
def chk(t:List Nat→Array Bool→Bool):Nat→List Nat→Array Bool→Bool
 |0,p,l=>p.isEmpty&&t p l
 |n+1,p,l=>t p l&&p.all fun k=>chk t n (p.erase k) (l.setIfInBounds k true)
theorem QvU{t:List Nat→Array Bool→Bool}: ∀{n:Nat}{p:List Nat}{l:Array Bool},chk t n p l=true→t p l=true
 |0,_,_,h=>by simp only[chk,UH] at h;exact h.2
 |_+1,_,_,h=>by simp only[chk,UH] at h;exact h.1
theorem Rch.chk{t:List Nat→Array Bool→Bool}{ks:List Nat}{l0:Array Bool}{N:Nat}(h0:chk t N ks l0=true){p:List Nat}{l:Array Bool}(h:Rch ks l0 p l):
  ∃n,Go.Gx.chk t n p l=true:=by
 induction h with
 |nil=>exact⟨N,h0⟩
 | @cons p l k _ hk ih=>
  obtain⟨n,hn⟩:=ih
  cases n with
  |zero=>simp only[Go.Gx.chk,UH,List.isEmpty_iff] at hn;rw[hn.1] at hk;cases hk
  |succ n=>
   simp only[Go.Gx.chk,UH,QyO] at hn
   exact⟨n,hn.2 k hk⟩
theorem Rch.test{t:List Nat→Array Bool→Bool}{ks:List Nat}{l0:Array Bool}{N:Nat}(h0:Go.Gx.chk t N ks l0=true){p:List Nat}{l:Array Bool}(h:Rch ks l0 p l):t p l=true:=by
 obtain⟨n,hn⟩:=h.chk h0
 exact QvU hn
theorem Rch.set{ks:List Nat}{l0:Array Bool}{p:List Nat}{l:Array Bool}(h:Rch ks l0 p l){j:Nat}(hj:j∉ks):Rch ks (l0.setIfInBounds j true) p (l.setIfInBounds j true)∧ ∀k∈p,k∈ks:=by
 induction h with
 |nil=>exact⟨.nil,fun _ h=>h⟩
 | @cons p l k hr hk ih=>
  refine⟨?_,fun x hx=>ih.2 x (List.mem_of_mem_erase hx)⟩
  have hne:k≠j:=fun h=>hj (h▸ih.2 k hk)
  rw[Array.setIfInBounds_comm _ _ hne]
  exact ih.1.cons hk
section
variable{P:Program}{ops:Array Oper}{Q:Exit→Act→World→Prop}{G:Nat→Prop}{n:Nat}
def Sep(v:Value)(i:Nat×Nat):Prop:= ∀q o r,v= .pointer (some ⟨q,o,r⟩)→q<i.1∨i.2≤q
structure Dn (ks:List Nat) (dOf:Nat→Nat) (Φ:Nat→Value→World→Prop) (Iv:List (Nat×Nat)) (p:List Nat) (fl:Nat→Value) (w:World):Prop where
 is: ∀k∈ks,k∉p→Φ k (fl (dOf k)) w
 ne: ∀k∈ks,∀k'∈ks,k∉p→k'∉p→k≠k'→fl (dOf k)≠fl (dOf k')
 out: ∀k∈ks,k∉p→ ∀i∈Iv,Sep (fl (dOf k)) i
def Wf(P:Program)(ops:Array Oper)(Q:Exit→Act→World→Prop)(G:Nat→Prop)(n:Nat)(ks:List Nat)(dOf:Nat→Nat)(Φ:Nat→Value→World→Prop)(B:Nat)(Iv:List (Nat×Nat))(fuel:Nat)(l0:Array Bool)(e:Nat→Value)(w:World):Prop:=
 (B≤w.heap.size∧ ∀i∈Iv,i.2≤w.heap.size)→ ∀p l fl w',Rch ks l0 p l→Ext w w'→Dn ks dOf Φ Iv p fl w'→Dr P ops Q G (fuel+p.length) l (mkA [] n (over (ks.map dOf) fl e)) w'
structure Fls (P:Program) (ops:Array Oper) (Q:Exit→Act→World→Prop) (G:Nat→Prop) (n:Nat) (ks:List Nat) (dOf:Nat→Nat) (Φ:Nat→Value→World→Prop) (B:Nat):Prop where
 run: ∀k∈ks,∀e w,B≤w.heap.size→wpOp P ops (NoPanic Q) k (fun a' w'=>Ext w w'∧ ∃v,a'=mkA [] n (upd e (dOf k) v)∧Φ k v w'∧(∀k'∈ks,∀v',Φ k' v' w→v'≠v)∧ ∀i:Nat×Nat,i.2≤w.heap.size→Sep v i) (mkA [] n e) w
 keep: ∀k∈ks,∀v w w',Ext w w'→Φ k v w→Φ k v w'
 below: ∀k∈ks,∀v w x,Φ k v w→Sep v (w.heap.size,x)
 inj: ∀k∈ks,∀k'∈ks,dOf k=dOf k'→k=k'
 nodup:ks.Nodup
variable{ks:List Nat}{dOf:Nat→Nat}{Φ:Nat→Value→World→Prop}{B:Nat}{Iv:List (Nat×Nat)}
theorem Rch.sub{l0 l:Array Bool}{p:List Nat}(h:Rch ks l0 p l):p.Sublist ks:=by
 induction h with
 |nil=>exact List.Sublist.refl _
 |cons _ _ ih=>exact List.erase_sublist.trans ih
theorem QuA{ds:List Nat}{d:Nat}(h:d∈ds):ds.any (QyF d)=true:=List.any_eq_true.2 ⟨d,h,QlP d⟩
theorem Fls.step(F:Fls P ops Q G n ks dOf Φ B){l0 l:Array Bool}{p:List Nat}{fuel k:Nat}{fl e:Nat→Value}{w:World}(hr:Rch ks l0 p l)(hk:k∈p)(hB:B≤w.heap.size∧ ∀i∈Iv,i.2≤w.heap.size)
  (hd:Dn ks dOf Φ Iv p fl w)
  (next: ∀fl' w',Ext w w'→Dn ks dOf Φ Iv (p.erase k) fl' w'→Dr P ops Q G fuel (l.setIfInBounds k true) (mkA [] n (over (ks.map dOf) fl' e)) w'):
  wpOp P ops (NoPanic Q) k (fun a' w'=>Frm G w w'∧Dr P ops Q G fuel (l.setIfInBounds k true) a' w') (mkA [] n (over (ks.map dOf) fl e)) w:=by
 have hks:=hr.sub.subset hk
 refine wpOp_mono (fun a' w' ⟨hE,v,ha,hv,hne,hsp⟩=>⟨.of_ext hE,?_⟩) (F.run k hks _ w hB.1)
 rw[ha,Qlu (QuA (List.mem_map_of_mem hks))]
 have old: ∀k'∈ks,k'∉p.erase k→k'≠k→k'∉p:=fun k' _ hn h hp=>hn ((List.mem_erase_of_ne h).2 hp)
 have oth: ∀k'∈ks,k'≠k→upd fl (dOf k) v (dOf k')=fl (dOf k'):=fun k' hk' h=>Qcz _ _ (fun hh=>h (F.inj k' hk' k hks hh))
 refine next _ w' hE ⟨fun k' hk' hn=> ?_,fun a ha b hb hna hnb hab=> ?_,fun k' hk' hn i hi=> ?_⟩
 ·by_cases h:k'=k
  ·subst h;rw[upd_same];exact hv
  ·rw[oth k' hk' h]
   exact F.keep k' hk' _ _ _ hE (hd.is k' hk' (old k' hk' hn h))
 ·by_cases h:a=k
  ·have h':b≠k:=fun hh=>hab (h.trans hh.symm)
   rw[oth b hb h',h,upd_same]
   exact(hne b hb _ (hd.is b hb (old b hb hnb h'))).symm
  ·rw[oth a ha h]
   by_cases h':b=k
   ·rw[h',upd_same]
    exact hne a ha _ (hd.is a ha (old a ha hna h))
   ·rw[oth b hb h']
    exact hd.ne a ha b hb (old a ha hna h) (old b hb hnb h') hab
 ·by_cases h:k'=k
  ·subst h;rw[upd_same];exact hsp i (hB.2 i hi)
  ·rw[oth k' hk' h];exact hd.out k' hk' (old k' hk' hn h) i hi
theorem Fls.kept(F:Fls P ops Q G n ks dOf Φ B){p:List Nat}{fl:Nat→Value}{w w':World}(h:Dn ks dOf Φ Iv p fl w)(hF:Ext w w'):Dn ks dOf Φ ((w.heap.size,w'.heap.size)::Iv) p fl w':=
 ⟨fun k hk hn=>F.keep k hk _ _ _ hF (h.is k hk hn),h.ne,fun k hk hn i hi=>by
  rcases List.mem_cons.1 hi with rfl|hi
  ·exact F.below k hk _ _ _ (h.is k hk hn)
  ·exact h.out k hk hn i hi⟩
theorem grown{w w':World}{G:Nat→Prop}(hB:B≤w.heap.size∧ ∀i∈Iv,i.2≤w.heap.size)(h:Frm G w w'):B≤w'.heap.size∧ ∀i∈Iv,i.2≤w'.heap.size:=
 ⟨Wj hB.1 h.size,fun i hi=>Wj (hB.2 i hi) h.size⟩
theorem QsW{fuel:Nat}{l0:Array Bool}{e:Nat→Value}{w:World}(h:Wf P ops Q G n ks dOf Φ w.heap.size [] fuel l0 e w):Dr P ops Q G (fuel+ks.length) l0 (mkA [] n e) w:=by
 have :=h ⟨Ug _,fun _ h=>by cases h⟩ ks l0 e w .nil (Frm.refl _ w) ⟨fun k h1 h2=>absurd h1 h2,fun k h1 _ _ h2=>absurd h1 h2,fun k h1 h2=>absurd h1 h2⟩
 have ho:over (ks.map dOf) e e=e:=by funext s;simp only[over];cases(ks.map dOf).any (QyF s)<;>rfl
 rwa [ho] at this
theorem wOp(F:Fls P ops Q G n ks dOf Φ B){fuel:Nat}{l0:Array Bool}{e:Nat→Value}{w:World}(j:Nat)
  (hc:(!ks.contains j&&chk (fun p l=>(Region.ready .any ops l).contains j&& (Region.ready .any ops l).all fun i=>i==j||p.contains i) ks.length ks l0)=true)
  (h: ∀fl w1,Ext w w1→wpOp P ops (NoPanic Q) j (fun a' w'=>Ext w1 w'∧ ∃e',a'=mkA [] n (over (ks.map dOf) fl e')∧Wf P ops Q G n ks dOf Φ B ((w1.heap.size,w'.heap.size)::Iv) fuel (l0.setIfInBounds j true) e' w') (mkA [] n (over (ks.map dOf) fl e)) w1):
  Wf P ops Q G n ks dOf Φ B Iv (fuel+1) l0 e w:=by
 simp only[UH] at hc
 have hj:j∉ks:=by simpa using hc.1
 intro hB
 suffices H: ∀m p l fl w',p.length=m→Rch ks l0 p l→Ext w w'→Dn ks dOf Φ Iv p fl w'→Dr P ops Q G (fuel+p.length+1) l (mkA [] n (over (ks.map dOf) fl e)) w' by
  intro p l fl w' hr hE hd
  rw[show fuel+1+p.length=fuel+p.length+1 by omega]
  exact H _ p l fl w' rfl hr hE hd
 intro m
 induction m with
 |zero=>
  intro p l fl w' hm hr hE hd
  have ht:=hr.test hc.2
  simp only[UH,QyO] at ht
  refine⟨fun h0=>(by rw[h0] at ht;simp at ht),fun i hi=> ?_⟩
  have hp:p=[]:=List.length_eq_zero_iff.1 hm
  have hij:i=j:=by have :=ht.2 i hi;simpa [hp] using this
  subst hij
  exact wpOp_mono (fun a' w'' ⟨hF,e',ha,hW⟩=>⟨.of_ext hF,by
   rw[ha]
   exact hW (have hg:=grown (grown hB hE) hF;⟨hg.1,fun i hi=>by
     rcases List.mem_cons.1 hi with rfl|hi
     ·exact Ug _
     ·exact hg.2 i hi⟩) p _ fl w'' (hr.set hj).1 (Frm.refl _ _) (F.kept hd hF)⟩) (h fl w' hE)
 |succ m ih=>
  intro p l fl w' hm hr hE hd
  have ht:=hr.test hc.2
  simp only[UH,QyO] at ht
  refine⟨fun h0=>(by rw[h0] at ht;simp at ht),fun i hi=> ?_⟩
  by_cases hij:i=j
  ·subst hij
   exact wpOp_mono (fun a' w'' ⟨hF,e',ha,hW⟩=>⟨.of_ext hF,by
    rw[ha]
    exact hW (have hg:=grown (grown hB hE) hF;⟨hg.1,fun i hi=>by
     rcases List.mem_cons.1 hi with rfl|hi
     ·exact Ug _
     ·exact hg.2 i hi⟩) p _ fl w'' (hr.set hj).1 (Frm.refl _ _) (F.kept hd hF)⟩) (h fl w' hE)
  ·have hip:i∈p:=by have :=ht.2 i hi;simpa [hij] using this
   have hl:=List.length_erase_of_mem hip
   refine F.step hr hip (grown hB hE) hd fun fl' w'' hE' hd'=> ?_
   have :=ih (p.erase i) (l.setIfInBounds i true) fl' w'' (by omega) (hr.cons hip) (hE.trans hE') hd'
   rwa [show fuel+(p.erase i).length+1=fuel+p.length by omega] at this
theorem QaV{fuel:Nat}{l0:Array Bool}{fl e:Nat→Value}{w:World}{d:Nat}{v:Value}(hd:(ks.map dOf).any (QyF d)=false)
  (h:Wf P ops Q G n ks dOf Φ B Iv fuel l0 (upd e d v) w): ∃e',mkA [] n (upd (over (ks.map dOf) fl e) d v)=mkA [] n (over (ks.map dOf) fl e')∧Wf P ops Q G n ks dOf Φ B Iv fuel l0 e' w:=
 ⟨upd e d v,by rw[QfT hd],h⟩
theorem wEv{fuel:Nat}{l0:Array Bool}{e:Nat→Value}{w:World}(i:Nat){o:Oper}{d:Nat}{v:Value}
  (ho:ops[i]? =some o)(hv: ∀fl w',Frm G w w'→Ev P n (over (ks.map dOf) fl e) o w' v)(hd:o.dst=some d)(hg: ∀fl,Qaa n (over (ks.map dOf) fl e) ops o.guard=true)
  (hc:(!ks.contains i&& (!(ks.map dOf).any (QyF d)&&chk (fun _ l=>Region.noSelect ops&&Region.free .any ops l i&& (Region.ready .any ops l).contains i) ks.length ks l0))=true)
  (k:Wf P ops Q G n ks dOf Φ B Iv fuel (l0.setIfInBounds i true) (upd e d v) w):Wf P ops Q G n ks dOf Φ B Iv (fuel+1) l0 e w:=by
 simp only[UH] at hc
 have hj:i∉ks:=by simpa using hc.1
 intro hB p l fl w' hr hE hd'
 rw[show fuel+1+p.length=fuel+p.length+1 by omega]
 refine dEv i ho (fun w'' hF=>hv fl w'' ((Frm.of_ext hE).trans hF)) hd (hg fl) (hr.test hc.2.2) ?_
 rw[QfT (by simpa using hc.2.1)]
 exact k hB p _ fl w' (hr.set hj).1 hE hd'
theorem QxT(F:Fls P ops Q G n ks dOf Φ B){fuel:Nat}{l0:Array Bool}{e:Nat→Value}{w:World}(l1:Array Bool)
  (hc:chk (fun p l=>bif p.isEmpty then l==l1 else !(Region.ready .any ops l).isEmpty&& (Region.ready .any ops l).all fun i=>p.contains i) ks.length ks l0=true)
  (h: ∀fl w',Ext w w'→Dn ks dOf Φ Iv [] fl w'→Dr P ops Q G fuel l1 (mkA [] n (over (ks.map dOf) fl e)) w'):Wf P ops Q G n ks dOf Φ B Iv fuel l0 e w:=by
 intro hB
 suffices H: ∀m p l fl w',p.length=m→Rch ks l0 p l→Ext w w'→Dn ks dOf Φ Iv p fl w'→Dr P ops Q G (fuel+p.length) l (mkA [] n (over (ks.map dOf) fl e)) w' from
  fun p l fl w' hr hE hd=>H _ p l fl w' rfl hr hE hd
 intro m
 induction m with
 |zero=>
  intro p l fl w' hm hr hE hd
  have hp:p=[]:=List.length_eq_zero_iff.1 hm
  subst hp
  have ht:=hr.test hc
  simp only[List.isEmpty_nil,cond_true,beq_iff_eq] at ht
  subst ht
  exact h fl w' hE hd
 |succ m ih=>
  intro p l fl w' hm hr hE hd
  have ht:=hr.test hc
  have hp:p.isEmpty=false:=by cases p<;>simp_all
  simp only[hp,cond_false,UH,QyO] at ht
  rw[show fuel+p.length=fuel+m+1 by omega]
  refine⟨fun h0=>(by rw[h0] at ht;simp at ht),fun i hi=> ?_⟩
  have hip:i∈p:=by have :=ht.2 i hi;simpa using this
  have hl:=List.length_erase_of_mem hip
  refine F.step hr hip (grown hB hE) hd fun fl' w'' hE' hd'=> ?_
  have :=ih (p.erase i) (l.setIfInBounds i true) fl' w'' (by omega) (hr.cons hip) (hE.trans hE') hd'
  rwa [show fuel+(p.erase i).length=fuel+m by omega] at this
def Qvn(P:Program)(ops:Array Oper)(Q:Exit→Act→World→Prop)(n:Nat)(tab:Nat→Nat×TypeId×List Value)(k:Nat):Prop:=
 ∀(e:Nat→Value)(w:World)(K:Act→World→Prop),(∀w',Ext w w'→Blk w' w.heap.size (tab k).2.1 (tab k).2.2→K (mkA [] n (upd e (tab k).1 (.pointer (some ⟨w.heap.size,0,none⟩)))) w')→wpOp P ops (NoPanic Q) k K (mkA [] n e) w
def Qvo(p:Nat→Prop):List Nat→Prop
 | []=>True
 |k::ks=>p k∧Qvo p ks
theorem Qvo.at{p:Nat→Prop}: ∀{ks:List Nat},Qvo p ks→ ∀k∈ks,p k
 |_::_,h,k,hk=>by
  rcases List.mem_cons.1 hk with rfl|hk
  ·exact h.1
  ·exact Qvo.at h.2 k hk
theorem QhQ{tab:Nat→Nat×TypeId×List Value}{k:Nat}{o:Oper}{z:Value}{ty:_}{pos:_}{af:_}(ho:ops[k]? =some o)(hs:o=⟨some (tab k).1,.alloc (tab k).2.1,ty,pos,af,none⟩)
  (hz: ∀w,(zeroValue (tab k).2.1).run P w= .ok z w)(hc:z.cells=(tab k).2.2.toArray):Qvn P ops Q n tab k:=by
 intro e w K h
 subst hs
 refine dWp ho rfl (Xj _ hz hc fun g w' hg hE _ hB=> ?_)
 subst hg
 exact h w' hE hB
def Qii(tab:Nat→Nat×TypeId×List Value)(B:Nat):Nat→Value→World→Prop:=fun k v w=> ∃q,v= .pointer (some ⟨q,0,none⟩)∧B≤q∧Blk w q (tab k).2.1 (tab k).2.2
theorem Qke{f:Nat→Nat}: ∀{l:List Nat},(l.map f).Nodup→ ∀{a b:Nat},a∈l→b∈l→f a=f b→a=b
 |x::l,h,a,b,ha,hb,he=>by
  rw[Wk,List.nodup_cons] at h
  rcases List.mem_cons.1 ha with h1|h1<;>rcases List.mem_cons.1 hb with h2|h2
  ·rw[h1,h2]
  ·exact absurd (List.mem_map.2 ⟨b,h2,by rw[←he,h1]⟩) h.1
  ·exact absurd (List.mem_map.2 ⟨a,h1,by rw[he,h2]⟩) h.1
  ·exact Qke h.2 h1 h2 he
theorem Qwa{tab:Nat→Nat×TypeId×List Value}(h:Qvo (Qvn P ops Q n tab) ks)(hi:(ks.map fun k=>(tab k).1).Nodup):Fls P ops Q G n ks (fun k=>(tab k).1) (Qii tab B) B:=by
 refine⟨fun k hk e w hB=>h.at k hk e w _ fun w' hE hb=>⟨hE,_,rfl,⟨_,rfl,hB,hb⟩,fun k' _ v' ⟨q,hv,_,hq⟩ he=> ?_,fun i hi q o r he=> ?_⟩,fun k hk v w w' hF ⟨q,hv,hl,hq⟩=>⟨q,hv,hl,hq.frm hF fun hg=>hg⟩,fun k _ v w x ⟨q,hv,_,hq⟩ q' o r he=> ?_,?_,?_⟩
 ·rw[hv] at he
  have :=hq.lt
  injection he with he;injection he with he;injection he with he
  omega
 ·injection he with he;injection he with he;injection he with he
  exact .inr (by omega)
 ·rw[hv] at he
  have :=hq.lt
  injection he with he;injection he with he;injection he with he
  exact .inl (by show q'<w.heap.size;omega)
 ·intro k hk k' hk' he
  exact Qke hi hk hk' he
 ·exact List.Pairwise.of_map _ (fun a b h he=>h (by rw[he])) hi
theorem Qko{d:Nat}{ds:List Nat}{fl e:Nat→Value}:over (d::ds) fl e=upd (over ds fl e) d (fl d):=by
 funext s
 by_cases hs:s=d
 ·subst hs;simp [over,upd_same]
 ·simp [over,Qcz _ _ hs,Qr8 hs]
theorem Qmw{fl e:Nat→Value}:over [] fl e=e:=rfl
def Off(q:Nat):List (Nat×Nat)→Prop
 | []=>True
 |i::l=>(q<i.1∨i.2≤q)∧Off q l
theorem Qmu{q:Nat}: ∀{l:List (Nat×Nat)},(∀i∈l,q<i.1∨i.2≤q)→Off q l
 | [],_=>trivial
 |i::_,h=>⟨h i (by simp),Qmu fun j hj=>h j (by simp [hj])⟩
theorem Off.ne{q:Nat}: ∀{l:List (Nat×Nat)},Off q l→ ∀(a b:Nat),(a,b)∈l→ ∀x,a≤x→x<b→x≠q
 |i::l,h,a,b,hm,x,h1,h2=>by
  rcases List.mem_cons.1 hm with he|hm
  ·have :=h.1;rw[←he] at this;dsimp only at this;omega
  ·exact Off.ne h.2 a b hm x h1 h2
theorem QhP{tab:Nat→Nat×TypeId×List Value}{k1:Nat}(F:Fls P ops Q G n [k1] (fun k=>(tab k).1) (Qii tab B) B){fuel:Nat}{l0:Array Bool}{e:Nat→Value}{w:World}(l1:Array Bool)
  (hc:chk (fun p l=>bif p.isEmpty then l==l1 else !(Region.ready .any ops l).isEmpty&& (Region.ready .any ops l).all fun i=>p.contains i) 1 [k1] l0=true)
  (h: ∀q1 w',Ext w w'→B≤q1→Blk w' q1 (tab k1).2.1 (tab k1).2.2→Off q1 Iv→Dr P ops Q G fuel l1 (mkA [] n (upd e (tab k1).1 (.pointer (some ⟨q1,0,none⟩)))) w'):
  Wf P ops Q G n [k1] (fun k=>(tab k).1) (Qii tab B) B Iv fuel l0 e w:=by
 refine QxT F l1 hc fun fl w' hE hd=> ?_
 obtain⟨q1,h1,hb1,hB1⟩:=hd.is k1 (by simp) (by simp)
 simp only[Wk,QyE,Qko,Qmw,h1]
 exact h q1 w' hE hb1 hB1 (Qmu fun i hi=>hd.out k1 (by simp) (by simp) i hi _ _ _ h1)
theorem Qqq{tab:Nat→Nat×TypeId×List Value}{k1 k2:Nat}(F:Fls P ops Q G n [k1,k2] (fun k=>(tab k).1) (Qii tab B) B){fuel:Nat}{l0:Array Bool}{e:Nat→Value}{w:World}(l1:Array Bool)
  (hc:chk (fun p l=>bif p.isEmpty then l==l1 else !(Region.ready .any ops l).isEmpty&& (Region.ready .any ops l).all fun i=>p.contains i) 2 [k1,k2] l0=true)
  (h: ∀q1 q2 w',Ext w w'→B≤q1→B≤q2→q1≠q2→Blk w' q1 (tab k1).2.1 (tab k1).2.2→Blk w' q2 (tab k2).2.1 (tab k2).2.2→Off q1 Iv→Off q2 Iv→Dr P ops Q G fuel l1 (mkA [] n (upd (upd e (tab k2).1 (.pointer (some ⟨q2,0,none⟩))) (tab k1).1 (.pointer (some ⟨q1,0,none⟩)))) w'):
  Wf P ops Q G n [k1,k2] (fun k=>(tab k).1) (Qii tab B) B Iv fuel l0 e w:=by
 refine QxT F l1 hc fun fl w' hE hd=> ?_
 have hn:=F.nodup
 have hk:k1≠k2:=by intro hh;subst hh;simp at hn
 obtain⟨q1,h1,hb1,hB1⟩:=hd.is k1 (by simp) (by simp)
 obtain⟨q2,h2,hb2,hB2⟩:=hd.is k2 (by simp) (by simp)
 have hne:=hd.ne k1 (by simp) k2 (by simp) (by simp) (by simp) hk
 simp only[Wk,QyE,Qko,Qmw]
 rw[h1,h2] at hne
 rw[h1,h2]
 exact h q1 q2 w' hE hb1 hb2 (fun hh=>hne (by rw[hh])) hB1 hB2 (Qmu fun i hi=>hd.out k1 (by simp) (by simp) i hi _ _ _ h1) (Qmu fun i hi=>hd.out k2 (by simp) (by simp) i hi _ _ _ h2)
theorem QqB{fuel:Nat}{l0:Array Bool}{e:Nat→Value}{w:World}(tab:Nat→Nat×TypeId×List Value)(k1:Nat)(h1:Qvn P ops Q n tab k1)
  (k:Fls P ops Q G n [k1] (fun k=>(tab k).1) (Qii tab w.heap.size) w.heap.size→Wf P ops Q G n [k1] (fun k=>(tab k).1) (Qii tab w.heap.size) w.heap.size [] fuel l0 e w):Dr P ops Q G (fuel+1) l0 (mkA [] n e) w:=
 QsW (k (Qwa ⟨h1,trivial⟩ (by simp)))
theorem QwQ{fuel:Nat}{l0:Array Bool}{e:Nat→Value}{w:World}(tab:Nat→Nat×TypeId×List Value)(k1 k2:Nat)(h1:Qvn P ops Q n tab k1)(h2:Qvn P ops Q n tab k2)(hd:QyF (tab k1).1 (tab k2).1=false)
  (k:Fls P ops Q G n [k1,k2] (fun k=>(tab k).1) (Qii tab w.heap.size) w.heap.size→Wf P ops Q G n [k1,k2] (fun k=>(tab k).1) (Qii tab w.heap.size) w.heap.size [] fuel l0 e w):Dr P ops Q G (fuel+1+1) l0 (mkA [] n e) w:=
 QsW (k (Qwa ⟨h1,h2,trivial⟩ (by
  have :(tab k1).1≠ (tab k2).1:=fun h=>by rw[h,QlP] at hd;cases hd
  simp [this])))
end
attribute [irreducible] Wf
end Go.Gx

namespace Go.Gx
open Go.RowKit
variable{dfs:List Deferred}
def trimB{α:Type}(p:α→Bool)(l:List α):List α:=(l.reverse.dropWhile p).reverse
theorem YV{α:Type}(p:α→Bool)(l:List α)(x:α)(h:p x=true):trimB p (l++[x])=trimB p l:=by
 simp [trimB,h]
theorem Zj{α:Type}(p:α→Bool)(l:List α)(x:α)(h:p x=false):trimB p (l++[x])=l++[x]:=by
 simp [trimB,h]
theorem Yx{α:Type}(l:List α):l=[]∨ ∃k x,l=k++[x]:=by
 rcases List.eq_nil_or_concat l with h| ⟨k,x,h⟩
 ·exact .inl h
 ·exact .inr ⟨k,x,by simpa using h⟩
theorem Qjs{α:Type}(p:α→Bool): ∀(m:Nat)(l:List α)(k:Nat),l.length=k+m→(∀(j:Nat) x,k≤j→l[j]? =some x→p x=true)→(k=0∨ ∃x,l[k-1]? =some x∧p x=false)→trimB p l=l.take k
 |0,l,k,hl,_,hk=>by
  rw[Ui (by omega)]
  rcases Yx l with h| ⟨l',x,rfl⟩
  ·subst h;rfl
  ·rcases hk with hk| ⟨y,hy,hp⟩
   ·subst hk;simp at hl
   ·simp at hl
    have :(l'++[x])[k-1]? =some x:=by
     rw[show k -1=l'.length by omega];simp
    rw[this] at hy
    injection hy with hy
    subst hy
    exact Zj p l' x hp
 |m+1,l,k,hl,hz,hk=>by
  rcases Yx l with h| ⟨l',x,rfl⟩
  ·subst h;simp at hl
  ·simp at hl
   have hx:p x=true:=hz l'.length x (by omega) (by simp)
   rw[YV p l' x hx]
   rw[Qjs p m l' k (by omega) (fun j y hj hy=>hz j y hj (by
    rw[UR]
    ·exact hy
    ·rcases Up j l'.length with h|h
     ·exact h
     ·rw[Ul h] at hy;cases hy)) ?_]
   ·rw[UI (by omega)]
   ·rcases hk with hk| ⟨y,hy,hp⟩
    ·exact .inl hk
    ·refine .inr ⟨y,?_,hp⟩
     rcases Uk k with h0|h0
     ·subst h0
      have :=hz 0 y (Ug _) hy
      rw[this] at hp;cases hp
     ·rw[UR (by omega)] at hy
      exact hy
theorem QdA{α:Type}(p:α→Bool)(l:List α): ∃k,k≤l.length∧trimB p l=l.take k:=by
 have h: ∀(m:Nat)(l:List α),l.length=m→ ∃k,k≤l.length∧trimB p l=l.take k:=by
  intro m
  induction m with
  |zero=>intro l hl;exact⟨0,by omega,by simp [Ua hl,trimB]⟩
  |succ m ih=>
   intro l hl
   rcases Yx l with h| ⟨l',x,rfl⟩
   ·subst h;simp at hl
   ·cases hx:p x with
    |true=>
     obtain⟨k,hk,e⟩:=ih l' (by simpa using hl)
     exact⟨k,by simp;omega,by rw[YV p l' x hx,e,UI hk]⟩
    |false=>exact⟨l'.length+1,by simp,by rw[Zj p l' x hx,Ui (by simp)]⟩
 exact h _ l rfl
theorem Qdz{α:Type}(p:α→Bool)(l:List α):(trimB p l).length≤l.length:=by
 obtain⟨k,hk,e⟩:=QdA p l
 rw[e,UP];omega
theorem QnD{α:Type}(p:α→Bool)(l:List α):trimB p l=l.take (trimB p l).length:=by
 obtain⟨k,hk,e⟩:=QdA p l
 rw[e,UP,UT hk]
theorem Qfb{α:Type}(p:α→Bool)(l:List α){x:α}(h:x∈trimB p l):x∈l:=by
 obtain⟨k,hk,e⟩:=QdA p l
 rw[e] at h;exact UJ h
theorem Qcv{α:Type}(p:α→Bool)(l:List α){k:List α}{x:α}(h:trimB p l=k++[x]):p x=false:=by
 have h2: ∀(m:Nat)(l:List α),l.length=m→ ∀k x,trimB p l=k++[x]→p x=false:=by
  intro m
  induction m with
  |zero=>intro l hl k x h;simp [Ua hl,trimB] at h
  |succ m ih=>
   intro l hl k x h
   rcases Yx l with h0| ⟨l',y,rfl⟩
   ·subst h0;simp at hl
   ·cases hy:p y with
    |true=>rw[YV p l' y hy] at h;exact ih l' (by simpa using hl) k x h
    |false=>
     rw[Zj p l' y hy] at h
     have :=List.append_inj_right' h rfl
     simp at this
     subst this
     exact hy
 exact h2 _ l rfl k x h
theorem QnC{α:Type}(p:α→Bool)(l:List α):trimB p (trimB p l)=trimB p l:=by
 rcases Yx (trimB p l) with h| ⟨k,x,h⟩
 ·rw[h];rfl
 ·rw[h];exact Zj p k x (Qcv p l h)
def Canon{α:Type}(p:α→Bool)(l:List α):Prop:=trimB p l=l
theorem XJ{α:Type}(p:α→Bool)(l:List α):Canon p (trimB p l):=QnC p l
theorem Qci{α:Type}(p:α→Bool):Canon p ([]:List α):=rfl
theorem Zs{α:Type}{p:α→Bool}{l:List α}{x:α}:Canon p (l++[x])↔p x=false:=by
 constructor
 ·intro h;exact Qcv p _ h
 ·intro h;exact Zj p l x h
abbrev BS:Nat:=4294967296
def isZ(d:Nat):Bool:=d==0
abbrev Zw(ds:List Nat):List Nat:=trimB isZ ds
def val:List Nat→Nat
 | []=>0
 |d::ds=>d+BS*val ds
theorem val_append(a b:List Nat):val (a++b)=val a+BS^a.length*val b:=by
 induction a with
 |nil=>simp [val]
 |cons d a ih=>simp only[Qye,val,ih,Um,WC];rw[Ut,←UB,UC (BS^a.length) BS,QyH]
theorem Qav(a:List Nat)(d:Nat):val (a++[d])=val a+BS^a.length*d:=by
 rw[val_append];simp [val]
theorem QcT(a:List Nat):val (a++[0])=val a:=by rw[Qav];simp
theorem XX(ds:List Nat):val (Zw ds)=val ds:=by
 have h: ∀(m:Nat)(l:List Nat),l.length=m→val (Zw l)=val l:=by
  intro m
  induction m with
  |zero=>intro l hl;simp [Ua hl,trimB]
  |succ m ih=>
   intro l hl
   rcases Yx l with h0| ⟨l',y,rfl⟩
   ·subst h0;simp at hl
   ·cases hy:isZ y with
    |true=>
     have :y=0:=by simpa [isZ] using hy
     subst this
     show val (trimB isZ _)=_
     rw[YV isZ l' 0 hy,QcT]
     exact ih l' (by simpa using hl)
    |false=>
     show val (trimB isZ _)=_
     rw[Zj isZ l' y hy]
 exact h _ ds rfl
theorem QaU: ∀(ds:List Nat),(∀d∈ds,d<BS)→val ds<BS^ds.length
 | [],_=>by simp [val]
 |d::ds,h=>by
  have h1:=h d (by simp)
  have h2:=QaU ds fun x hx=>h x (by simp [hx])
  simp only[val,Um,WC]
  have h3:BS*(val ds+1)≤BS*BS^ds.length:=Uf _ h2
  rw[UC (BS^ds.length) BS]
  have :BS*(val ds+1)=BS*val ds+BS:=by rw[Ut,Wt]
  omega
theorem Qau(ds:List Nat)(k:Nat):val (ds.take (k+1))=val (ds.take k)+BS^k*ds.getD k 0:=by
 rcases Up k ds.length with h|h
 ·rw[Qys h,Qav]
  rw[UP,UT (by omega)]
  simp [Uh,h]
 ·rw[Ui (by omega),Ui h]
  simp [Uh,Ul h]
abbrev Yc:Nat:=9223372036854775807
def Rd(w:World)(S:Nat→Prop)(A:Option Addr)(n c k:Nat)(cs:List Value):Prop:=
 cs.length=n*k∧n≤c∧c≤Yc∧
  (0<n→ ∃b off,A=some ⟨b,off,none⟩∧S b∧b<w.heap.size∧ ∀(j:Nat) v,cs[j]? =some v→w.cell? ⟨b,off+j,none⟩=some v)
section rd
variable{w w':World}{S S' G:Nat→Prop}{A:Option Addr}{n c k:Nat}{cs:List Value}
theorem Rd.frm(h:Rd w S A n c k cs)(f:Frm G w w')(hd: ∀b,S b→ ¬G b):Rd w' S A n c k cs:=
 ⟨h.1,h.2.1,h.2.2.1,fun hn=>by
  obtain⟨b,off,e,hs,hb,hc⟩:=h.2.2.2 hn
  exact⟨b,off,e,hs,UM hb f.size,fun j v hj=>(f.cell (p:=⟨b,off+j,none⟩) hb (hd b hs)).trans (hc j v hj)⟩⟩
theorem Rd.frmB(h:Rd w S A n c k cs)(f:Frm G w w')(hd: ∀b,b<w.heap.size→S b→ ¬G b):Rd w' S A n c k cs:=
 ⟨h.1,h.2.1,h.2.2.1,fun hn=>by
  obtain⟨b,off,e,hs,hb,hc⟩:=h.2.2.2 hn
  exact⟨b,off,e,hs,UM hb f.size,fun j v hj=>(f.cell (p:=⟨b,off+j,none⟩) hb (hd b hb hs)).trans (hc j v hj)⟩⟩
theorem Rd.ext(h:Rd w S A n c k cs)(f:Ext w w'):Rd w' S A n c k cs:=h.frm f fun _ _ g=>g
theorem Rd.sub(h:Rd w S A n c k cs)(hs: ∀b,b<w.heap.size→S b→S' b):Rd w S' A n c k cs:=
 ⟨h.1,h.2.1,h.2.2.1,fun hn=>by
  obtain⟨b,off,e,hS,hb,hc⟩:=h.2.2.2 hn
  exact⟨b,off,e,hs b hb hS,hb,hc⟩⟩
theorem Rd.low(h:Rd w S A n c k cs):Rd w (· <w.heap.size) A n c k cs:=h.sub fun _ hb _=>hb
theorem Rd.nil:Rd w S none 0 0 k []:=⟨by simp,Ug _,Qyr _,fun h=>absurd h (by omega)⟩
theorem Rd.base(h:Rd w S A n c k cs)(hn:0<n): ∃b off,A=some ⟨b,off,none⟩:=by
 obtain⟨b,off,e,_⟩:=h.2.2.2 hn
 exact⟨b,off,e⟩
theorem Rd.cell{b off:Nat}(h:Rd w S (some ⟨b,off,none⟩) n c k cs){j:Nat}{v:Value}(hj:cs[j]? =some v):w.cell? ⟨b,off+j,none⟩=some v:=by
 have hn:0<n:=by
  rcases Uk n with h0|h0
  ·have :=h.1;rw[h0,Nat.zero_mul] at this
   rw[Ua this] at hj;cases hj
  ·exact h0
 obtain⟨b',off',e,_,_,hc⟩:=h.2.2.2 hn
 injection e with e
 injection e with e1 e2
 subst e1 e2
 exact hc j v hj
theorem Rd.take{m:Nat}(h:Rd w S A n c k cs)(hm:m≤n):Rd w S A m c k (cs.take (m*k)):=by
 refine⟨by rw[UP,h.1];exact UT (Uy k hm),Wj hm h.2.1,h.2.2.1,fun h0=> ?_⟩
 obtain⟨b,off,e,hs,hb,hc⟩:=h.2.2.2 (by omega)
 refine⟨b,off,e,hs,hb,fun j v hj=>hc j v ?_⟩
 rw[WA] at hj
 split at hj
 ·exact hj
 ·cases hj
theorem Rd.drop{m:Nat}(h:Rd w S A n c k cs)(hm:m≤n):Rd w S (if c=m then A else A.map (·.add (m*k))) (n -m) (c -m) k (cs.drop (m*k)):=by
 have h1:=h.2.1
 refine⟨by rw[QyP,h.1,Nat.sub_mul],by omega,by have :=h.2.2.1;omega,fun h0=> ?_⟩
 obtain⟨b,off,e,hs,hb,hc⟩:=h.2.2.2 (by omega)
 subst e
 rw[if_neg (by omega)]
 refine⟨b,off+m*k,by simp [addr_add],hs,hb,fun j v hj=> ?_⟩
 rw[QyH]
 exact hc (m*k+j) v (by rw[←hj,UU])
theorem Rd.of_blk{g:Nat}{t:TypeId}(h:Blk w g t cs)(hS:S g)(hl:cs.length=n*k)(hc:n≤c)(hm:c≤Yc):Rd w S (some ⟨g,0,none⟩) n c k cs:=
 ⟨hl,hc,hm,fun _=>⟨g,0,rfl,hS,h.lt,fun j v hj=>by rw[WJ];exact h.at_ hj⟩⟩
end rd
def u32(d:Nat):Value:= .int .u32 (d:Int)
def Xn(w:World)(S:Nat→Prop)(A:Option Addr)(n c:Nat)(ds:List Nat):Prop:=Rd w S A n c 1 (ds.map u32)∧ ∀d∈ds,d<BS
section natr
variable{w w':World}{S S' G:Nat→Prop}{A:Option Addr}{n c:Nat}{ds:List Nat}
theorem Xn.frm(h:Xn w S A n c ds)(f:Frm G w w')(hd: ∀b,S b→ ¬G b):Xn w' S A n c ds:=⟨h.1.frm f hd,h.2⟩
theorem Xn.frmB(h:Xn w S A n c ds)(f:Frm G w w')(hd: ∀b,b<w.heap.size→S b→ ¬G b):Xn w' S A n c ds:=⟨h.1.frmB f hd,h.2⟩
theorem Xn.ext(h:Xn w S A n c ds)(f:Ext w w'):Xn w' S A n c ds:=⟨h.1.ext f,h.2⟩
theorem Xn.sub(h:Xn w S A n c ds)(hs: ∀b,b<w.heap.size→S b→S' b):Xn w S' A n c ds:=⟨h.1.sub hs,h.2⟩
theorem Xn.low(h:Xn w S A n c ds):Xn w (· <w.heap.size) A n c ds:=⟨h.1.low,h.2⟩
theorem Xn.nil:Xn w S none 0 0 []:=⟨Rd.nil,by simp⟩
theorem Xn.len(h:Xn w S A n c ds):ds.length=n:=by have :=h.1.1;simpa using this
theorem Xn.cap(h:Xn w S A n c ds):n≤c:=h.1.2.1
theorem Xn.max(h:Xn w S A n c ds):c≤9223372036854775807:=h.1.2.2.1
theorem Xn.lkm(h:Xn w S A n c ds):ds.length=n∧n≤c∧c≤9223372036854775807:=⟨h.len,h.cap,h.max⟩
theorem Xn.base(h:Xn w S A n c ds)(hn:0<n): ∃b off,A=some ⟨b,off,none⟩:=h.1.base hn
theorem Xn.lt(h:Xn w S A n c ds)(i:Nat):ds.getD i 0<4294967296:=by
 rcases Up i ds.length with hi|hi
 ·simp only[Uh,Ud hi,Qyg];exact h.2 _ (Wr hi)
 ·simp [Uh,Ul hi]
theorem Xn.cell{b off:Nat}(h:Xn w S (some ⟨b,off,none⟩) n c ds){i:Nat}(hi:i<n):w.cell? ⟨b,off+i,none⟩=some (.int .u32 ((ds.getD i 0:Nat):Int)):=by
 refine h.1.cell ?_
 have hl:i<ds.length:=by rw[h.len];exact hi
 simp [Un,Ud hl,u32]
theorem Xn.take{m:Nat}(h:Xn w S A n c ds)(hm:m≤n):Xn w S A m c (ds.take m):=by
 refine⟨?_,fun d hd=>h.2 d (UJ hd)⟩
 have :=h.1.take hm
 rw[Wt,←List.map_take] at this
 exact this
theorem Xn.drop{m:Nat}(h:Xn w S A n c ds)(hm:m≤n):Xn w S (if c=m then A else A.map (·.add (m*1))) (n -m) (c -m) (ds.drop m):=by
 refine⟨?_,fun d hd=>h.2 d (Wl hd)⟩
 have :=h.1.drop hm
 rw[Wt,←List.map_drop] at this
 rw[Wt]
 exact this
theorem Xn.of_blk{g:Nat}{t:TypeId}(h:Blk w g t (ds.map u32))(hS:S g)(hd: ∀d∈ds,d<BS)(hl:ds.length=n)(hc:n≤c)(hm:c≤Yc):Xn w S (some ⟨g,0,none⟩) n c ds:=
 ⟨Rd.of_blk h hS (by simpa using hl) hc hm,hd⟩
end natr
def Xx(neg:Bool)(ds:List Nat):Int:=if neg then -(val ds:Int) else(val ds:Int)
end Go.Gx
namespace Go.Gx
variable{dfs:List Deferred}
theorem Qbk{ds:List Nat}{n:Nat}(h:ds.length≤n): ∀j,n≤j→ds.getD j 0=0:=by
 intro j hj;simp [Uh,Ul (by omega:ds.length≤j)]
theorem QfI{ds:List Nat}{k:Nat}(h: ∀j,k≤j→ds.getD j 0=0)(h1:ds.getD (k -1) 0=0): ∀j,k -1≤j→ds.getD j 0=0:=by
 intro j hj
 rcases Up j k with hl|hl
 ·have :j=k -1:=by omega
  subst this;exact h1
 ·exact h j hl
theorem Qfc{ds:List Nat}{k:Nat}(hk:k≤ds.length)(hz: ∀j,k≤j→ds.getD j 0=0)(hl:k=0∨ds.getD (k -1) 0≠0):ds.take k=Zw ds:=by
 refine(Qjs isZ (ds.length -k) ds k (by omega) (fun j x hj hx=> ?_) ?_).symm
 ·have :=hz j hj;simp [Uh,hx] at this;simp [isZ,this]
 ·rcases Uk k with h0|h0
  ·exact .inl h0
  ·right
   rcases hl with hl|hl
   ·omega
   ·have hlt:k -1<ds.length:=by omega
    refine⟨ds[k-1],Ud hlt,?_⟩
    simp [Uh,hlt] at hl
    simpa [isZ] using hl
end Go.Gx
namespace Go.Gx
open Go.RowKit
variable{dfs:List Deferred}
section copy
variable{P:Program}{n:Nat}{e:Nat→Value}{w:World}{K:Act→World→Prop}{Q:Exit→Act→World→Prop}{ty:TypeId}{pos:String}{af:Array Edge}{gd:Option (Nat×Bool)}
theorem QhG{d:Option Nat}{x y:Operand}{t t' el bt:TypeId}{S:Nat→Prop}{A:Option Addr}{g off dl dc m c:Nat}{cs ds:List Value}(ht:P.underlying t=some (.slice el))(hs: ∀w,(sizeOf el).run P w= .ok 1 w)
  (hx:ev n e x= .slice (some ⟨g,off,none⟩) dl dc)(hy:ev n e y= .slice A m c)(hr:Rd w S A m c 1 cs)(h1:cs.all Value.oneCell'=true)(hb:Blk w g bt ds)(hm:m≤dl)(hl:off+m≤ds.length)
  (k: ∀w',Frm (fun b=>b=g) w w'→w'.heap.size=w.heap.size→Blk w' g bt (ds.take off++cs++ds.drop (off+m))→K ((mkA dfs n e).put d (.int .i64 (m:Int))) w'):
  OpW P ⟨d,.call {callee:= .builtin .copy,args:= #[x,y],argTypes:= #[t,t']},ty,pos,af,gd⟩ (mkA dfs n e) w K Q:=by
 have hcl:cs.length=m:=by have :=hr.1;simpa using this
 have hmin:Nat.min m dl=m:=UT hm
 have hf:(Builtin.firstCells 1 m (.slice A m c)).run P w= .ok cs.toArray w:=by
  cases A with
  |none=>
   have h0:m=0:=by
    rcases Uk m with h|h
    ·exact h
    ·obtain⟨b,o,e,_⟩:=hr.2.2.2 h;cases e
   subst h0
   have :cs=[]:=Ua hcl
   subst this
   simp [Builtin.firstCells]
  |some a=>
   have :=run_loadCells_list (P:=P) w a cs (fun j v hj=>by
    have hpos:0<m:=by
     rcases Uk m with h|h
     ·subst h;rw[Ua hcl] at hj;cases hj
     ·exact h
    obtain⟨b,o,e,_,_,hc⟩:=hr.2.2.2 hpos
    injection e with e
    subst e
    rw[addr_add]
    exact hc j v hj)
   rw[hcl] at this
   simp [Builtin.firstCells,this]
 have hst:=run_storeCells_at P g off bt cs 0 ds.toArray w hb (by simp [hcl];exact hl) (List.all_eq_true.1 h1)
 simp only[WB] at hst
 have hrun:(Builtin.copy_ #[t,t'] ty #[.slice (some ⟨g,off,none⟩) dl dc,.slice A m c]).run P w= .ok (goInt m) (w.setRow g (ds.take off++cs++ds.drop (off+m)).toArray):=by
  rw[hcl] at hst
  simp [Builtin.copy_,run_underlying ht,Builtin.lenOf,hmin,hs,hf,hst]
 unfold OpW Oper.wp
 rw[Yk]
 simp only[execOp,resolve,invoke,builtin,Sem.run_bind,Sem.run_pure,Result.andThen_ok,Qzp,Wk,QyE,hx,hy,hrun,Oper.upon]
 refine k _ ⟨rfl,rfl,rfl,by simp [World.setRow],Ug _,fun j _ hj=> ?_⟩ (by simp [World.setRow]) ?_
 ·simp only[World.setRow,WG]
  rw[if_neg fun h=>hj h.symm]
 ·exact setRow_heap w g ds.toArray (ds.take off++cs++ds.drop (off+m)).toArray bt (0,0) hb
end copy
theorem Qba(ds:List Nat):(ds.map u32).all Value.oneCell'=true:=by
 induction ds with
 |nil=>rfl
 |cons d ds ih=>simp only[Wk,List.all_cons,ih];rfl
theorem Blk.dig{w:World}{g:Nat}{t:TypeId}{ds:List Nat}(h:Blk w g t (ds.map u32)){i:Nat}(hi:i<ds.length):w.cell? ⟨g,i,none⟩=some (.int .u32 ((ds.getD i 0:Nat):Int)):=by
 refine h.at_ ?_
 simp [Un,Ud hi,u32]
theorem Qq6(P:List Nat)(m s:Nat)(hm:0<m):(P++Uc m 0).set P.length s=(P++[s])++Uc (m -1) 0:=by
 obtain⟨j,rfl⟩: ∃j,m=j+1:=⟨m -1,by omega⟩
 rw[Qyl]
 simp
end Go.Gx
namespace Go.Gx
variable{dfs:List Deferred}
theorem getD_lt{ds:List Nat}{i:Nat}(h: ∀d∈ds,d<BS):ds.getD i 0<4294967296:=by
 rcases Up i ds.length with hi|hi
 ·simp only[Uh,Ud hi,Qyg];exact h _ (Wr hi)
 ·simp [Uh,Ul hi]
theorem Qm1{ds:List Nat}(h:val ds=0):Zw ds=[]:=by
 rcases Yx (Zw ds) with h0| ⟨k,x,h0⟩
 ·exact h0
 ·have h1:=Qcv isZ ds h0
  have h2:val (Zw ds)=0:=by rw[XX];exact h
  rw[h0,Qav] at h2
  have h3:x≠0:=by intro e;subst e;simp [isZ] at h1
  have h4:0<BS^k.length*x:=Nat.mul_pos (WQ (by decide)) (by omega)
  omega
theorem Qrg{ds d':List Nat}(e:d'=Zw ds)(hn:d'.length=0):true=decide (val ds=0):=by
 have h1:Zw ds=[]:=by rw[←e];exact Ua hn
 have :val ds=0:=by rw[←XX,h1];rfl
 simp [this]
theorem Qpi{ds d':List Nat}(e:d'=Zw ds)(hn:d'.length≠0):false=decide (val ds=0):=by
 have :val ds≠0:=by
  intro h0
  rw[Qm1 h0] at e
  subst e;simp at hn
 simp [this]
theorem Qgo(m:Nat): ∀d∈Uc m 0,d<BS:=by
 intro d hd
 have :=Uu hd
 subst this;decide
end Go.Gx

namespace Go.Gx
variable{D P Q R Z a a' b b' d r:List Nat}{X c c' i j k m m' n nb q s t x y:Nat}
theorem QiD(h:val P+BS^k*c=X)(hl:P.length=k)(hs:s+BS*c'=x+c):val (P++[s])+BS^ (k+1)*c'=X+BS^k*x:=by
 rw[Qav,hl,WC,UB,QyH,←Ut,hs,Ut,←h]
 omega
theorem YS(ds:List Nat)(h:ds.length≤k):val (ds.take k)=val ds:=by rw[Ui h]
theorem QbW(h:val P+BS^k*c=val (a.take k)+val (b.take k))(hl:P.length=k)(hs:s+4294967296*c'=a.getD k 0+b.getD k 0+c):
  val (P++[s])+BS^ (k+1)*c'=val (a.take (k+1))+val (b.take (k+1)):=by
 replace hs:s+BS*c'=a.getD k 0+b.getD k 0+c:=hs
 rw[QiD h hl hs,Qau,Qau,Ut]
 omega
theorem ZL(h: ∀d∈P,d<BS)(hs:s<4294967296): ∀d∈P++[s],d<BS:=by
 intro d hd
 rcases List.mem_append.1 hd with h1|h1
 ·exact h d h1
 ·simp at h1;subst h1;exact hs
theorem QbM(h: ∀d∈P,d<BS): ∀d∈P++Uc m 0,d<BS:=by
 intro d hd
 rcases List.mem_append.1 hd with h1|h1
 ·exact h d h1
 ·have :=Uu h1;subst this;decide
theorem QnO(h:val P+BS^n*c=val (a.take n)+val (b.take n))(hl:P.length=n)(ha:a.length≤n)(hb:b.length≤n):val (P++[c])=val a+val b:=by
 rw[Qav,hl,h,YS a ha,YS b hb]
theorem QmP(h:val P+val (b.take k)=val (a.take k)+BS^k*c)(hl:P.length=k)(hs:s+b.getD k 0+c=a.getD k 0+4294967296*c'):
  val (P++[s])+val (b.take (k+1))=val (a.take (k+1))+BS^ (k+1)*c':=by
 replace hs:s+b.getD k 0+c=a.getD k 0+BS*c':=hs
 rw[Qav,hl,Qau,Qau,WC,UB]
 have e:BS^k*(s+b.getD k 0+c)=BS^k*(a.getD k 0+BS*c'):=by rw[hs]
 rw[Ut,Ut,Ut] at e
 omega
theorem Qu2(h:val P+val (b.take n)=val (a.take n)+BS^n*c)(hl:P.length=n)(hlt: ∀d∈P,d<BS)(ha:a.length≤n)(hb:b.length≤n)(hle:val b≤val a):val P=val a -val b:=by
 rw[YS a ha,YS b hb] at h
 have h1:=QaU P hlt
 rw[hl] at h1
 rcases Uk c with h0|h0
 ·subst h0;simp at h;omega
 ·have :BS^n*1≤BS^n*c:=Uf _ h0
  omega
theorem ZE(hk:P.length=k)(hm:m=m'+1):(P++Uc m 0).set k s=(P++[s])++Uc m' 0:=by
 subst hk hm
 rw[Qq6 P (m'+1) s (by omega)]
 simp
theorem Qmm(hk:P.length=k)(hm:m=1):(P++Uc m 0).set k s=P++[s]:=by
 subst hm
 rw[ZE (m':=0) hk rfl];simp
theorem QcM(hx:x<4294967296)(hy:y<4294967296):x*y≤18446744065119617025:=by
 have :=QyN (Nat.le_sub_one_of_lt hx) (Nat.le_sub_one_of_lt hy)
 simpa using this
theorem Qms(h:x*y≤18446744065119617025):IntKind.u64.wrap ((x:Int)*(y:Int))=((x*y:Nat):Int):=by
 rw[←Wa]
 exact Qbm (by omega)
theorem Qww(e:d=Zw [x % 4294967296,x/4294967296 % 4294967296])(h:x<18446744073709551616):val d=x:=by
 rw[e,XX]
 simp only[val,BS]
 omega
theorem QnP(e:r=Zw D)(h:val D=val a'+val b')(ea:a'=Zw a)(eb:b'=Zw b)(hX:val a+val b=X):val r=X:=by
 rw[e,XX,h,ea,eb,XX,XX,hX]
def QhZ(a b:Nat):Int:=if a<b then -1 else if b<a then 1 else 0
theorem Qme(hl:a.length=b.length)(h: ∀j,a.getD j 0=b.getD j 0):a=b:=by
 apply Qyf hl
 intro i h1 h2
 have :=h i
 simpa [Uh,h1,h2] using this
theorem YZ(a:List Nat)(hk:k≤a.length):val a=val (a.take k)+BS^k*val (a.drop k):=by
 have :=val_append (a.take k) (a.drop k)
 rw[Ux,UP,UT hk] at this
 exact this
theorem Qif(hl:a.length=b.length)(ha: ∀d∈a,d<BS)(heq: ∀j,k≤j→a.getD j 0=b.getD j 0)(hk:0<k)(hkl:k≤a.length)(hlt:a.getD (k -1) 0<b.getD (k -1) 0):val a<val b:=by
 obtain⟨i,rfl⟩: ∃i,k=i+1:=⟨k -1,by omega⟩
 simp only[Wn] at hlt
 have hd:a.drop (i+1)=b.drop (i+1):=by
  apply Qme (by simp [hl])
  intro j
  have :=heq (i+1+j) (by omega)
  simpa [Uh,UU] using this
 rw[YZ a hkl,YZ b (k:=i+1) (by omega),hd,Qau,Qau]
 have h1:val (a.take i)<BS^ (a.take i).length:=QaU _ fun d hd=>ha d (UJ hd)
 rw[UP,UT (by omega)] at h1
 have h2:BS^i*(a.getD i 0+1)≤BS^i*b.getD i 0:=Uf _ hlt
 rw[Ut,Wt] at h2
 omega
theorem Qde(ha: ∀d∈a,d<BS)(hb:Canon isZ b)(h:a.length<b.length):val a<val b:=by
 rcases Yx b with h0| ⟨k,x,rfl⟩
 ·subst h0;simp at h
 ·have hx:isZ x=false:=Zs.1 hb
  have h1:=QaU a ha
  rw[Qav]
  simp at h
  have h2:BS^a.length≤BS^k.length:=UN (by decide) (by omega)
  have h3:x≠0:=by intro e;subst e;simp [isZ] at hx
  have h4:BS^k.length*1≤BS^k.length*x:=Uf _ (by omega)
  omega
theorem Qsr(ea:a'=Zw a)(eb:b'=Zw b)(h:val a'<val b'):(-1:Int)=QhZ (val a) (val b):=by
 rw[ea,eb,XX,XX] at h
 simp [QhZ,h]
theorem Qsq(ea:a'=Zw a)(eb:b'=Zw b)(h:val b'<val a'):(1:Int)=QhZ (val a) (val b):=by
 rw[ea,eb,XX,XX] at h
 simp [QhZ,h,Nat.lt_asymm h]
theorem cmp_eq(ea:a'=Zw a)(eb:b'=Zw b)(h:a'=b'):(0:Int)=QhZ (val a) (val b):=by
 have :val a=val b:=by rw[←XX a,←XX b,←ea,←eb,h]
 simp [QhZ,this]
theorem Qug(h: ∀j,k≤j→a.getD j 0=b.getD j 0)(h1:a.getD (k -1) 0=b.getD (k -1) 0): ∀j,k -1≤j→a.getD j 0=b.getD j 0:=by
 intro j hj
 rcases Up j k with hl|hl
 ·have :j=k -1:=by omega
  subst this;exact h1
 ·exact h j hl
theorem Qv0(ha:a.length≤n)(hb:b.length≤n): ∀j,n≤j→a.getD j 0=b.getD j 0:=by
 intro j hj
 rw[Qbk ha j hj,Qbk hb j hj]
theorem Ql1{x:Int}{a b:Nat}(e:x=QhZ a b)(h:x<0):a<b:=by
 unfold QhZ at e
 split at e
 ·assumption
 ·split at e<;>omega
theorem QoE{x:Int}{a b:Nat}(e:x=QhZ a b)(h: ¬x<0):b≤a:=by
 unfold QhZ at e
 split at e
 ·omega
 ·omega
theorem QfM(ha: ∀d∈a,d<BS)(hb:Canon isZ b)(h:val b≤val a):b.length≤a.length:=by
 rcases Up a.length b.length with h1|h1
 ·have :=Qde ha hb h1;omega
 ·exact h1
theorem QdK(P:List Nat)(m:Nat):val (P++Uc m 0)=val P:=by
 induction m with
 |zero=>simp
 |succ m ih=>
  rw[List.replicate_succ',←WI,QcT,ih]
theorem Qu3(e:r=Zw (P++Uc m 0))(h:val P+val (b'.take n)=val (a'.take n)+BS^n*c)(hl:P.length=n)(hlt: ∀d∈P,d<BS)(ha:a'.length≤n)(hb:b'.length≤n)(hle:val b'≤val a')(ea:a'=Zw a)(eb:b'=Zw b):val r=val a -val b:=by
 rw[e,XX,QdK,Qu2 h hl hlt ha hb hle,ea,eb,XX,XX]
theorem Qrk(ea:a'=Zw a)(eb:b'=Zw b)(h:val b'≤val a'):val b≤val a:=by
 rw[ea,eb,XX,XX] at h;exact h
theorem Qrl(ea:a'=Zw a)(eb:b'=Zw b)(h:val a'<val b'):val a<val b:=by
 rw[ea,eb,XX,XX] at h;exact h
theorem QuB(hR:R.length=k)(hk:k<Q.length):(R++Q.drop k++Z).getD k 0=Q.getD k 0:=by
 subst hR
 simp only[Uh,WI]
 rw[UD (Ug _),WD,UR (by simp;omega),UU]
 simp
theorem QuC(hR:R.length=k)(hk:k<Q.length):(R++Q.drop k++Z).set k s=(R++[s])++Q.drop (k+1)++Z:=by
 subst hR
 rw[WI,US _ _ (Ug _),WD,Ws hk,Qye,WY]
 simp
theorem Qrs(h:val R+BS^ (i+j)*c=val (Q.take (i+j))+BS^i*(x*val (b.take j)))(hR:R.length=i+j)(hs:s+4294967296*c'=Q.getD (i+j) 0+x*b.getD j 0+c):
  val (R++[s])+BS^ (i+j+1)*c'=val (Q.take (i+j+1))+BS^i*(x*val (b.take (j+1))):=by
 have e:=QiD (x:=Q.getD (i+j) 0+x*b.getD j 0) h hR (by rw[show BS*c'=4294967296*c' from rfl];omega)
 rw[e,Qau,Qau,Ut,Ut x,Ut (BS^i)]
 have e2:BS^ (i+j)*(x*b.getD j 0)=BS^i*(x*(BS^j*b.getD j 0)):=by
  rw[Wv]
  rw[UB,Wz (BS^j) x]
 omega
theorem Qkl(hq:q<4294967296)(hx:x<4294967296)(hy:y<4294967296)(hc:c<4294967296)(h:s+4294967296*c'=q+x*y+c):c'<4294967296:=by
 have :=QcM hx hy
 omega
theorem QuE(h:val R+BS^ (i+nb)*c=val (Q.take (i+nb))+BS^i*(a.getD i 0*val (b.take nb)))(hR:R.length=i+nb)(hQ:Q.length≤i+nb)(hb:b.length≤nb)(hv:val Q=val (a.take i)*val b):
  val (R++[c])=val (a.take (i+1))*val b:=by
 rw[Qav,hR,h,YS Q hQ,YS b hb,hv,Qau,UZ,UB]
theorem Qrr(hx:a.getD i 0=0)(hv:val Q=val (a.take i)*val b):val (Q++[0])=val (a.take (i+1))*val b:=by
 rw[QcT,hv,Qau,hx];simp
theorem Qwm(hR: ∀d∈R,d<BS)(hQ: ∀d∈Q,d<BS): ∀d∈R++Q.drop k++Uc m 0,d<BS:=by
 intro d hd
 rcases List.mem_append.1 hd with h1|h1
 ·rcases List.mem_append.1 h1 with h2|h2
  ·exact hR d h2
  ·exact hQ d (Wl h2)
 ·have :=Uu h1;subst this;decide
theorem QrM(h:m=m'+1):([0]:List Nat)++Uc m' 0=Uc m 0:=by subst h;rfl
theorem QcA(m:Nat):val (Uc m 0)=0:=by
 have :=QdK [] m
 simpa [val] using this
theorem QuU(hR:R.length=k)(hj:k=Q.length)(ht:t=k)(hm:m=m'+1):(R++Q.drop k++Uc m 0).set t s=(R++[s])++Uc m' 0:=by
 subst ht
 rw[Us (by omega),Wg]
 exact ZE hR hm
end Go.Gx

namespace Go.Gx
open Go.RowKit
variable{dfs:List Deferred}
theorem Qhz(c:List Value): ∀(off k:Nat)(arr:Array Value),k+c.length≤arr.size -off→off≤arr.size→
  ((c.zipIdx k).foldl (fun cs (p:Value×Nat)=>cs.setIfInBounds (off+p.2) p.1) arr)=(arr.toList.take (off+k)++c++arr.toList.drop (off+k+c.length)).toArray:=by
 induction c with
 |nil=>intro off k arr _ _;simp
 |cons v c ih=>
  intro off k arr h1 h2
  simp only[List.zipIdx_cons,List.foldl_cons]
  simp only[Um] at h1
  rw[ih off (k+1) _ (by simp;omega) (by simp;omega)]
  congr 1
  apply List.ext_getElem?
  intro i
  simp only[Array.toList_setIfInBounds,List.getElem?_append,UP,UO,UF,Array.length_toList,WA,List.getElem?_set,UU,Um]
  by_cases hi:i<off+k
  ·have c1:i<min (off+(k+1)) arr.size:=by omega
   have c2:i<min (off+k) arr.size:=by omega
   have c3:i<min (off+(k+1)) arr.size+c.length:=by omega
   have c4:i<min (off+k) arr.size+(c.length+1):=by omega
   simp [c1,c2,c3,c4,show ¬off+k=i by omega,show i<off+(k+1) by omega,hi]
  ·by_cases hi2:i=off+k
   ·subst hi2
    have c1:off+k<min (off+(k+1)) arr.size:=by omega
    have c2: ¬off+k<min (off+k) arr.size:=by omega
    have c3:off+k<min (off+(k+1)) arr.size+c.length:=by omega
    have c4:off+k<min (off+k) arr.size+(c.length+1):=by omega
    simp [c1,c2,c3,c4,show off+k<off+(k+1) by omega,show off+k<arr.size by omega,show off+k -min (off+k) arr.size=0 by omega]
   ·have m1:min (off+(k+1)) arr.size=off+(k+1):=by omega
    have m2:min (off+k) arr.size=off+k:=by omega
    rw[m1,m2]
    have c1: ¬i<off+(k+1):=by omega
    by_cases hi3:i<off+k+(c.length+1)
    ·simp [c1,hi,hi3,show i<off+(k+1)+c.length by omega,show i -(off+k)=(i -(off+(k+1)))+1 by omega]
    ·simp [c1,hi,hi3,show ¬i<off+(k+1)+c.length by omega]
     rw[if_neg (by omega)]
     congr 1
     omega
theorem Qka(size:Nat): ∀(vs:List Value)(css:List (List Value))(k:Nat)(arr:Array Value),vs.map Value.cells=css.map List.toArray→css.all (fun c=>c.length==size)=true→arr.size=(k+vs.length)*size→
  Instr.fill (fun i=>some (i*size,size)) arr ((vs.zipIdx k).map fun(v,i)=>(i,v))=some (arr.toList.take (k*size)++css.flatten).toArray
 | [],css,k,arr,h,_,ha=>by
  have :css=[]:=by cases css with |nil=>rfl|cons a b=>simp at h
  subst this
  simp [Instr.fill]
  rw[Ui (by simp [ha])]
 |v::vs,[],k,arr,h,_,_=>by simp at h
 |v::vs,c::css,k,arr,h,h2,ha=>by
  simp only[Wk,List.cons.injEq] at h
  simp only[List.all_cons,UH,beq_iff_eq] at h2
  simp only[Um] at ha
  have hk:(k+1)*size≤arr.size:=by rw[ha];exact Uy _ (by omega)
  have hks:k*size+size=(k+1)*size:=by rw[UZ,Qyy]
  have hcs:v.cells.size=size:=by rw[h.1];simp [h2.1]
  simp only[List.zipIdx_cons,Wk,Instr.fill]
  rw[if_neg (by simp [hcs];omega)]
  have hf:(v.cells.zipIdx.foldl (fun cs x=>cs.setIfInBounds (k*size+x.2) x.1) arr)=(arr.toList.take (k*size)++c++arr.toList.drop (k*size+size)).toArray:=by
   rw[h.1]
   have :=Qhz c (k*size) 0 arr (by omega) (by omega)
   simpa [h2.1] using this
  have hf':(v.cells.zipIdx.foldl (fun cs (x:Value×Nat)=>match x with | (c,j)=>cs.setIfInBounds (k*size+j) c) arr)=(arr.toList.take (k*size)++c++arr.toList.drop (k*size+size)).toArray:=hf
  rw[hf']
  rw[Qka size vs css (k+1) _ h.2 h2.2 (by
   simp [h2.1]
   rw[ha] at hk⊢
   have :(k+(vs.length+1))*size=(k+1+vs.length)*size:=by congr 1;omega
   omega)]
  congr 2
  rw[←hks]
  simp only[List.flatten_cons]
  rw[←WI]
  congr 1
  rw[UI (by simp [h2.1];omega)]
  rw[Ui (by simp [h2.1];omega)]
section
variable{P:Program}{n:Nat}{e:Nat→Value}{w:World}{K:Act→World→Prop}{Q:Exit→Act→World→Prop}{ty:TypeId}{pos:String}{af:Array Edge}{gd:Option (Nat×Bool)}
theorem XT{d:Nat}{t el:TypeId}{size bytes:Nat}{z:Value}{len:Nat}{ps:List (Nat×Operand)}(vs:List Value)(css:List (List Value))(ht:P.underlying t=some (.slice el))
  (hi:(P.info? el).map (fun i=>(i.zero,i.size,i.bytes))=some (some z,size,bytes))(hp:ps.map (fun p=>(p.1,ev n e p.2))=vs.zipIdx.map fun p=>(p.2,p.1))(hc:vs.map Value.cells=css.map List.toArray)
  (hs:css.all (fun c=>c.length==size)=true)(hl:vs.length=len)(hm:Nat.ble (len*size) 16777216=true)
  (k: ∀g w',g=w.heap.size→Ext w w'→w'.heap.size=g+1→Blk w' g el css.flatten→K (mkA dfs n (upd e d (.slice (some ⟨g,0,none⟩) len len))) w'):
  OpW P ⟨some d,.buildSlice t len ps.toArray,ty,pos,af,gd⟩ (mkA dfs n e) w K Q:=by
 obtain⟨i,hi',hz,hsz,hby⟩:=info_parts hi
 have hle: ¬len*size>2^24:=by have :=Uj hm;omega
 have hsize:(sizeOf el).run P w= .ok size w:=by simp [sizeOf,typeInfo,program,Sem.run,hi',hsz]
 have hzero:(zeroValue el).run P w= .ok z w:=by simp [zeroValue,typeInfo,program,Sem.run,hi',hz]
 have hfill: ∀arr:Array Value,arr.size=len*size→Instr.fill (fun i=>some (i*size,size)) arr (ps.map fun p=>(p.1,ev n e p.2))=some css.flatten.toArray:=by
  intro arr ha
  rw[hp]
  have :=Qka size vs css 0 arr hc hs (by rw[ha,←hl];simp)
  simpa using this
 have hmap:(ps.toArray.map fun(x:Nat×Operand)=>match x with | (i,x)=>(i,ev n e x)).toList=ps.map fun p=>(p.1,ev n e p.2):=by simp
 unfold OpW Oper.wp
 rw[Yk]
 have hk:=k w.heap.size (w.alloc (.cells css.flatten.toArray el)) rfl (QbE _ _) (by simp) (Blk.new _ _ _)
 simp only[execOp,Instr.buildSlice,Sem.run_bind,run_underlying ht,Result.andThen_ok,hsize,hle,if_false,Sem.run_pure]
 by_cases h0:len*size=0
 ·rw[if_pos h0]
  simp only[Sem.run_bind,Sem.run_pure,Result.andThen_ok]
  rw[hmap,hfill _ (by simp)]
  simp only[newRow,newObj,Sem.run_bind,Sem.run,Result.andThen_ok,Sem.run_pure,Oper.upon,YM]
  exact hk
 ·rw[if_neg h0]
  simp only[Sem.run_bind,hzero,Sem.run_pure,Result.andThen_ok]
  rw[hmap,hfill _ (by simp)]
  simp only[newRow,newObj,Sem.run_bind,Sem.run,Result.andThen_ok,Sem.run_pure,Oper.upon,YM]
  exact hk
end
end Go.Gx
namespace Go.Gx
variable{dfs:List Deferred}
section bits
variable{P:Program}{n:Nat}{e:Nat→Value}{w:World}{ty:TypeId}{pos:String}{af:Array Edge}{gd:Option (Nat×Bool)}
theorem Qjv(r:BitVec 32):IntKind.u32.wrap (r.toNat:Int)=(r.toNat:Int):=Qju ⟨rfl,by omega,by have :=r.isLt;omega⟩
theorem Qbd(a:Nat):UL 32 (a:Int)=Ue 32 a:=by simp
theorem QoZ{d:Option Nat}{t t':TypeId}{x y:Operand}{a b:Nat}(hx:ev n e x= .int .u32 (a:Int))(hy:ev n e y= .int .u32 (b:Int)):
  Ev P n e ⟨d,.binOp .and t x y t',ty,pos,af,gd⟩ w (.int .u32 (((Ue 32 a&&&Ue 32 b).toNat:Nat):Int)):=by
 have h:=Qjv (Ue 32 a&&&Ue 32 b)
 have e1:(Op.intBits .and .u32 (a:Int) (b:Int))=pure (.int .u32 (IntKind.u32.wrap ((UL 32 (a:Int)&&&UL 32 (b:Int)).toNat:Int))):=rfl
 rw[Qbd,Qbd,h] at e1
 simp only[Ev,execOp,hx,hy,eqGuard,binOp,e1]
 simp
theorem QsA{d:Option Nat}{t t':TypeId}{x y:Operand}{a b:Nat}(hx:ev n e x= .int .u32 (a:Int))(hy:ev n e y= .int .u32 (b:Int)):
  Ev P n e ⟨d,.binOp .or t x y t',ty,pos,af,gd⟩ w (.int .u32 (((Ue 32 a|||Ue 32 b).toNat:Nat):Int)):=by
 have h:=Qjv (Ue 32 a|||Ue 32 b)
 have e1:(Op.intBits .or .u32 (a:Int) (b:Int))=pure (.int .u32 (IntKind.u32.wrap ((UL 32 (a:Int)|||UL 32 (b:Int)).toNat:Int))):=rfl
 rw[Qbd,Qbd,h] at e1
 simp only[Ev,execOp,hx,hy,eqGuard,binOp,e1]
 simp
theorem Qum{d:Option Nat}{t t':TypeId}{x y:Operand}{a b:Nat}(hx:ev n e x= .int .u32 (a:Int))(hy:ev n e y= .int .u32 (b:Int)):
  Ev P n e ⟨d,.binOp .xor t x y t',ty,pos,af,gd⟩ w (.int .u32 (((Ue 32 a^^^Ue 32 b).toNat:Nat):Int)):=by
 have h:=Qjv (Ue 32 a^^^Ue 32 b)
 have e1:(Op.intBits .xor .u32 (a:Int) (b:Int))=pure (.int .u32 (IntKind.u32.wrap ((UL 32 (a:Int)^^^UL 32 (b:Int)).toNat:Int))):=rfl
 rw[Qbd,Qbd,h] at e1
 simp only[Ev,execOp,hx,hy,eqGuard,binOp,e1]
 simp
theorem Qo0{d:Option Nat}{t:TypeId}{x:Operand}{a:Nat}(hx:ev n e x= .int .u32 (a:Int)):
  Ev P n e ⟨d,.unOp .xor t x,ty,pos,af,gd⟩ w (.int .u32 (((~~~Ue 32 a).toNat:Nat):Int)):=by
 have h:=Qjv (~~~Ue 32 a)
 have e0:IntKind.u32.max=((4294967295:Nat):Int):=by decide
 have e1:(Op.unary .xor (.int .u32 (a:Int)))=pure (.int .u32 (IntKind.u32.wrap ((UL 32 IntKind.u32.max^^^UL 32 (a:Int)).toNat:Int))):=rfl
 have e2:(Ue 32 4294967295^^^Ue 32 a)= ~~~Ue 32 a:=by
  rw[show Ue 32 4294967295=BitVec.allOnes 32 by decide]
  rw[BitVec.xor_comm,BitVec.xor_allOnes]
 rw[e0,Qbd,Qbd,e2,h] at e1
 simp only[Ev,execOp,hx,e1]
 simp
end bits
theorem QqE{x y b d:Nat}(hx:x<4294967296)(hy:y<4294967296)(hb:b≤1)(hd:d=(x+8589934592 -y -b) % 4294967296)(t:Nat)
  (ht:t=((Ue 32 (Ue 32 ((~~~Ue 32 x).toNat)&&&Ue 32 y).toNat|||Ue 32 (Ue 32 (~~~Ue 32 (Ue 32 x^^^Ue 32 y).toNat).toNat&&&Ue 32 d).toNat)).toNat):
  d+y+b=x+4294967296*(t/2147483648)∧t/2147483648≤1:=by
 simp only[BitVec.ofNat_toNat,BitVec.setWidth_eq] at ht
 have hdl:d<4294967296:=by omega
 have hm:t/2147483648=if((~~~Ue 32 x&&&Ue 32 y)||| (~~~ (Ue 32 x^^^Ue 32 y)&&&Ue 32 d)).msb then 1 else 0:=by
  rw[BitVec.msb_eq_decide,←ht]
  have :t<4294967296:=by rw[ht];exact BitVec.isLt _
  split<;>rename_i h<;>simp at h<;>omega
 rw[hm]
 have mx: ∀z,z<4294967296→(Ue 32 z).msb=decide (2147483648≤z):=by
  intro z hz
  rw[BitVec.msb_eq_decide]
  simp [UQ hz]
 simp only[BitVec.msb_or,BitVec.msb_and,BitVec.msb_not,BitVec.msb_xor,mx x hx,mx y hy,mx d hdl]
 by_cases c1:2147483648≤x<;>by_cases c2:2147483648≤y<;>by_cases c3:2147483648≤d<;>simp [c1,c2,c3]<;>omega
end Go.Gx
namespace Go.Gx
variable{dfs:List Deferred}
section
variable{P:Program}{n:Nat}{e:Nat→Value}{w:World}{ty:TypeId}{pos:String}{af:Array Edge}{gd:Option (Nat×Bool)}
theorem Qah{d:Option Nat}{t el:TypeId}{x y:Operand}{g off len cap size:Nat}{k:IntKind}{z:Int}(l:Nat)(ht:P.underlying t=some (.slice el))(hs: ∀w,(sizeOf el).run P w= .ok size w)
  (hx:ev n e x= .slice (some ⟨g,off,none⟩) len cap)(hy:ev n e y= .int k z)(hz:z=(l:Int))(h1:l≤len)(h2:len≤cap)(h3:l<cap)(p:Nat)(hp:off+l*size=p):
  Ev P n e ⟨d,.slice t x (some y) none none,ty,pos,af,gd⟩ w (.slice (some ⟨g,p,none⟩) (len -l) (cap -l)):=by
 have :=ZP (P:=P) (w:=w) (d:=d) (ty:=ty) (pos:=pos) (af:=af) (gd:=gd) l ht hs hx hy hz h1 h2
 rw[if_neg (by omega)] at this
 simp only[QyY,addr_add,hp] at this
 exact this
end
end Go.Gx

namespace Go.Gx
variable{P U Z a b hi lo r x:List Nat}{X a0 a1 b0 b1 c h k m n o s t:Nat}{z:Int}
theorem QfC(hU:U.length=o)(hP:P.length=k)(hk:k<Z.length)(ht:t=o+k):(U++(P++Z.drop k)).getD t 0=Z.getD k 0:=by
 subst hU hP ht
 simp only[Uh]
 rw[UD (by omega),Qyh,UD (Ug _),WD,UU,WB]
theorem QfD(hU:U.length=o)(hP:P.length=k)(hk:k<Z.length)(ht:t=o+k):(U++(P++Z.drop k)).set t s=U++((P++[s])++Z.drop (k+1)):=by
 subst hU hP ht
 rw[US _ _ (by omega),Qyh,US _ _ (Ug _),WD,Ws hk,WY]
 simp
theorem QeQ(h: ∀d∈U++Z,d<BS)(hP: ∀d∈P,d<BS): ∀d∈U++(P++Z.drop k),d<BS:=by
 intro d hd
 rcases List.mem_append.1 hd with h1|h1
 ·exact h d (by simp [h1])
 ·rcases List.mem_append.1 h1 with h2|h2
  ·exact hP d h2
  ·exact h d (by simp [Wl h2])
theorem Qm0(h:val P+BS^k*0=val (Z.take k)+val (x.take k))(hP:P.length=k)(hZ:Z.length=n)(hk:k≤n)(hx:x.length≤k):val (P++Z.drop k)+BS^n*0=val Z+val x:=by
 rw[val_append,hP,YZ Z (k:=k) (by omega)]
 rw[YS x hx] at h
 omega
theorem QmZ(h:val P+BS^k*c=val (Z.take k)+val (x.take k))(hP:P.length=k)(hZ:Z.length=n)(hk:k=n)(hx:x.length≤k):val (P++Z.drop k)+BS^n*c=val Z+val x:=by
 subst hk
 rw[Us (by omega),Wg,h,YS x hx,YS Z (by omega)]
theorem QxO{a b:Int}(ha:0≤a)(h:z=a/b∧ -9223372036854775808≤z∧z≤9223372036854775807):IntKind.i64.wrap (a.tdiv b)=z:=by
 rw[Int.tdiv_eq_ediv_of_nonneg ha]
 exact QaZ ⟨h.1.symm,h.2.1,h.2.2⟩
theorem YA(ca:Canon isZ a)(h:val a<BS^k):a.length≤k:=by
 rcases Up k a.length with h1|h1
 ·rcases Yx a with h0| ⟨l,x,rfl⟩
  ·subst h0;simp at h1
  ·have hx:isZ x=false:=Zs.1 ca
   have h3:x≠0:=by intro e;subst e;simp [isZ] at hx
   rw[Qav] at h
   simp at h1
   have h2:BS^k≤BS^l.length:=UN (by decide) (by omega)
   have h4:BS^l.length*1≤BS^l.length*x:=Uf _ (by omega)
   omega
 ·exact h1
theorem Qfu(ha: ∀d∈a,d<BS)(hb: ∀d∈b,d<BS):val a*val b<BS^ (a.length+b.length):=by
 rw[Wv]
 exact Nat.mul_lt_mul'' (QaU a ha) (QaU b hb)
theorem Qh6{z:Nat}(ha:h≤a.length)(hlt: ∀d∈a,d<BS)(hbt: ∀d∈b,d<BS)(hn:n=a.length+b.length)(hlo:val lo=val (a.take h)*val b)(hhi:val hi=val (a.drop h)*val b)(hll:h≤lo.length)(hz:lo.length+z=n)(hr:r.length=n -h)(he:val r+BS^ (n -h)*c=val ((lo++Uc z 0).drop h)+val hi):val ((lo++Uc z 0).take h++r)=val a*val b:=by
 have hlen:(lo++Uc z 0).length=n:=by simp;omega
 have hs:=YZ (lo++Uc z 0) (k:=h) (by omega)
 rw[QdK] at hs
 have hab:val a*val b=val lo+BS^h*val hi:=by
  rw[YZ a ha,UZ,hlo,hhi,UB]
 have hlt2:=Qfu hlt hbt
 rw[←hn] at hlt2
 rw[val_append,UP,UT (by omega)]
 generalize val ((lo++Uc z 0).take h)=L at *
 generalize val ((lo++Uc z 0).drop h)=H at *
 have hp:BS^n=BS^h*BS^ (n -h):=by rw[←Wv];congr 1;omega
 rcases Uk c with h0|h0
 ·subst h0
  have :val r=H+val hi:=by simpa using he
  rw[this,Ut,hab]
  omega
 ·exfalso
  have h1:BS^ (n -h)*1≤BS^ (n -h)*c:=Uf _ h0
  have h2:BS^h*BS^ (n -h)≤BS^h*(H+val hi):=Uf _ (by omega)
  rw[Ut] at h2
  omega
theorem Qmj{lo hi:Nat}(hm:m=(a0+a1)*(b0+b1))(hlo:lo=a0*b0)(hhi:hi=a1*b1)(hs:s=m -(lo+hi)):s=a0*b1+a1*b0:=by
 subst hm hlo hhi
 rw[hs,UZ,Ut,Ut]
 omega
theorem Qmk{a b:Nat}(ha:a=a0+X*a1)(hb:b=b0+X*b1):a*b=a0*b0+X*(a0*b1+a1*b0)+X*X*(a1*b1):=by
 subst ha hb
 simp only[UZ,Ut,UB,Wz,UC]
 omega
theorem QgW(ha:h≤a.length)(hb:h≤b.length)(hlt: ∀d∈a,d<BS)(hbt: ∀d∈b,d<BS)(hn:n=a.length+b.length)(hm:m=val (a.take h)*val (b.drop h)+val (a.drop h)*val (b.take h)):m<BS^ (n -h):=by
 have h1:=Qmk (YZ a ha) (YZ b hb)
 have h2:=Qfu hlt hbt
 rw[←hn,h1,←hm] at h2
 have hp:BS^n=BS^h*BS^ (n -h):=by rw[←Wv];congr 1;omega
 rw[hp] at h2
 rcases Up m (BS^ (n -h)) with h3|h3
 ·exact h3
 ·exfalso
  have h4:BS^h*BS^ (n -h)≤BS^h*m:=Uf _ h3
  omega
theorem Qkg(ha:h≤a.length)(hb:h≤b.length)(hlt: ∀d∈a,d<BS)(hbt: ∀d∈b,d<BS)(hn:n=a.length+b.length)(hlo:val lo=val (a.take h)*val (b.take h))(hhi:val hi=val (a.drop h)*val (b.drop h))(hm:m=val (a.take h)*val (b.drop h)+val (a.drop h)*val (b.take h))(hll:lo.length=h+h)(hhl:hi.length=n -(h+h))(hr:r.length=n -h)(he:val r+BS^ (n -h)*c=val ((lo++hi).drop h)+m):val ((lo++hi).take h++r)=val a*val b:=by
 have h2n:h+h≤n:=by omega
 have hs:=YZ (lo++hi) (k:=h) (by simp;omega)
 rw[val_append,hll,Wv] at hs
 have hab:=Qmk (YZ a ha) (YZ b hb)
 rw[←hm,←hlo,←hhi] at hab
 have hlt2:=Qfu hlt hbt
 rw[←hn] at hlt2
 rw[val_append,UP,UT (by simp;omega)]
 generalize val ((lo++hi).take h)=L at *
 generalize val ((lo++hi).drop h)=H at *
 have hp:BS^n=BS^h*BS^ (n -h):=by rw[←Wv];congr 1;omega
 rcases Uk c with h0|h0
 ·subst h0
  have :val r=H+m:=by simpa using he
  rw[this,Ut,hab]
  omega
 ·exfalso
  have h1:BS^ (n -h)*1≤BS^ (n -h)*c:=Uf _ h0
  have h2:BS^h*BS^ (n -h)≤BS^h*(H+m):=Uf _ (by omega)
  rw[Ut] at h2
  omega
theorem Qcl(h:lo.length=m)(hm:m≤n):(Uc n 0).take 0++lo++(Uc n 0).drop (0+m)=lo++Uc (n -m) 0:=by
 simp
theorem QgK(hk:lo.length=k)(hh:hi.length=m)(ht:t=k):(lo++Uc m 0).take t++hi++(lo++Uc m 0).drop (t+m)=lo++hi:=by
 subst ht hk hh
 simp
theorem QsI(ha: ∀d∈a,d<BS)(hb: ∀d∈b,d<BS): ∀d∈a++b,d<BS:=by
 intro d hd
 rcases List.mem_append.1 hd with h|h
 ·exact ha d h
 ·exact hb d h
theorem QwW{a b:Nat}(h:a=0):a*b=0:=by rw[h,Nat.zero_mul]
theorem QwX{a b:Nat}(h:b=0):a*b=0:=by rw[h,QyV]
end Go.Gx

namespace Go.Gx
def Qay(g:Bool)(d:List Nat):Prop:=Canon isZ d∧(g=true→d≠ [])
def Qb8(x y:Int):Int:=if x<y then -1 else if y<x then 1 else 0
variable{a b d d':List Nat}{c s t x y z:Int}{g g':Bool}{n:Nat}
theorem ZD(d:List Nat):Xx false d=val d:=by simp [Xx]
theorem QdD(d:List Nat):Xx true d= -(val d:Int):=by simp [Xx]
theorem Qb4(g:Bool):Xx g []=0:=by cases g<;>simp [Xx,val]
theorem Qqx(g:Bool)(d:List Nat):Xx g (Zw d)=Xx g d:=by unfold Xx;rw[XX]
theorem Qqm(cn:Canon isZ d)(h:d≠ []):0<val d:=by
 rcases Yx d with h0| ⟨k,x,rfl⟩
 ·exact absurd h0 h
 ·have hx:isZ x=false:=Zs.1 cn
  have h3:x≠0:=by intro e;subst e;simp [isZ] at hx
  rw[Qav]
  have h4:0<BS^k.length*x:=Nat.mul_pos (WQ (by decide)) (by omega)
  omega
theorem Qcu(e:g'=(g&&decide (0<n)))(ed:d'=d)(ln:d.length=n):Xx g' d'=Xx g d:=by
 subst e ed
 rcases Uk n with h|h
 ·subst h;have :d'=[]:=Ua ln
  subst this;rw[Qb4,Qb4]
 ·simp [h]
theorem QbC(e:g'=(g&&decide (0<n)))(ed:d'=d)(ln:d.length=n)(cn:Canon isZ d):Qay g' d':=by
 subst e ed
 refine⟨cn,fun h=> ?_⟩
 simp at h
 intro h0;subst h0;simp at ln;omega
theorem Qwu(h:val d=(-x).toNat)(hx:x<0):Xx true d=x:=by rw[QdD,h];omega
theorem Qwv(h:val d=x.toNat)(hx: ¬x<0):Xx false d=x:=by rw[ZD,h];omega
theorem QtX(h:val d=(-x).toNat)(hx:x<0)(cn:Canon isZ d):Qay true d:=⟨cn,fun _ h0=>by subst h0;simp [val] at h;omega⟩
theorem QtY(cn:Canon isZ d):Qay false d:=⟨cn,fun h=>by cases h⟩
theorem Qp9(h:true=decide (val d=0)):(0:Int)=(Xx g d).sign:=by
 have :val d=0:=by simpa using h
 cases g<;>simp [Xx,this]
theorem QrT(h:false=decide (val d=0)):(-1:Int)=(Xx true d).sign:=by
 have :val d≠0:=by simpa using h
 rw[QdD,UX (by omega)]
theorem QrU(h:false=decide (val d=0)):(1:Int)=(Xx false d).sign:=by
 have :val d≠0:=by simpa using h
 rw[ZD,Uq (by omega)]
theorem Yr(x:Int):(x.sign= -1∧x<0)∨(x.sign=0∧x=0)∨(x.sign=1∧0<x):=by
 rcases Qy0 x 0 with h|h|h
 ·exact .inl ⟨UX h,h⟩
 ·exact .inr (.inl ⟨by subst h;rfl,h⟩)
 ·exact .inr (.inr ⟨Uq h,h⟩)
theorem QcC(g:Bool)(d:List Nat):(Xx g d=val d)∨(Xx g d= -(val d:Int)):=by cases g<;>simp [Xx]
theorem Qut(hs:s=x.sign)(ht:t=y.sign)(h:s<t):(-1:Int)=Qb8 x y:=by
 have :x<y:=by rcases Yr x with h1|h1|h1<;>rcases Yr y with h2|h2|h2<;>omega
 simp [Qb8,this]
theorem Qus(hs:s=x.sign)(ht:t=y.sign)(h:s>t):(1:Int)=Qb8 x y:=by
 have :y<x:=by rcases Yr x with h1|h1|h1<;>rcases Yr y with h2|h2|h2<;>omega
 simp [Qb8,this,Int.not_lt.2 (Int.le_of_lt this)]
theorem Qck(a b:Nat):(QhZ a b= -1∧a<b)∨(QhZ a b=0∧a=b)∨(QhZ a b=1∧b<a):=by
 unfold QhZ
 rcases Qy1 a b with h|h|h
 ·simp [h]
 ·simp [h]
 ·simp [h,Nat.lt_asymm h]
theorem Qfn(x y:Int):(Qb8 x y= -1∧x<y)∨(Qb8 x y=0∧x=y)∨(Qb8 x y=1∧y<x):=by
 unfold Qb8
 rcases Qy0 x y with h|h|h
 ·simp [h]
 ·simp [h]
 ·simp [h,Int.not_lt.2 (Int.le_of_lt h)]
theorem Qrc(hs:s=(Xx g d).sign)(ht:t=(Xx g' d').sign)(h1: ¬s<t)(h2: ¬s>t)(h:s<0)(hc:c=QhZ (val d') (val d)):c=Qb8 (Xx g d) (Xx g' d'):=by
 have e1:=QcC g d
 have e2:=QcC g' d'
 have s1:=Yr (Xx g d)
 have s2:=Yr (Xx g' d')
 have c1:=Qck (val d') (val d)
 have c2:=Qfn (Xx g d) (Xx g' d')
 omega
theorem Qrd(hs:s=(Xx g d).sign)(ht:t=(Xx g' d').sign)(h1: ¬s<t)(h2: ¬s>t)(h: ¬s<0)(hc:c=QhZ (val d) (val d')):c=Qb8 (Xx g d) (Xx g' d'):=by
 have e1:=QcC g d
 have e2:=QcC g' d'
 have s1:=Yr (Xx g d)
 have s2:=Yr (Xx g' d')
 have c1:=Qck (val d) (val d')
 have c2:=Qfn (Xx g d) (Xx g' d')
 omega
theorem Qpf(h:(g==g')=true)(hv:val d=val a+val b):Xx g d=Xx g a+Xx g' b:=by
 have :g=g':=by simpa using h
 subst this
 cases g<;>simp [Xx,hv]<;>omega
theorem Quq(h:(g==g')=false)(hc:c=QhZ (val a) (val b))(h0:c≥0)(hv:val d=val a -val b):Xx g d=Xx g a+Xx g' b:=by
 have c1:=Qck (val a) (val b)
 cases g<;>cases g'<;>simp at h<;>simp [Xx,hv]<;>omega
theorem Qur(h:(g==g')=false)(hc:c=QhZ (val a) (val b))(h0: ¬c≥0)(hv:val d=val b -val a):Xx g' d=Xx g a+Xx g' b:=by
 have c1:=Qck (val a) (val b)
 cases g<;>cases g'<;>simp at h<;>simp [Xx,hv]<;>omega
theorem Qre(hv:val d=val a*val b):Xx (g !=g') d=Xx g a*Xx g' b:=by
 cases g<;>cases g'<;>simp [Xx,hv,Wa,Int.neg_mul,Int.mul_neg]
theorem QmU(g:Bool)(d:List Nat):Xx (!g) d= -Xx g d:=by cases g<;>simp [Xx]
theorem QoF(h:c=Qb8 x y):decide (c=0)=decide (x=y):=by
 have :=Qfn x y
 by_cases hx:x=y<;>simp [hx]<;>omega
theorem XI(g:Bool)(d:List Nat):val d=(Xx g d).natAbs:=by rcases QcC g d with h|h<;>omega
theorem QkG(e:x=z.sign):(x=0↔z=0):=by
 rcases Yr z with h|h|h<;>omega
theorem Qx3(e:x=z.sign):decide (x=0)=decide (z=0):=by
 have :=QkG e
 by_cases h:z=0<;>simp [h,this]
end Go.Gx

namespace Go.Gx
def vb(b:Nat):List Nat→Nat
 | []=>0
 |d::ds=>d+b*vb b ds
theorem Qqp(ds:List Nat):vb 4294967296 ds=val ds:=by
 induction ds with
 |nil=>rfl
 |cons d ds ih=>simp only[vb,val,ih]
section
variable{B:Nat}
theorem Qqn(a b:List Nat):vb B (a++b)=vb B a+B^a.length*vb B b:=by
 induction a with
 |nil=>simp [vb]
 |cons d a ih=>simp only[Qye,vb,ih,Um,WC];rw[Ut,←UB,UC (B^a.length) B,QyH]
theorem Qvg: ∀(ds:List Nat),(∀d∈ds,d<B)→vb B ds<B^ds.length
 | [],_=>by simp [vb]
 |d::ds,h=>by
  have h1:=h d (by simp)
  have h2:=Qvg ds fun x hx=>h x (by simp [hx])
  simp only[vb,Um,WC]
  have h3:B*(vb B ds+1)≤B*B^ds.length:=Uf _ h2
  rw[UC (B^ds.length) B]
  have :B*(vb B ds+1)=B*vb B ds+B:=by rw[Ut,Wt]
  omega
theorem Qqo(a:List Nat):vb B a=a.getD 0 0+B*vb B a.tail:=by cases a<;>simp [vb]
theorem QsV(ds:List Nat)(h: ∀d∈ds,d<B)(q:Nat):vb B ds/B^q=vb B (ds.drop q):=by
 rcases Up q ds.length with hq|hq
 ·have e:=Qqn (B:=B) (ds.take q) (ds.drop q)
  rw[Ux,UP,UT (by omega)] at e
  have h1:vb B (ds.take q)<B^q:=by
   have :=Qvg (ds.take q) fun d hd=>h d (UJ hd)
   rwa [UP,UT (by omega)] at this
  rw[e,Nat.add_mul_div_left _ _ (by omega),Qy6 h1,WJ]
 ·rw[Us hq]
  have h1:=Qvg ds h
  rcases Uk B with h0|h0
  ·subst h0
   have :ds=[]:=by
    cases ds with
    |nil=>rfl
    |cons d ds=>have :=h d (by simp);omega
   subst this;simp [vb]
  ·exact Qy6 (UM h1 (UN h0 hq))
end
end Go.Gx
namespace Go.Gx
theorem Qly{a b:Int}{x c:Nat}(ha:a=(x:Int))(hb:b=(c:Int))(hx:x≤9223372036854775807):IntKind.i64.wrap (a.tdiv b)=((x/c:Nat):Int):=by
 subst ha hb
 have :=Qzt x c
 rw[←QzA]
 generalize x/c=y at *
 exact QaZ ⟨rfl,by omega,by omega⟩
theorem QuO{a b:Int}{x c:Nat}(ha:a=(x:Int))(hb:b=(c:Int))(hx:x<18446744073709551616):IntKind.u64.wrap (a.tdiv b)=((x/c:Nat):Int):=by
 subst ha hb
 have :=Qzt x c
 rw[←QzA]
 generalize x/c=y at *
 exact Qbm ⟨rfl,by omega,by omega⟩
theorem Qjd{a b:Int}{x c:Nat}(ha:a=(x:Int))(hb:b=(c:Int)):a.tmod b=((x % c:Nat):Int):=by
 subst ha hb;rw[Int.ofNat_tmod]
theorem QqA{a b:Int}{k:IntKind}{x s:Nat}(ha:a=(x:Int))(hb:b=(s:Int))(hs:s≤k.bits):a.fdiv (2^ (min b.toNat k.bits))=((x/2^s:Nat):Int):=by
 subst ha hb
 rw[QyG,UT hs,Int.fdiv_eq_ediv_of_nonneg _ (by exact Int.pow_nonneg (by omega))]
 simp
end Go.Gx
namespace Go.Gx
end Go.Gx
namespace Go.Gx
end Go.Gx

namespace Go.Gx
open Go.RowKit
def bl8(x:Nat):Nat:=if x=0 then 0 else if x<2 then 1 else if x<4 then 2 else if x<8 then 3 else if x<16 then 4 else if x<32 then 5 else if x<64 then 6 else if x<128 then 7 else 8
def QxR(s:ByteArray):Bool:=s.size==256&& (UV 256).all fun i=>(s.data.getD i 0).toNat==bl8 i
section
variable{P:Program}{n:Nat}{e:Nat→Value}{w:World}{ty:TypeId}{pos:String}{af:Array Edge}{gd:Option (Nat×Bool)}
theorem Qq3{d:Option Nat}{t:TypeId}{x y:Operand}{s:ByteArray}{k:IntKind}{z:Int}(i:Nat)(ht:P.underlying t=some .string)(hx:ev n e x= .string s)(hs:QxR s=true)(hy:ev n e y= .int k z)(hz:z=(i:Int))(hi:i<256):
  Ev P n e ⟨d,.index t x y,ty,pos,af,gd⟩ w (.int .u8 ((bl8 i:Nat):Int)):=by
 unfold QxR at hs
 simp only[UH,beq_iff_eq,QyO,List.mem_range] at hs
 have h1:=hs.2 i hi
 have hlt:i<s.size:=by rw[hs.1];exact hi
 have h2:(s[i]'hlt).toNat=bl8 i:=by
  rw[←h1]
  show(s.data[i]'hlt).toNat=_
  have :i<s.data.size:=hlt
  have e0:s.data.getD i 0=s.data[i]:=by unfold Qzy;rw[dif_pos this];rfl
  rw[e0]
 have hr:=run_index_string (P:=P) w t s k z ht
 rw[dif_pos ⟨by omega,by rw[hz];exact_mod_cast hlt⟩] at hr
 have e3:z.toNat=i:=by omega
 simp only[Ev,execOp,hx,hy,hr,Sem.run_bind,Result.andThen_ok]
 subst hz
 simp [h2]
theorem Qmv(a b s:Nat)(hb:b<2^s):2^s*a|||b=2^s*a+b:=(Nat.two_pow_add_eq_or_of_lt hb a).symm
theorem Qo1{d:Option Nat}{t t':TypeId}{x y:Operand}{a b c:Nat}(hx:ev n e x= .int .u64 (a:Int))(hy:ev n e y= .int .u64 (b:Int))(ha:a<18446744073709551616)(hb:b<18446744073709551616)(hc:a|||b=c):
  Ev P n e ⟨d,.binOp .or t x y t',ty,pos,af,gd⟩ w (.int .u64 (c:Int)):=by
 have e1:(Op.intBits .or .u64 (a:Int) (b:Int))=pure (.int .u64 (IntKind.u64.wrap ((UL 64 (a:Int)|||UL 64 (b:Int)).toNat:Int))):=rfl
 have e2:(UL 64 (a:Int)|||UL 64 (b:Int)).toNat=c:=by
  have h1:UL 64 (a:Int)=Ue 64 a:=by simp
  have h2:UL 64 (b:Int)=Ue 64 b:=by simp
  rw[h1,h2,BitVec.toNat_or,WK,WK,UQ ha,UQ hb,hc]
 have hlt:c<18446744073709551616:=by rw[←e2];exact BitVec.isLt _
 rw[e2,Qbm (z:=(c:Int)) ⟨rfl,by omega,by omega⟩] at e1
 simp only[Ev,execOp,hx,hy,eqGuard,binOp,e1]
 simp
theorem Qul{d:Option Nat}{t t':TypeId}{x y:Operand}{a b c:Nat}(hx:ev n e x= .int .u32 (a:Int))(hy:ev n e y= .int .u32 (b:Int))(ha:a<4294967296)(hb:b<4294967296)(hc:a|||b=c):
  Ev P n e ⟨d,.binOp .or t x y t',ty,pos,af,gd⟩ w (.int .u32 (c:Int)):=by
 have h:=QsA (P:=P) (w:=w) (d:=d) (t:=t) (t':=t') (ty:=ty) (pos:=pos) (af:=af) (gd:=gd) hx hy
 have e2:(Ue 32 a|||Ue 32 b).toNat=c:=by
  rw[BitVec.toNat_or,WK,WK,UQ ha,UQ hb,hc]
 rw[e2] at h
 exact h
end
theorem Qjk{a b:Int}{x s:Nat}(ha:a=(x:Int))(hb:b=(s:Int))(hs:s≤64)(hx:x*2^s<18446744073709551616):IntKind.u64.wrap (a*2^ (min b.toNat IntKind.u64.bits))=((x*2^s:Nat):Int):=by
 subst ha hb
 have e:min (s:Int).toNat IntKind.u64.bits=s:=by rw[QyG];exact UT hs
 rw[e]
 exact Qbm ⟨by simp,by omega,by omega⟩
end Go.Gx
namespace Go.Gx
section
variable{Q:Exit→Act→World→Prop}{a:Act}{w:World}
theorem nR(h:Q .ret a w):Exit.noGoto Q .ret a w:=h
end
end Go.Gx
namespace Go.Gx
section
variable{P:Program}{n:Nat}{e:Nat→Value}{w:World}{ty:TypeId}{pos:String}{af:Array Edge}{gd:Option (Nat×Bool)}
theorem Qdl{d:Option Nat}{t el:TypeId}{x y y2:Operand}{g off len cap size:Nat}{k k2:IntKind}{z z2:Int}(l h:Nat)(ht:P.underlying t=some (.slice el))(hs: ∀w,(sizeOf el).run P w= .ok size w)
  (hx:ev n e x= .slice (some ⟨g,off,none⟩) len cap)(hy:ev n e y= .int k z)(hy2:ev n e y2= .int k2 z2)(hz:z=(l:Int))(hz2:z2=(h:Int))(h1:l≤h)(h2:h≤cap)(h3:l<cap)(p:Nat)(hp:off+l*size=p):
  Ev P n e ⟨d,.slice t x (some y) (some y2) none,ty,pos,af,gd⟩ w (.slice (some ⟨g,p,none⟩) (h -l) (cap -l)):=by
 have :=Qlh (P:=P) (w:=w) (d:=d) (ty:=ty) (pos:=pos) (af:=af) (gd:=gd) l h ht hs hx (lo:=some y) (hi:=some y2) ⟨k,z,hy,hz⟩ ⟨k2,z2,hy2,hz2⟩ h1 h2
 rw[if_neg (by omega)] at this
 simp only[QyY,addr_add,hp] at this
 exact this
end
end Go.Gx

namespace Go.Gx
theorem wU8{x z:Int}(h:x=z∧0≤z∧z<256):IntKind.u8.wrap x=z:=by
 obtain⟨rfl,h1,h2⟩:=h
 simp only[IntKind.wrap,IntKind.bits,IntKind.signed]
 simp
 omega
theorem QqU{x y z:Nat}(h:x<z)(hy:y<4294967296):(x*4294967296+y)/z<4294967296:=by
 refine Qy9 ?_
 have :(x+1)*4294967296≤z*4294967296:=Uy _ h
 omega
theorem Qua{X z q m:Nat}(hz:0<z)(hzz:z<4294967296)(hq:X/z<4294967296)(eq:q=X/z % 4294967296)(em:m=X % z % 4294967296):q*z+m=X∧m<z:=by
 have h1:=UG X hz
 rw[UQ hq] at eq
 rw[UQ (by omega)] at em
 subst eq em
 refine⟨?_,h1⟩
 have :=Qym X z
 rw[UC] at this
 exact this
theorem QeH{x:Nat}(h:x<256):x<2^bl8 x∧(x=0∨2^ (bl8 x -1)≤x)∧bl8 x≤8∧(x=0∨1≤bl8 x):=by
 unfold bl8
 repeat' split
 all_goals simp
 all_goals omega
theorem Qmn{x s y n:Nat}(hy:y=x/2^s)(hlt:y<256)(h0:s=0∨y≠0)(hn:n=s+bl8 y):x<2^n∧(x=0∨2^ (n -1)≤x)∧n≤s+8:=by
 obtain⟨h1,h2,h3,h4⟩:=QeH hlt
 subst hn
 refine⟨?_,?_,by omega⟩
 ·rw[Wv]
  have :x/2^s<2^bl8 y:=by rw[←hy];exact h1
  have h5:=(Nat.div_lt_iff_lt_mul (WQ (by decide))).1 this
  rw[UC]
  exact h5
 ·rcases h2 with h2|h2
  ·rcases h0 with h0|h0
   ·subst h0
    left
    rw[h2] at hy
    simpa using hy.symm
   ·exact absurd h2 h0
  ·right
   have hb:1≤bl8 y:=by
    rcases h4 with h4|h4
    ·rw[h4] at h2;simp [bl8] at h2
    ·exact h4
   have e:2^ (s+bl8 y -1)=2^ (bl8 y -1)*2^s:=by rw[←Wv];congr 1;omega
   rw[e]
   have h5:2^ (bl8 y -1)≤x/2^s:=by rw[←hy];exact h2
   exact(Nat.le_div_iff_mul_le (WQ (by decide))).1 h5
theorem Qni{x n r:Nat}(h0:x≠0)(h1:x<2^n)(h2:x=0∨2^ (n -1)≤x)(h3:n≤32)(hr:r=32 -n):x*2^r<4294967296∧2147483648≤x*2^r∧r≤31:=by
 have hn:1≤n:=by
  rcases Uk n with h|h
  ·subst h;simp at h1;omega
  ·exact h
 have h4:2^ (n -1)≤x:=by rcases h2 with h|h;exact absurd h h0;exact h
 have e1:(4294967296:Nat)=2^n*2^r:=by rw[←Wv,hr,show n+(32 -n)=32 by omega]
 have e2:(2147483648:Nat)=2^ (n -1)*2^r:=by rw[←Wv,hr,show n -1+(32 -n)=31 by omega]
 refine⟨?_,?_,by omega⟩
 ·rw[e1];exact Qyn h1 (WQ (by decide))
 ·rw[e2];exact Uy _ h4
theorem Qw2{d:List Nat}{n:Nat}(hl:d.length=n):(n=0→val d=0)∧(n=1→val d=d.getD 0 0)∧(n=2→val d=d.getD 1 0*4294967296+d.getD 0 0):=by
 match d,hl with
 | [],h=>simp at h;subst h;simp [val]
 | [a],h=>simp at h;subst h;simp [val]
 | [a,b],h=>simp at h;subst h;simp [val,BS];omega
 |a::b::c::d,h=>simp at h;refine⟨by omega,by omega,by omega⟩
theorem Qbu{a:List Nat}{k:Nat}(hk:0<k)(hl:k≤a.length):val (a.drop (k -1))=a.getD (k -1) 0+4294967296*val (a.drop k):=by
 rw[Ws (show k -1<a.length by omega),show k -1+1=k by omega]
 simp [val,Uh,show k -1<a.length by omega]
theorem QoW{a Q:List Nat}{k d r q r':Nat}(hk:0<k)(hl:k≤a.length)(h:val (a.drop k)=d*val Q+r)(he:q*d+r'=r*4294967296+a.getD (k -1) 0):val (a.drop (k -1))=d*val (q::Q)+r':=by
 rw[Qbu hk hl,h]
 simp only[val]
 rw[Ut,Ut]
 have e1:d*(BS*val Q)=4294967296*(d*val Q):=by rw[Wz]
 rw[e1]
 have e2:q*d=d*q:=UC _ _
 omega
theorem QmG{L:List Nat}{m m' k r:Nat}(hm:m=m'+1)(hk:k=m'):(Uc m 0++L).set k r=Uc m' 0++(r::L):=by
 subst hm hk
 rw[List.replicate_succ',WI,US _ _ (by simp)]
 simp
theorem QdI{P:List Nat}{m:Nat}(h: ∀d∈P,d<BS): ∀d∈Uc m 0++P,d<BS:=by
 intro d hd
 rcases List.mem_append.1 hd with h1|h1
 ·have :=Uu h1;subst this;decide
 ·exact h d h1
theorem Qg0{P:List Nat}{s:Nat}(h: ∀d∈P,d<BS)(hs:s<4294967296): ∀d∈s::P,d<BS:=by
 intro d hd
 rcases List.mem_cons.1 hd with h1|h1
 ·subst h1;exact hs
 ·exact h d h1
end Go.Gx
namespace Go.Gx
def Qj1(a b c:Nat):Nat:=(a*4294967296+b)*4294967296+c
def Qj2(d e:Nat):Nat:=d*4294967296+e
theorem Qlf(g d e:Nat):g*Qj2 d e=g*d*4294967296+g*e:=by unfold Qj2;rw[Ut,UB]
def Qfh(a b d g r:Nat):Prop:=g*d+r=a*4294967296+b
theorem Qfh.start1{a b d s c:Nat}(ha:a=d)(hs:s+4294967296*c=b+d):Qfh a b d 4294967295 (s+4294967296*c):=by
 unfold Qfh;subst ha;omega
theorem Qfh.start2{a b d q r:Nat}(h:q*d+r=a*4294967296+b):Qfh a b d q (r+4294967296*0):=by unfold Qfh;omega
theorem Qfh.next{a b d g r s c:Nat}(h:Qfh a b d g r)(hg:0<g)(hs:s+4294967296*c=r+d):Qfh a b d (g -1) (s+4294967296*c):=by
 unfold Qfh at *
 obtain⟨j,rfl⟩: ∃j,g=j+1:=⟨g -1,by omega⟩
 rw[UZ,Qyy] at h
 simp only[Wn]
 omega
theorem Qfh.big{a b d g r:Nat}(h:Qfh a b d g r):(a*4294967296+b)*4294967296=g*d*4294967296+r*4294967296:=by
 unfold Qfh at h
 omega
theorem Qsx{a b c d e g r:Nat}(h:Qfh a b d g r)(hle:g*e≤r*4294967296+c):g*Qj2 d e≤Qj1 a b c:=by
 have e:=Qfh.big h
 rw[Qlf]
 unfold Qj1
 omega
theorem QqZ{a b c d e g s:Nat}(h:Qfh a b d g (s+4294967296*1))(hg:g<4294967296)(he:e<4294967296):g*Qj2 d e≤Qj1 a b c:=by
 have h1:=QcM hg he
 have h2:g*e≤(s+4294967296*1)*4294967296+c:=by omega
 exact Qsx h h2
theorem Qv1{a b c d e g r:Nat}(h:Qfh a b d g r)(hgt:r*4294967296+c<g*e):Qj1 a b c<g*Qj2 d e:=by
 have hb:=Qfh.big h
 rw[Qlf]
 unfold Qj1
 rw[hb,QyH]
 exact Nat.add_lt_add_left hgt _
def QnG(a b c d e g:Nat):Prop:= ∀q,q≤4294967295→q*Qj2 d e≤Qj1 a b c→q≤g
theorem QnG.start1(a b c d e:Nat):QnG a b c d e 4294967295:=fun _ h _=>h
theorem QnG.start2{a b c d e q r:Nat}(h:q*d+r=a*4294967296+b)(hr:r<d)(hc:c<4294967296):QnG a b c d e q:=by
 intro p _ hp
 rw[Qlf] at hp
 unfold Qj1 at hp
 rcases Up q p with h1|h1
 ·exfalso
  have h2:(q+1)*d≤p*d:=Uy _ h1
  rw[UZ,Qyy] at h2
  omega
 ·exact h1
theorem QnG.next{a b c d e g:Nat}(h:QnG a b c d e g)(hn:Qj1 a b c<g*Qj2 d e):QnG a b c d e (g -1):=by
 intro q hq hp
 have h1:=h q hq hp
 rcases Nat.eq_or_lt_of_le h1 with h2|h2
 ·subst h2;omega
 ·omega
theorem QiJ{a b c d e g:Nat}(hn:Qj1 a b c<g*Qj2 d e):0<g:=by
 rcases Uk g with h|h
 ·subst h;simp at hn
 ·exact h
theorem Ql7{g e h l r c:Nat}(hm:l+4294967296*h=g*e)(hl:l<4294967296)(hc:c<4294967296):((h<r∨h=r∧l≤c)→g*e≤r*4294967296+c)∧(¬(h<r∨h=r∧l≤c)→r*4294967296+c<g*e):=by
 constructor<;>intro hh<;>omega
theorem Qqa{P Z v:List Nat}{k d bo cy bo' cy' s:Nat}(h:val P+d*val (v.take k)=val (Z.take k)+BS^k*(bo+cy))(hl:P.length=k)(hs:bo+cy+s+d*v.getD k 0=Z.getD k 0+4294967296*(bo'+cy')):
  val (P++[s])+d*val (v.take (k+1))=val (Z.take (k+1))+BS^ (k+1)*(bo'+cy'):=by
 rw[Qav,hl,Qau,Qau,Ut d,WC,UB]
 have e1:d*(BS^k*v.getD k 0)=BS^k*(d*v.getD k 0):=Wz _ _ _
 have e2:BS^k*(bo+cy+s+d*v.getD k 0)=BS^k*(Z.getD k 0+BS*(bo'+cy')):=by rw[hs]
 rw[Ut,Ut (BS^k) (bo+cy),Ut (BS^k) (Z.getD k 0)] at e2
 rw[e1]
 omega
theorem Qu0{P Z v:List Nat}{k d bo cy bo' s:Nat}(h:val P+d*val (v.take k)=val (Z.take k)+BS^k*(bo+cy))(hl:P.length=k)(hv:v.length≤k)(hs:bo+cy+s=Z.getD k 0+4294967296*bo'):
  val (P++[s])+d*val v=val (Z.take (k+1))+BS^ (k+1)*bo':=by
 have h0:v.getD k 0=0:=Qbk (n:=k) hv k (Ug _)
 have :=Qqa (bo':=bo') (cy':=0) h hl (by rw[h0];omega)
 rw[Ui (show v.length≤k+1 by omega)] at this
 simpa using this
end Go.Gx
namespace Go.Gx
theorem Qkq{P Z:List Nat}{s k:Nat}(h:P.length=k):((P++[s])++Z.drop (k+1)).take (k+1)=P++[s]:=by
 rw[UI (by simp [h])]
 rw[Ui (by simp [h])]
theorem Qkp{P Z:List Nat}{s k:Nat}(h:P.length=k):((P++[s])++Z.drop (k+1)).drop (k+1)=Z.drop (k+1):=by
 rw[WF (by simp [h]),Us (by simp [h])];rfl
theorem Qxk(x:Nat):decide (((x:Nat):Int)≠0)=decide (x≠0):=by
 by_cases h:x=0<;>simp [h]
end Go.Gx
namespace Go.Gx
theorem QiI{a b c d e g r o h l:Nat}(hI:Qfh a b d g (r+4294967296*o))(ho:o=0)(hm:l+4294967296*h=g*e)(hl:l<4294967296)(hc:c<4294967296)(ht:h<r∨h=r∧l≤c):g*Qj2 d e≤Qj1 a b c:=by
 subst ho
 simp only[QyV,WB] at hI
 exact Qsx hI ((Ql7 hm hl hc).1 ht)
theorem QiH{a b c d e g r o h l:Nat}(hI:Qfh a b d g (r+4294967296*o))(ho:o=0)(hm:l+4294967296*h=g*e)(hl:l<4294967296)(hc:c<4294967296)(ht: ¬(h<r∨h=r∧l≤c)):Qj1 a b c<g*Qj2 d e:=by
 subst ho
 simp only[QyV,WB] at hI
 exact Qv1 hI ((Ql7 hm hl hc).2 ht)
theorem Qj3{a b c d e g s o:Nat}(h:Qfh a b d g (s+4294967296*o))(ho:o=1)(hg:g<4294967296)(he:e<4294967296):g*Qj2 d e≤Qj1 a b c:=by
 subst ho;exact QqZ h hg he
theorem Qfh.next0{a b d g r s c o:Nat}(h:Qfh a b d g (r+4294967296*o))(ho:o=0)(hg:0<g)(hs:s+4294967296*c=r+d):Qfh a b d (g -1) (s+4294967296*c):=by
 subst ho
 simp only[QyV,WB] at h
 exact h.next hg hs
end Go.Gx
namespace Go.Gx
theorem Qpq{x s:Nat}(hs:s≤31):x*2^s % 4294967296=2^s*(x % 2^ (32 -s)):=by
 have e:(4294967296:Nat)=2^s*2^ (32 -s):=by rw[←Wv,show s+(32 -s)=32 by omega]
 rw[e,UC x,Nat.mul_mod_mul_left]
theorem Qp7{x s c:Nat}(hx:x<4294967296)(hs:s≤31)(hc:c<2^s):
  x*2^s<9223372036854775808∧c|||x*2^s % 4294967296=c+x*2^s % 4294967296∧c+x*2^s % 4294967296<4294967296∧x*2^s/4294967296<2^s∧2^s≤2147483648:=by
 have hp:(2:Nat)^s≤2147483648:=UN (by decide) hs
 have h0:0<(2:Nat)^s:=WQ (by decide)
 have h1:x*2^s≤4294967295*2147483648:=QyN (by omega) hp
 refine⟨by omega,?_,?_,?_,hp⟩
 ·rw[Qpq hs,Nat.or_comm,Qmv _ _ _ hc,Nat.add_comm]
 ·rw[Qpq hs]
  have e:(4294967296:Nat)=2^s*2^ (32 -s):=by rw[←Wv,show s+(32 -s)=32 by omega]
  have h2:x % 2^ (32 -s)<2^ (32 -s):=UG _ (WQ (by decide))
  have h3:2^s*(x % 2^ (32 -s)+1)≤2^s*2^ (32 -s):=Uf _ h2
  rw[←e,Ut,Wt] at h3
  omega
 ·refine Qy9 ?_
  exact Qyn hx h0
theorem QuX{P Z:List Nat}{w k c t:Nat}(hP:P.length=k)(ht:t=w+k):(Uc w 0++(P++(c::Z))).getD t 0=c:=by
 subst ht
 simp only[Uh]
 rw[UD (by simp),Wp,Qyh,UD (by omega),hP,WD]
 rfl
theorem QrP{P Z:List Nat}{w k c t v:Nat}(hP:P.length=k)(ht:t=w+k):(Uc w 0++(P++(c::Z))).set t v=Uc w 0++(P++(v::Z)):=by
 subst ht
 rw[US _ _ (by simp),Wp,Qyh,US _ _ (by omega),hP,WD,WY]
theorem QrQ{P:List Nat}{w k t m m' v h:Nat}(hP:P.length=k)(ht:t=w+(k+1))(hm:m=m'+1):(Uc w 0++(P++(v::Uc m 0))).set t h=Uc w 0++((P++[v])++(h::Uc m' 0)):=by
 subst ht hm
 rw[US _ _ (by simp),Wp,Qyh,US _ _ (by omega),hP,show k+1 -k=1 by omega,Qyl]
 simp
theorem QrR{P a:List Nat}{k c c' s v:Nat}(h:val P+BS^k*c=val (a.take k)*2^s)(hl:P.length=k)(hv:v+4294967296*c'=a.getD k 0*2^s+c):val (P++[v])+BS^ (k+1)*c'=val (a.take (k+1))*2^s:=by
 rw[QiD h hl hv,Qau,UZ,UB]
theorem QuW{P a:List Nat}{k c s w m n:Nat}(h:val P+BS^k*c=val (a.take k)*2^s)(hl:P.length=k)(ha:a.length≤k)(hm:m=0)(hn:n=32*w+s):val (Uc w 0++(P++(c::Uc m 0)))=val a*2^n:=by
 subst hm hn
 rw[val_append,QcA,Wp,Wh,Qav,hl,h,YS a ha,Wv,QzC,WJ]
 show(2^32)^w*(val a*2^s)=_
 rw[Wz]
theorem QsJ{P:List Nat}{w m c:Nat}(h: ∀d∈P,d<BS)(hc:c<4294967296): ∀d∈Uc w 0++(P++(c::Uc m 0)),d<BS:=by
 intro d hd
 rcases List.mem_append.1 hd with h1|h1
 ·have :=Uu h1;subst this;decide
 ·rcases List.mem_append.1 h1 with h2|h2
  ·exact h d h2
  ·rcases List.mem_cons.1 h2 with h3|h3
   ·subst h3;exact hc
   ·have :=Uu h3;subst this;decide
theorem Qp8{T:List Nat}{k s:Nat}(hT: ∀d∈T,d<BS)(hs:s≤31):val T/2^s/BS^k % BS=(T.getD k 0+T.getD (k+1) 0*4294967296)/2^s % 4294967296:=by
 rw[QyA,UC,←QyA,←Qqp]
 rw[show vb 4294967296 T/BS^k=vb 4294967296 (T.drop k) from QsV T hT k]
 rw[Qqo,Qqo (T.drop k).tail]
 have e0:(T.drop k).getD 0 0=T.getD k 0:=by simp [Uh,UU]
 have e1:(T.drop k).tail.getD 0 0=T.getD (k+1) 0:=by simp [Uh,UU]
 rw[e0,e1,Ut]
 have hp:(4294967296:Nat)=2^s*2^ (32 -s):=by rw[←Wv,show s+(32 -s)=32 by omega]
 have e2: ∀r:Nat,(T.getD k 0+(4294967296*T.getD (k+1) 0+4294967296*(4294967296*r)))=(T.getD k 0+T.getD (k+1) 0*4294967296)+2^s*(4294967296*(2^ (32 -s)*r)):=by
  intro r
  have e3:2^s*(4294967296*(2^ (32 -s)*r))=4294967296*(4294967296*r):=by
   rw[Wz,←UB (2^s),←hp]
  rw[e3]
  omega
 rw[e2,Nat.add_mul_div_left _ _ (WQ (by decide)),Nat.add_mul_mod_self_left]
theorem QmM{T P:List Nat}{k s t:Nat}(hT: ∀d∈T,d<BS)(hs:s≤31)(h:val P=val T/2^s % BS^k)(hl:P.length=k)(ht:t=(T.getD k 0+T.getD (k+1) 0*4294967296)/2^s % 4294967296):val (P++[t])=val T/2^s % BS^ (k+1):=by
 rw[Qav,hl,h,ht,←Qp8 hT hs,←Nat.mod_pow_succ]
theorem QuZ{a T P:List Nat}{k w s n m:Nat}(ha: ∀d∈a,d<BS)(hT:T=a.drop w)(h:val P=val T/2^s % BS^k)(hk:T.length≤k)(hn:n=32*w+s):val (P++Uc m 0)=val a/2^n:=by
 have hTd: ∀d∈T,d<BS:=fun d hd=>by rw[hT] at hd;exact ha d (Wl hd)
 have h1:val T<BS^k:=UM (QaU T hTd) (UN (by decide) hk)
 have h2:val T/2^s<BS^k:=Nat.lt_of_le_of_lt (Qzt _ _) h1
 rw[QdK,h,UQ h2,hn,Wv,←QyA,QzC]
 have h3:val a/ (2^32)^w=val (a.drop w):=by rw[←Qqp,←Qqp];exact QsV a ha w
 rw[h3,←hT]
theorem QrS{a:List Nat}{w n l:Nat}(ha: ∀d∈a,d<BS)(hl:a.length=l)(hw:l≤w)(hn:32*w≤n):(0:Nat)=val a/2^n:=by
 have h1:=QaU a ha
 refine(Qy6 (UM h1 ?_)).symm
 rw[hl,show(BS:Nat)=2^32 from rfl,←QzC]
 exact UN (by decide) (by omega)
theorem QuJ{x t:Nat}(hx:x<4294967296):x|||t*4294967296=x+t*4294967296:=by
 rw[Nat.or_comm,UC t]
 have :=Qmv t x 32 hx
 rw[show(2:Nat)^32=4294967296 from rfl] at this
 omega
end Go.Gx
namespace Go.Gx
theorem QuT{w n:Nat}:Uc w 0++((0:Nat)::Uc (n -0) 0)=Uc (w+n+1) 0:=by
 rw[←Qyl,List.replicate_append_replicate]
 congr 1
end Go.Gx

namespace Go.Gx
theorem QqY{d:List Nat}{n:Nat}(hn:2≤n)(hl:d.length=n):val (d.drop (n -2))=Qj2 (d.getD (n -1) 0) (d.getD (n -2) 0):=by
 have e1:=Qbu (a:=d) (k:=n -1) (by omega) (by omega)
 have e2:=Qbu (a:=d) (k:=n) (by omega) (by omega)
 rw[Us (show d.length≤n by omega)] at e2
 rw[show n -2=n -1 -1 by omega,e1,e2]
 simp only[Qj2,val]
 omega
theorem Qm6{d:List Nat}{n:Nat}(hn:2≤n)(hl:d.length=n+1):val (d.drop (n -2))=Qj1 (d.getD n 0) (d.getD (n -1) 0) (d.getD (n -2) 0):=by
 have e1:=Qbu (a:=d) (k:=n -1) (by omega) (by omega)
 have e2:=Qbu (a:=d) (k:=n) (by omega) (by omega)
 have e3:=Qbu (a:=d) (k:=n+1) (by omega) (by omega)
 rw[Us (show d.length≤n+1 by omega),Wn] at e3
 rw[show n -2=n -1 -1 by omega,e1,e2,e3]
 simp only[Qj1,val]
 omega
theorem QxS{d:List Nat}{n k X:Nat}(hd: ∀x∈d,x<BS)(hn:2≤n)(hl:n -2≤d.length)(hX:val (d.drop (n -2))=X):BS^ (n -2)*X≤val d∧val d<BS^ (n -2)*(X+1):=by
 have h1:=YZ d (k:=n -2) hl
 have h2:=QaU (d.take (n -2)) fun x hx=>hd x (UJ hx)
 rw[UP,UT hl] at h2
 rw[hX] at h1
 rw[Ut,Wt]
 omega
theorem QoY{E V U v P g:Nat}(hE:0<E)(hv1:E*V≤v)(hv2:v<E*(V+1))(hp1:E*U≤P)(hp2:P<E*(U+1))(hok:g*V≤U)(hmx: ∀q,q≤4294967295→q*V≤U→q≤g)(hg:g≤4294967295)(hPv:P<v*4294967296)(hV:4294967296≤V):
  P/v≤g∧(0<g→(g -1)*v≤P)∧(g*v≤P→P -g*v<v):=by
 have hv0:0<v:=by
  have :E*1≤E*V:=Uf _ (by omega)
  omega
 have hq:P/v≤g:=by
  refine hmx _ ?_ ?_
  ·have :P/v<4294967296:=Qy9 hPv
   omega
  ·have h1:P/v*v≤P:=Qzf _ _
   have h2:P/v*(E*V)≤P/v*v:=Uf _ hv1
   have h3:E*(P/v*V)<E*(U+1):=by rw[Wz];omega
   have :=Qyq h3
   omega
 refine⟨hq,fun h0=> ?_,fun hle=> ?_⟩
 ·obtain⟨j,rfl⟩: ∃j,g=j+1:=⟨g -1,by omega⟩
  rw[Wn]
  have h1:E*((j+1)*V)≤E*U:=Uf _ hok
  have h2:(j+1)*v≤(j+1)*(E*(V+1)):=Uf _ (by omega)
  have h3:(j+1)*(E*(V+1))=E*((j+1)*V)+E*(j+1):=by
   rw[Wz,Ut (j+1),Wt,Ut]
  have h4:E*(j+1)≤E*V:=Uf _ (by omega)
  rw[UZ,Qyy] at h2
  omega
 ·have h1:g≤P/v:=(Nat.le_div_iff_mul_le hv0).2 hle
  have h2:g=P/v:=by omega
  have h3:=Qym P v
  have h4:=UG P hv0
  rw[UC,←h2] at h3
  omega
theorem QwO{E V U v P a b c d e:Nat}(hE:0<E)(hv2:v<E*(V+1))(hp1:E*U≤P)(hPv:P<v*4294967296)(hU:U=Qj1 a b c)(hV:V=Qj2 d e)(he:e<4294967296):a≤d:=by
 have h1:v*4294967296≤E*(V+1)*4294967296:=Uy _ (by omega)
 have h2:E*U<E*((V+1)*4294967296):=by rw[←UB];omega
 have h3:=Qyq h2
 subst hU hV
 unfold Qj1 Qj2 at h3
 omega
structure QnF (D v Q:List Nat) (k N:Nat):Prop where
 eq:val D+val v*(BS^k*val Q)=N
 lt:val D<val v*BS^k
theorem QnF.part{D v Q:List Nat}{k N n:Nat}(h:QnF D v Q k N)(hk:0<k)(hl:k -1+n+1≤D.length)(hv:val v<BS^n):
  val D=val (D.take (k -1))+BS^ (k -1)*val ((D.drop (k -1)).take (n+1))∧val ((D.drop (k -1)).take (n+1))<val v*4294967296∧val ((D.drop (k -1)).drop (n+1))=0:=by
 have e1:=YZ D (k:=k -1) (by omega)
 have e2:=YZ (D.drop (k -1)) (k:=n+1) (by simp;omega)
 have hk1:BS^k=BS^ (k -1)*4294967296:=by rw[←WC];congr 1;omega
 have h1:=h.lt
 rw[hk1,←UB,UC (val v) (BS^ (k -1)),UB] at h1
 have h2:BS^ (k -1)*val (D.drop (k -1))<BS^ (k -1)*(val v*4294967296):=by omega
 have h3:=Qyq h2
 have h4:val ((D.drop (k -1)).drop (n+1))=0:=by
  rcases Uk (val ((D.drop (k -1)).drop (n+1))) with h0|h0
  ·exact h0
  ·exfalso
   have h5:BS^ (n+1)*1≤BS^ (n+1)*val ((D.drop (k -1)).drop (n+1)):=Uf _ h0
   have h6:(val v+1)*4294967296≤BS^n*4294967296:=Uy _ hv
   have h7:BS^ (n+1)=BS^n*4294967296:=WC _ _
   rw[Wt] at h5
   omega
 rw[h4,QyV,WB] at e2
 refine⟨by rw[←e2];exact e1,by rw[←e2];exact h3,h4⟩
theorem QnF.step{D v Q Zr:List Nat}{k N n q:Nat}(h:QnF D v Q k N)(hk:0<k)(hl:k -1+n+1≤D.length)(hv:val v<BS^n)(hDt: ∀d∈D,d<BS)(hZ:Zr.length=(D.drop (k -1)).length)
  (hd:Zr.drop (n+1)=(D.drop (k -1)).drop (n+1))(he:val (Zr.take (n+1))+q*val v=val ((D.drop (k -1)).take (n+1)))(hlt:val (Zr.take (n+1))<val v):QnF (D.take (k -1)++Zr) v (q::Q) (k -1) N:=by
 obtain⟨h1,h2,h3⟩:=h.part hk hl hv
 have e2:=YZ Zr (k:=n+1) (by rw[hZ];simp;omega)
 rw[hd,h3,QyV,WB] at e2
 have e3:val (D.take (k -1)++Zr)=val (D.take (k -1))+BS^ (k -1)*val (Zr.take (n+1)):=by
  rw[val_append,UP,UT (by omega),e2]
 have hk1:BS^k=BS^ (k -1)*BS:=by rw[←WC];congr 1;omega
 have hU:val (D.take (k -1))<BS^ (k -1):=by
  have :=QaU (D.take (k -1)) fun d hd'=>hDt d (UJ hd')
  rwa [UP,UT (by omega)] at this
 constructor
 ·rw[e3,←h.eq,h1,←he,hk1]
  simp only[val]
  rw[Ut (BS^ (k -1)) (val (Zr.take (n+1))),Ut (BS^ (k -1)) q,Ut (val v),UB (BS^ (k -1)) BS]
  have :val v*(BS^ (k -1)*q)=BS^ (k -1)*(q*val v):=by rw[Wz,UC (val v)]
  omega
 ·rw[e3]
  have h5:BS^ (k -1)*(val (Zr.take (n+1))+1)≤BS^ (k -1)*val v:=Uf _ hlt
  rw[Ut,Wt] at h5
  rw[UC (val v)]
  omega
theorem Qs0{Pz Z1 Z2 v B q bo cr:Nat}(he:Z1+(q+1)*v=Pz+B*bo)(hb:bo≠0)(hbo:bo≤1)(h2:Z2+B*cr=Z1+v)(hZ2:Z2<B)(hle:q*v≤Pz)(hnl:Pz<(q+1)*v)(hvB:v<B):Z2+q*v=Pz∧Z2<v:=by
 have h1:bo=1:=by omega
 subst h1
 rw[UZ,Qyy] at he hnl
 have hcr:cr=1:=by
  rcases Qy1 cr 1 with h|h|h
  ·have :cr=0:=by omega
   subst this;simp at h2;omega
  ·exact h
  ·have :B*2≤B*cr:=Uf _ h
   omega
 subst hcr
 omega
theorem Qf7{Z1 P q v B bo:Nat}(he:Z1+q*v=P+B*bo)(hZ:Z1<B):(bo=0↔q*v≤P):=by
 constructor
 ·intro h;subst h;omega
 ·intro h
  rcases Uk bo with h0|h0
  ·exact h0
  ·have :B*1≤B*bo:=Uf _ h0
   omega
theorem Qrv{b v:List Nat}{n s:Nat}(hb: ∀d∈b,d<BS)(hl:b.length=n)(hn:0<n)(h1:b.getD (n -1) 0*2^s<4294967296)(h2:2147483648≤b.getD (n -1) 0*2^s)(hs:s≤31)(hv:val v=val b*2^s)(hvt: ∀d∈v,d<BS)(hc:Canon isZ v):
  v.length=n∧2147483648≤v.getD (n -1) 0:=by
 have e1:=YZ b (k:=n -1) (by omega)
 have e2:=Qbu (a:=b) (k:=n) hn (by omega)
 rw[Us (show b.length≤n by omega)] at e2
 have h3:=QaU (b.take (n -1)) fun d hd=>hb d (UJ hd)
 rw[UP,UT (by omega)] at h3
 have e3:val b=val (b.take (n -1))+BS^ (n -1)*b.getD (n -1) 0:=by rw[e1,e2];simp [val]
 have hp:0<(2:Nat)^s:=WQ (by decide)
 have hB:BS^n=BS^ (n -1)*4294967296:=by rw[←WC];congr 1;omega
 have e4:(b.getD (n -1) 0+1)*2^s≤4294967296:=by
  have e:(4294967296:Nat)=2^ (32 -s)*2^s:=by rw[←Wv,show 32 -s+s=32 by omega]
  have h5:b.getD (n -1) 0*2^s<2^ (32 -s)*2^s:=by rw[←e];exact h1
  have h6:=Nat.lt_of_mul_lt_mul_right h5
  have h7:(b.getD (n -1) 0+1)*2^s≤2^ (32 -s)*2^s:=Uy _ h6
  rw[←e] at h7
  exact h7
 have hup:val v<BS^n:=by
  rw[hv,hB]
  have h5:val b+1≤BS^ (n -1)*(b.getD (n -1) 0+1):=by rw[Ut,Wt];omega
  have h6:(val b+1)*2^s≤BS^ (n -1)*(b.getD (n -1) 0+1)*2^s:=Uy _ h5
  have h7:BS^ (n -1)*((b.getD (n -1) 0+1)*2^s)≤BS^ (n -1)*4294967296:=Uf _ e4
  rw[UB] at h6
  rw[UZ,Qyy] at h6
  omega
 have hlo:BS^ (n -1)*2147483648≤val v:=by
  rw[hv,e3,UZ,UB]
  have :BS^ (n -1)*2147483648≤BS^ (n -1)*(b.getD (n -1) 0*2^s):=Uf _ h2
  omega
 have hle:v.length≤n:=YA hc hup
 have hge:n≤v.length:=by
  rcases Up v.length n with h5|h5
  ·exfalso
   have h6:=QaU v hvt
   have h7:BS^v.length≤BS^ (n -1):=UN (by decide) (by omega)
   have h8:BS^ (n -1)*1≤BS^ (n -1)*2147483648:=Uf _ (by decide)
   omega
  ·exact h5
 refine⟨by omega,?_⟩
 have e5:=YZ v (k:=n -1) (by omega)
 have e6:=Qbu (a:=v) (k:=n) hn (by omega)
 rw[Us (show v.length≤n by omega)] at e6
 have h5:=QaU (v.take (n -1)) fun d hd=>hvt d (UJ hd)
 rw[UP,UT (by omega)] at h5
 have e7:val v=val (v.take (n -1))+BS^ (n -1)*v.getD (n -1) 0:=by rw[e5,e6];simp [val]
 have h6:BS^ (n -1)*2147483648<BS^ (n -1)*(v.getD (n -1) 0+1):=by rw[Ut,Wt];omega
 have :=Qyq h6
 omega
theorem QnF.start{D v:List Nat}{k N m n s va:Nat}(hD:val D=N)(hN:N=va*2^s)(hva:va<BS^ (m -1))(hs:s≤31)(hv:BS^ (n -1)*2147483648≤val v)(hn:0<n)(hk:k=m -n)(hm:n≤m):QnF D v [] k N:=by
 refine⟨by simp [val,hD],?_⟩
 rw[hD,hN,hk]
 have h1:va*2^s<BS^ (m -1)*2^s:=Qyn hva (WQ (by decide))
 have h2:BS^ (m -1)*2^s≤BS^ (m -1)*2147483648:=Uf _ (UN (by decide) hs)
 have h3:BS^ (n -1)*2147483648*BS^ (m -n)≤val v*BS^ (m -n):=Uy _ hv
 have e:BS^ (n -1)*2147483648*BS^ (m -n)=BS^ (m -1)*2147483648:=by
  rw[Nat.mul_right_comm,←Wv];congr 2;omega
 omega
theorem QnF.fin{D v Q b:List Nat}{N s va r:Nat}(h:QnF D v Q 0 N)(hN:N=va*2^s)(hv:val v=val b*2^s)(hr:r=val D/2^s):va=val b*val Q+r∧r<val b:=by
 have h1:=h.eq
 have h2:=h.lt
 simp only[Nat.pow_zero,Qyy,Wt] at h1 h2
 have hp:0<(2:Nat)^s:=WQ (by decide)
 rw[hv,hN] at h1
 rw[hv] at h2
 have h3:val b*2^s*val Q=val b*val Q*2^s:=Nat.mul_right_comm _ _ _
 rw[h3] at h1
 have hle:val b*val Q≤va:=by
  have :val b*val Q*2^s≤va*2^s:=by omega
  exact Nat.le_of_mul_le_mul_right this hp
 have h4:val D=(va -val b*val Q)*2^s:=by rw[Nat.sub_mul];omega
 rw[hr,h4,Nat.mul_div_cancel _ hp]
 refine⟨by omega,?_⟩
 rw[h4] at h2
 exact Nat.lt_of_mul_lt_mul_right h2
end Go.Gx
namespace Go.Gx
theorem QjM{d:List Nat}{n:Nat}(hc:Canon isZ d)(hl:d.length=n)(hn:n≠0):d.getD (n -1) 0≠0:=by
 rcases Yx d with h| ⟨k,x,rfl⟩
 ·subst h;simp at hl;omega
 ·have h1:=Zs.1 hc
  have h2:x≠0:=by intro e;subst e;simp [isZ] at h1
  simp at hl
  subst hl
  simpa [Uh] using h2
theorem QuY{a d:List Nat}{n s va:Nat}(ha: ∀x∈a,x<BS)(hl:a.length=n)(hva:val a=va)(hd:val d=va*2^s)(hs:s≤31):val d<BS^ (n+1):=by
 have h1:=QaU a ha
 rw[hl,hva] at h1
 have h2:(2:Nat)^s≤2147483648:=UN (by decide) hs
 have h3:va*2^s≤va*2147483648:=Uf _ h2
 have h4:BS^ (n+1)=BS^n*4294967296:=WC _ _
 omega
theorem QwN{d:List Nat}{n:Nat}(hl:d.length=n)(hn:0<n):BS^ (n -1)*d.getD (n -1) 0≤val d:=by
 have e1:=YZ d (k:=n -1) (by omega)
 have e2:=Qbu (a:=d) (k:=n) hn (by omega)
 rw[e2,Ut] at e1
 omega
theorem Qhc{D:List Nat}{j m i:Nat}(h:i<m):((D.drop j).take m).getD i 0=D.getD (j+i) 0:=by
 simp [Uh,WA,h,UU]
theorem QmF{L:List Nat}{m r:Nat}:(Uc m 0++(r::L)).getD m 0=r:=by
 simp only[Uh]
 rw[UD (by simp)]
 simp
theorem Qhu{d:List Nat}{k:Nat}(h: ∀x∈d,x<BS):val (d.take k)<BS^k:=by
 have h1:=QaU (d.take k) fun x hx=>h x (UJ hx)
 exact UM h1 (UN (by decide) (by simp;omega))
end Go.Gx
namespace Go.Gx
theorem Qr0{D Z:List Nat}{j:Nat}(h:j≤D.length):(D.take j++Z).drop j=Z:=by
 rw[WF (by simp;omega),Us (by simp;omega)];rfl
theorem Qqg{D Z:List Nat}{j:Nat}(h:j≤D.length):(D.take j++Z).take j=D.take j:=by
 rw[UI (by simp;omega),List.take_take,Nat.min_self]
theorem QlE{r b:List Nat}{nr nb:Nat}(cn:Canon isZ r)(hlt:val r<val b)(hb: ∀d∈b,d<BS)(lb:b.length=nb)(lr:r.length=nr):nr≤nb:=by
 rw[←lr]
 have h:=QaU b hb
 rw[lb] at h
 exact YA cn (by omega)
end Go.Gx
namespace Go.Gx
theorem Qp2{L:List Nat}{m r x:Nat}:(Uc m 0++(x::L)).set m r=Uc m 0++(r::L):=by
 rw[US _ _ (by simp)]
 simp
end Go.Gx
namespace Go.Gx
theorem Qmd{x y q r G:Nat}(h:UK x y=G)(e:x=y*q+r)(hr:r<y):UK y r=G:=by
 have h1:x % y=r:=by rw[e,Qzv,UQ hr]
 rw[←h,QyU x y,Qzo y x,h1,QyU]
theorem QiR{x y G:Nat}(h:UK x y=G)(hy:y=0):x=G:=by subst hy;simpa using h
theorem Qup{m n G:Nat}(h:UK m n=G):UK n (m % n)=G:=by rw[←h,QyU m n,Qzo n m,QyU]
theorem QjL{d:List Nat}{n:Nat}(hc:Canon isZ d)(hl:d.length=n)(hn:n≠0):0<val d:=Qqm hc (by intro e;subst e;simp at hl;omega)
theorem QuQ{g g':Bool}{a b q:List Nat}{r:Nat}(he:val a=val b*val q+r)(hr:r<val b):Xx (g !=g') q=(Xx g a).tdiv (Xx g' b):=by
 have hq:val q=val a/val b:=by
  rw[he,Nat.mul_add_div (by omega),Qy6 hr];omega
 cases g<;>cases g'<;>simp [Xx,hq,QzA,Int.neg_tdiv,Int.tdiv_neg]
theorem QuS{g g':Bool}{a b d:List Nat}{q:Nat}(he:val a=val b*q+val d)(hr:val d<val b):Xx g d=(Xx g a).tmod (Xx g' b):=by
 have hq:val d=val a % val b:=by rw[he,Qzv,UQ hr]
 have h0:((val a:Int)).tmod (val b:Int)=(val a:Int) % (val b:Int):=Int.tmod_eq_emod_of_nonneg (by omega)
 cases g<;>cases g'<;>simp [Xx,hq,Int.neg_tmod,Int.tmod_neg,h0]
end Go.Gx

namespace Go.Gx
def Qct(z:Int)(v:Nat):Int:=if v=0 then 0 else z
def QaY(v:Nat):Nat:=if v=0 then 1 else v
variable{G d n q z zd zd' zn zn':Int}{a b v:Nat}
theorem ZJ(v:Nat):0<QaY v:=by unfold QaY;split<;>omega
theorem ZZ(h:0<v):QaY v=v:=by unfold QaY;rw[if_neg (by omega)]
theorem ZN(h:0<v):Qct z v=z:=by unfold Qct;rw[if_neg (by omega)]
theorem QmQ(h:G∣z)(hq:q=z.tdiv G):z=G*q:=by rw[hq];exact(Int.mul_tdiv_cancel' h).symm
theorem QlB(ha:a=zn.natAbs)(hb:b=zd.natAbs)(hG:G=(UK a b:Int))(hd:0<zd)(en:n=zn.tdiv G)(ed:d=zd.tdiv G):
  n*zd=zn*d∧0<d∧UK n.natAbs d.natAbs=1:=by
 subst ha hb
 have hgp:0<UK zn.natAbs zd.natAbs:=Nat.gcd_pos_of_pos_right _ (by omega)
 have d1:G∣zn:=by rw[hG];exact Int.ofNat_dvd_left.2 (Nat.gcd_dvd_left _ _)
 have d2:G∣zd:=by rw[hG];exact Int.ofNat_dvd_left.2 (Nat.gcd_dvd_right _ _)
 have h1:=QmQ d1 en
 have h2:=QmQ d2 ed
 have hG0:0<G:=by rw[hG];omega
 have hd0:0<d:=by
  rcases Qy0 d 0 with h|h|h
  ·have :=Int.mul_neg_of_pos_of_neg hG0 h;omega
  ·rw[h] at h2;omega
  ·exact h
 refine⟨?_,hd0,?_⟩
 ·rw[h1,h2,←Int.mul_assoc,WW n G]
 ·have e1:zn.natAbs=UK zn.natAbs zd.natAbs*n.natAbs:=by
   have :=congrArg Int.natAbs h1
   rw[UW,hG] at this
   simpa using this
  have e2:zd.natAbs=UK zn.natAbs zd.natAbs*d.natAbs:=by
   have :=congrArg Int.natAbs h2
   rw[UW,hG] at this
   simpa using this
  have e3:UK (UK zn.natAbs zd.natAbs*n.natAbs) (UK zn.natAbs zd.natAbs*d.natAbs)=UK zn.natAbs zd.natAbs*UK n.natAbs d.natAbs:=Nat.gcd_mul_left _ _ _
  rw[←e1,←e2] at e3
  exact Nat.eq_of_mul_eq_mul_left hgp (by rw[←e3,Wt])
theorem Qki(h:n*zd'=zn'*(v:Int))(hs:(zn'=zn∧zd'=zd)∨(zn'= -zn∧zd'= -zd)):n*zd=zn*(v:Int):=by
 rcases hs with⟨h1,h2⟩| ⟨h1,h2⟩
 ·rw[←h1,←h2];exact h
 ·rw[h1,h2,Int.mul_neg,Int.neg_mul] at h;omega
end Go.Gx

namespace Go.Gx
open Go.RowKit
variable{dfs:List Deferred}
structure RI where
 neg:Bool
 A:Option Addr
 n:Nat
 c:Nat
 d:List Nat
def RI.cells(r:RI):List Value:=[.bool r.neg,.slice r.A r.n r.c]
def RI.z(r:RI):Int:=Xx r.neg r.d
def RI.zero:RI:=⟨false,none,0,0,[]⟩
def RI.isZ(r:RI):Bool:=decide (r.z=0)
def Ye(l:List RI):List Value:=l.flatMap RI.cells
abbrev zs(l:List RI):List Int:=l.map RI.z
abbrev co(f:List Int)(i:Nat):Int:=f.getD i 0
def Qa6(x:Int):Bool:=decide (x=0)
abbrev Xi(l:List Int):List Int:=trimB Qa6 l
theorem Yo(l:List RI):(Ye l).length=l.length*2:=by
 induction l with
 |nil=>rfl
 |cons r l ih=>simp only[Ye,List.flatMap_cons,UO,Um] at ih⊢;rw[ih];simp [RI.cells];omega
theorem Qiv(a b:List RI):Ye (a++b)=Ye a++Ye b:=by simp [Ye]
theorem QbI(r:RI)(l:List RI):Ye (r::l)= .bool r.neg:: .slice r.A r.n r.c::Ye l:=by simp [Ye,RI.cells]
theorem QgF(l:List RI): ∀k,Ye (l.take k)=(Ye l).take (k*2):=by
 induction l with
 |nil=>intro k;simp [Ye]
 |cons r l ih=>
  intro k
  cases k with
  |zero=>simp [Ye]
  |succ k=>rw[List.take_succ_cons,QbI,QbI,ih,show(k+1)*2=k*2+1+1 by omega];simp
theorem Qk6(l:List RI): ∀k,Ye (l.drop k)=(Ye l).drop (k*2):=by
 induction l with
 |nil=>intro k;simp [Ye]
 |cons r l ih=>
  intro k
  cases k with
  |zero=>simp [Ye]
  |succ k=>rw[List.drop_succ_cons,QbI,ih,show(k+1)*2=k*2+1+1 by omega];simp
theorem Qfm{l:List RI}: ∀{i:Nat}{r:RI},l[i]? =some r→(Ye l)[i*2]? =some (.bool r.neg)∧(Ye l)[i*2+1]? =some (.slice r.A r.n r.c):=by
 induction l with
 |nil=>intro i r h;simp at h
 |cons x l ih=>
  intro i r h
  rw[QbI]
  cases i with
  |zero=>simp at h;subst h;simp
  |succ i=>
   simp at h
   have :=ih h
   rw[show(i+1)*2=i*2+1+1 by omega]
   simpa using this
theorem YD{l:List RI}{i:Nat}(r:RI)(hi:i<l.length):(Ye l).take (i*2)++[.bool r.neg,.slice r.A r.n r.c]++(Ye l).drop (i*2+2)=Ye (l.set i r):=by
 rw[show i*2+2=(i+1)*2 by omega,←QgF,←Qk6,List.set_eq_take_append_cons_drop,if_pos hi,Qiv,QbI]
 simp
def YC(w:World)(S:Nat→Prop)(M:Nat)(l:List RI):Prop:= ∀r∈l,Xn w S r.A r.n r.c r.d∧r.n≤M
section alln
variable{w w':World}{S S' G:Nat→Prop}{M M':Nat}{l l':List RI}
theorem YC.frmB(h:YC w S M l)(f:Frm G w w')(hd: ∀b,b<w.heap.size→S b→ ¬G b):YC w' S M l:=fun r hr=>⟨(h r hr).1.frmB f hd,(h r hr).2⟩
theorem YC.ext(h:YC w S M l)(f:Ext w w'):YC w' S M l:=fun r hr=>⟨(h r hr).1.ext f,(h r hr).2⟩
theorem YC.sub(h:YC w S M l)(hs: ∀b,b<w.heap.size→S b→S' b):YC w S' M l:=fun r hr=>⟨(h r hr).1.sub hs,(h r hr).2⟩
theorem YC.le(h:YC w S M l)(hm:M≤M'):YC w S M' l:=fun r hr=>⟨(h r hr).1,Wj (h r hr).2 hm⟩
theorem YC.nil:YC w S M []:=fun r hr=>by cases hr
theorem YC.snoc{r:RI}(h:YC w S M l)(hn:Xn w S r.A r.n r.c r.d)(hm:r.n≤M):YC w S M (l++[r]):=fun x hx=>by
 rcases List.mem_append.1 hx with h1|h1
 ·exact h x h1
 ·simp at h1;subst h1;exact⟨hn,hm⟩
theorem YC.app(h:YC w S M l)(h':YC w S M l'):YC w S M (l++l'):=fun x hx=>by
 rcases List.mem_append.1 hx with h1|h1
 ·exact h x h1
 ·exact h' x h1
theorem YC.zeros(m:Nat):YC w S M (Uc m RI.zero):=fun x hx=>by
 have :=Uu hx;subst this;exact⟨Xn.nil,Qyr _⟩
theorem YC.set{r:RI}{i:Nat}(h:YC w S M l)(hn:Xn w S r.A r.n r.c r.d)(hm:r.n≤M):YC w S M (l.set i r):=fun x hx=>by
 rcases Wi hx with h1|h1
 ·exact h x h1
 ·subst h1;exact⟨hn,hm⟩
theorem YC.take(h:YC w S M l)(k:Nat):YC w S M (l.take k):=fun x hx=>h x (UJ hx)
end alln
def Xh(w:World)(S:Nat→Prop)(A:Option Addr)(n c:Nat)(l:List RI)(M:Nat):Prop:=Rd w S A n c 2 (Ye l)∧YC w S M l
section polyr
variable{w w':World}{S S' G:Nat→Prop}{A:Option Addr}{n c M M':Nat}{l:List RI}
theorem Xh.frmB(h:Xh w S A n c l M)(f:Frm G w w')(hd: ∀b,b<w.heap.size→S b→ ¬G b):Xh w' S A n c l M:=⟨h.1.frmB f hd,h.2.frmB f hd⟩
theorem Xh.ext(h:Xh w S A n c l M)(f:Ext w w'):Xh w' S A n c l M:=⟨h.1.ext f,h.2.ext f⟩
theorem Xh.sub(h:Xh w S A n c l M)(hs: ∀b,b<w.heap.size→S b→S' b):Xh w S' A n c l M:=⟨h.1.sub hs,h.2.sub hs⟩
theorem Xh.low(h:Xh w S A n c l M):Xh w (· <w.heap.size) A n c l M:=h.sub fun _ hb _=>hb
theorem Xh.le(h:Xh w S A n c l M)(hm:M≤M'):Xh w S A n c l M':=⟨h.1,h.2.le hm⟩
theorem Xh.nil:Xh w S none 0 0 [] M:=⟨Rd.nil,YC.nil⟩
theorem Xh.len(h:Xh w S A n c l M):l.length=n:=by have :=h.1.1;rw[Yo] at this;omega
theorem Xh.cap(h:Xh w S A n c l M):n≤c:=h.1.2.1
theorem Xh.max(h:Xh w S A n c l M):c≤9223372036854775807:=h.1.2.2.1
theorem Xh.lkm(h:Xh w S A n c l M):l.length=n∧n≤c∧c≤9223372036854775807:=⟨h.len,h.cap,h.max⟩
theorem Xh.base(h:Xh w S A n c l M)(hn:0<n): ∃b off,A=some ⟨b,off,none⟩:=h.1.base hn
theorem Xh.take{m:Nat}(h:Xh w S A n c l M)(hm:m≤n):Xh w S A m c (l.take m) M:=by
 refine⟨?_,h.2.take m⟩
 have :=h.1.take hm
 rw[←QgF] at this
 exact this
theorem Xh.at_{b off i:Nat}(h:Xh w S (some ⟨b,off,none⟩) n c l M)(hi:i<n):
  ∃neg A' n' c' d',l[i]? =some ⟨neg,A',n',c',d'⟩∧w.cell? ⟨b,off+i*2,none⟩=some (.bool neg)∧w.cell? ⟨b,off+i*2+1,none⟩=some (.slice A' n' c')∧Xn w S A' n' c' d'∧n'≤M∧S b∧b<w.heap.size∧Xx neg d'=co (zs l) i:=by
 have hl:i<l.length:=by rw[h.len];exact hi
 obtain⟨r,hr⟩: ∃r,l[i]? =some r:=⟨_,Ud hl⟩
 obtain⟨neg,A',n',c',d'⟩:=r
 have hc:=Qfm hr
 have hm:=h.2 _ (Ub hr)
 obtain⟨b',off',e,hS,hb,_⟩:=h.1.2.2.2 (by omega)
 injection e with e
 injection e with e1 e2
 subst e1 e2
 refine⟨neg,A',n',c',d',hr,h.1.cell hc.1,h.1.cell hc.2,hm.1,hm.2,hS,hb,?_⟩
 simp [Uh,Un,hr,RI.z]
theorem Xh.of_blk{g:Nat}{t:TypeId}(h:Blk w g t (Ye l))(ha:YC w S M l)(hS:S g)(hl:l.length=n)(hc:n≤c)(hm:c≤Yc):Xh w S (some ⟨g,0,none⟩) n c l M:=
 ⟨Rd.of_blk h hS (by rw[Yo,hl]) hc hm,ha⟩
end polyr
theorem Qcj{w:World}{b p:Nat}{v0 v1:Value}(h0:w.cell? ⟨b,p,none⟩=some v0)(h1:w.cell? ⟨b,p+1,none⟩=some v1): ∀(j:Nat) v,[v0,v1][j]? =some v→w.cell? ((⟨b,p,none⟩:Addr).add j)=some v:=by
 intro j v hj
 rw[addr_add]
 match j,hj with
 |0,hj=>simp at hj;subst hj;exact h0
 |1,hj=>simp at hj;subst hj;exact h1
 |j+2,hj=>simp at hj
theorem QdZ{G:Nat→Prop}{w w':World}{b p:Nat}{v0 v1:Value}(h0:w.cell? ⟨b,p,none⟩=some v0)(h1:w.cell? ⟨b,p+1,none⟩=some v1)(f:Frm G w w')(hb:b<w.heap.size)(hg: ¬G b):
  ∀(j:Nat) v,[v0,v1][j]? =some v→w'.cell? ((⟨b,p,none⟩:Addr).add j)=some v:=
 Qcj ((f.cell (p:=⟨b,p,none⟩) hb hg).trans h0) ((f.cell (p:=⟨b,p+1,none⟩) hb hg).trans h1)
theorem Blk.int{w:World}{g:Nat}{t:TypeId}{l:List RI}{i:Nat}(h:Blk w g t (Ye l))(hi:i<l.length): ∃neg A' n' c' d',l[i]? =some ⟨neg,A',n',c',d'⟩∧w.cell? ⟨g,i*2,none⟩=some (.bool neg)∧w.cell? ⟨g,i*2+1,none⟩=some (.slice A' n' c')∧Xx neg d'=co (zs l) i:=by
 obtain⟨r,hr⟩: ∃r,l[i]? =some r:=⟨_,Ud hi⟩
 obtain⟨neg,A',n',c',d'⟩:=r
 have hc:=Qfm hr
 exact⟨neg,A',n',c',d',hr,h.at_ hc.1,h.at_ hc.2,by simp [Uh,Un,hr,RI.z]⟩
theorem Qpu(m:Nat):(madeCells (Value.agg #[.bool false,.slice none 0 0]).cells (m*2)).toList=Ye (Uc m RI.zero):=by
 have hl:(Ye (Uc m RI.zero)).length=m*2:=by rw[Yo];simp
 apply Qyf
 ·simp [madeCells,hl]
 ·intro i h1 h2
  rw[hl] at h2
  have e:(Uc m RI.zero)[i/2]? =some RI.zero:=by
   rw[List.getElem?_replicate,if_pos (by omega)]
  have hg:=Qfm e
  simp only[madeCells,Value.cells]
  rcases Nat.mod_two_eq_zero_or_one i with h0|h0
  ·have :i/2*2=i:=by omega
   rw[this] at hg
   have h3:=hg.1
   rw[Ud (by omega)] at h3
   injection h3 with h3
   rw[h3]
   simp [h0,RI.zero]
  ·have :i/2*2+1=i:=by omega
   rw[this] at hg
   have h3:=hg.2
   rw[Ud (by omega)] at h3
   injection h3 with h3
   rw[h3]
   simp [h0,RI.zero]
section
variable{P:Program}{n:Nat}{e:Nat→Value}{w:World}{K:Act→World→Prop}{Q:Exit→Act→World→Prop}{ty:TypeId}{pos:String}{af:Array Edge}{gd:Option (Nat×Bool)}
theorem Qea{d:Nat}{t el:TypeId}{l c:Operand}{k1 k2:IntKind}{bytes:Nat}(m:Nat)(ht:P.underlying t=some (.slice el))
  (hi:(P.info? el).map (fun i=>(i.zero,i.size,i.bytes))=some (some (.agg #[.bool false,.slice none 0 0]),2,bytes))(hl:ev n e l= .int k1 (m:Int))(hc:ev n e c= .int k2 (m:Int))
  (hb:bytes*m≤281474976710656)(hm:m≤9223372036854775807)
  (k: ∀g w',g=w.heap.size→Ext w w'→w'.heap.size=g+1→Blk w' g el (Ye (Uc m RI.zero))→K (mkA dfs n (upd e d (.slice (some ⟨g,0,none⟩) m m))) w'):
  OpW P ⟨some d,.makeSlice t l c,ty,pos,af,gd⟩ (mkA dfs n e) w K Q:=by
 refine QuG m ht hi hl hc hb hm fun g w' h1 h2 h3 h4=>k g w' h1 h2 h3 ?_
 rw[Qpu] at h4
 exact h4
end
theorem QaH(l:List RI):zs (trimB RI.isZ l)=Xi (zs l):=by
 have h: ∀(m:Nat)(l:List RI),l.length=m→zs (trimB RI.isZ l)=Xi (zs l):=by
  intro m
  induction m with
  |zero=>intro l hl;simp [Ua hl,trimB]
  |succ m ih=>
   intro l hl
   rcases Yx l with h0| ⟨l',y,rfl⟩
   ·subst h0;simp at hl
   ·show _=trimB Qa6 ((l'++[y]).map RI.z)
    rw[Uo,Wk,QyE]
    cases hy:RI.isZ y with
    |true=>
     rw[YV _ _ _ hy,YV _ _ _ (by simpa [Qa6,RI.isZ] using hy)]
     exact ih l' (by simpa using hl)
    |false=>
     rw[Zj _ _ _ hy,Zj _ _ _ (by simpa [Qa6,RI.isZ] using hy)]
     simp
 exact h _ l rfl
theorem Qhv{l:List Int}{n:Nat}(h:l.length≤n): ∀j,n≤j→l.getD j 0=0:=by
 intro j hj;simp [Uh,Ul (by omega:l.length≤j)]
theorem QmS{l:List RI}{k:Nat}(hk:k≤l.length)(hz: ∀j,k≤j→(zs l).getD j 0=0)(hl:k=0∨(zs l).getD (k -1) 0≠0):l.take k=trimB RI.isZ l:=by
 refine(Qjs RI.isZ (l.length -k) l k (by omega) (fun j x hj hx=> ?_) ?_).symm
 ·have :=hz j hj;simp [Uh,Un,hx] at this;simp [RI.isZ,this]
 ·rcases Uk k with h0|h0
  ·exact .inl h0
  ·right
   rcases hl with hl|hl
   ·omega
   ·have hlt:k -1<l.length:=by omega
    refine⟨l[k-1],Ud hlt,?_⟩
    simp [Uh,Un,hlt] at hl
    simpa [RI.isZ] using hl
theorem QlN{l:List Int}{k:Nat}(h: ∀j,k≤j→l.getD j 0=0)(h1:l.getD (k -1) 0=0): ∀j,k -1≤j→l.getD j 0=0:=by
 intro j hj
 rcases Up j k with hl|hl
 ·have :j=k -1:=by omega
  subst this;exact h1
 ·exact h j hl
theorem Qe7{x s z:Int}(e:x=s.sign)(hs:s=z):(x=0↔z=0):=by
 subst hs
 rcases Yr s with h|h|h<;>omega
def QaW(w:World)(S:Nat→Prop)(A:Option Addr)(n c:Nat)(xs:List Int):Prop:=Rd w S A n c 1 (xs.map (Value.int .i64))∧ ∀x∈xs,-9223372036854775808≤x∧x≤9223372036854775807
section intsr
variable{w w':World}{S S' G:Nat→Prop}{A:Option Addr}{n c:Nat}{xs:List Int}
theorem QaW.frmB(h:QaW w S A n c xs)(f:Frm G w w')(hd: ∀b,b<w.heap.size→S b→ ¬G b):QaW w' S A n c xs:=⟨h.1.frmB f hd,h.2⟩
theorem QaW.low(h:QaW w S A n c xs):QaW w (· <w.heap.size) A n c xs:=⟨h.1.low,h.2⟩
theorem QaW.len(h:QaW w S A n c xs):xs.length=n:=by have :=h.1.1;simpa using this
theorem QaW.cap(h:QaW w S A n c xs):n≤c:=h.1.2.1
theorem QaW.max(h:QaW w S A n c xs):c≤9223372036854775807:=h.1.2.2.1
theorem QaW.lkm(h:QaW w S A n c xs):xs.length=n∧n≤c∧c≤9223372036854775807:=⟨h.len,h.cap,h.max⟩
theorem QaW.base(h:QaW w S A n c xs)(hn:0<n): ∃b off,A=some ⟨b,off,none⟩:=h.1.base hn
theorem QaW.rng(h:QaW w S A n c xs)(i:Nat): -9223372036854775808≤xs.getD i 0∧xs.getD i 0≤9223372036854775807:=by
 rcases Up i xs.length with hi|hi
 ·simp only[Uh,Ud hi,Qyg];exact h.2 _ (Wr hi)
 ·simp [Uh,Ul hi]
theorem QaW.cell{b off:Nat}(h:QaW w S (some ⟨b,off,none⟩) n c xs){i:Nat}(hi:i<n):w.cell? ⟨b,off+i,none⟩=some (.int .i64 (xs.getD i 0)):=by
 refine h.1.cell ?_
 have hl:i<xs.length:=by rw[h.len];exact hi
 simp [Un,Ud hl]
theorem QaW.of_blk{g:Nat}{t:TypeId}(h:Blk w g t (xs.map (Value.int .i64)))(hS:S g)(hd: ∀x∈xs,-9223372036854775808≤x∧x≤9223372036854775807)(hl:xs.length=n)(hc:n≤c)(hm:c≤Yc):QaW w S (some ⟨g,0,none⟩) n c xs:=
 ⟨Rd.of_blk h hS (by simpa using hl) hc hm,hd⟩
end intsr
theorem QhB(xs:List Int):(UV xs.length).map (fun i=>xs.getD i 0)=xs:=by
 apply Qyf
 ·simp
 ·intro i h1 h2;simp [Uh,h2]
end Go.Gx

namespace Go.Gx
def QaG(F:Nat→Int):Nat→Int
 |0=>0
 |n+1=>QaG F n+F n
theorem Qbe(F:Nat→Int)(n:Nat):QaG F (n+1)=QaG F n+F n:=rfl
theorem Zc{F G:Nat→Int}: ∀{n:Nat},(∀i,i<n→F i=G i)→QaG F n=QaG G n
 |0,_=>rfl
 |n+1,h=>by rw[QaG,QaG,Zc fun i hi=>h i (by omega),h n (by omega)]
theorem QaC{F:Nat→Int}{n:Nat}(h: ∀i,i<n→F i=0):QaG F n=0:=by
 induction n with
 |zero=>rfl
 |succ n ih=>rw[QaG,ih fun i hi=>h i (by omega),h n (by omega)];rfl
theorem Qhj{F:Nat→Int}{n m:Nat}(hm:n≤m)(h: ∀i,n≤i→i<m→F i=0):QaG F m=QaG F n:=by
 induction m with
 |zero=>
  have :n=0:=by omega
  subst this;rfl
 |succ m ih=>
  rcases Up n (m+1) with h1|h1
  ·rw[QaG,ih (by omega) fun i h2 h3=>h i h2 (by omega),h m (by omega) (by omega)];omega
  ·have :n=m+1:=by omega
   subst this;rfl
theorem QmH(F G:Nat→Int)(n:Nat):QaG (fun i=>F i+G i) n=QaG F n+QaG G n:=by
 induction n with
 |zero=>rfl
 |succ n ih=>simp only[QaG,ih];omega
theorem QrN(c:Int)(F:Nat→Int)(n:Nat):QaG (fun i=>c*F i) n=c*QaG F n:=by
 induction n with
 |zero=>simp [QaG]
 |succ n ih=>simp only[QaG,ih,Int.mul_add]
theorem Qnw(c:Int)(F:Nat→Int)(n:Nat):QaG (fun i=>F i*c) n=QaG F n*c:=by
 induction n with
 |zero=>simp [QaG]
 |succ n ih=>simp only[QaG,ih,Int.add_mul]
theorem QkF(F:Nat→Int)(n:Nat):QaG F (n+1)=F 0+QaG (fun i=>F (i+1)) n:=by
 induction n with
 |zero=>simp [QaG]
 |succ n ih=>rw[QaG,ih,QaG];omega
theorem QmI(F:Nat→Int): ∀(n:Nat),QaG F n=QaG (fun i=>F (n -1 -i)) n
 |0=>rfl
 |n+1=>by
  rw[QkF fun i=>F (n+1 -1 -i),QaG,QmI F n]
  simp only[Wn,Nat.sub_zero]
  rw[Zc (G:=fun i=>F (n -(i+1))) fun i hi=>by congr 1;omega]
  omega
theorem Qb9{f:List Int}{i:Nat}(h:f.length≤i):co f i=0:=Qhv (Ug _) i h
def Qbt(f g:Nat→Int)(k:Nat):Int:=QaG (fun i=>f i*g (k -i)) (k+1)
abbrev conv(f g:List Int)(k:Nat):Int:=Qbt (co f) (co g) k
def QrC(f g:List Int):List Int:=(UV (max f.length g.length)).map fun i=>co f i+co g i
def Qfx(f g:List Int):List Int:=(UV (max f.length g.length)).map fun i=>co f i -co g i
def ZR(f g:List Int):List Int:=if f.length=0∨g.length=0 then [] else(UV (f.length+g.length -1)).map fun k=>conv f g k
theorem QbX{F:Nat→Int}{n i:Nat}:co ((UV n).map F) i=if i<n then F i else 0:=by
 simp only[co,Uh,Un,List.getElem?_range']
 by_cases h:i<n
 ·rw[List.getElem?_range h];simp [h]
 ·rw[Ul (by simp;omega)];simp [h]
theorem Qca(f g:List Int)(i:Nat):co (QrC f g) i=co f i+co g i:=by
 rw[QrC,QbX]
 split
 ·rfl
 ·rw[Qb9 (f:=f) (by omega),Qb9 (f:=g) (by omega)];rfl
theorem Qk9(f g:List Int)(i:Nat):co (Qfx f g) i=co f i -co g i:=by
 rw[Qfx,QbX]
 split
 ·rfl
 ·rw[Qb9 (f:=f) (by omega),Qb9 (f:=g) (by omega)];rfl
theorem QqL{f g:List Int}{k:Nat}(h:f.length+g.length≤k+1)(h0:f.length≠0∨g.length≠0∨True):conv f g k=0:=by
 refine QaC fun i hi=> ?_
 rcases Up i f.length with h1|h1
 ·rw[Qb9 (f:=g) (i:=k -i) (by omega),WH]
 ·rw[Qb9 h1,Qyi]
theorem YG(f g:List Int)(k:Nat):co (ZR f g) k=conv f g k:=by
 unfold ZR
 split
 ·rename_i h
  rcases h with h|h
  ·have :f=[]:=Ua h
   subst this
   refine(QaC fun i _=> ?_).symm
   simp
  ·have :g=[]:=Ua h
   subst this
   refine(QaC fun i _=> ?_).symm
   simp
 ·rename_i h
  rw[QbX]
  split
  ·rfl
  ·exact(QqL (by omega) (.inr (.inr trivial))).symm
theorem YP(f:List Int)(i:Nat):co (Xi f) i=co f i:=by
 have h: ∀(m:Nat)(f:List Int),f.length=m→ ∀i,co (Xi f) i=co f i:=by
  intro m
  induction m with
  |zero=>intro l hl i;simp [Ua hl,trimB]
  |succ m ih=>
   intro l hl i
   rcases Yx l with h0| ⟨l',y,rfl⟩
   ·subst h0;simp at hl
   ·cases hy:Qa6 y with
    |true=>
     show co (trimB Qa6 _) i=_
     rw[YV _ _ _ hy]
     have h1:=ih l' (by simpa using hl) i
     rw[show co (trimB Qa6 l') i=co l' i from h1]
     have :y=0:=by simpa [Qa6] using hy
     subst this
     simp only[co,Uh]
     rcases Qy1 i l'.length with h2|h2|h2
     ·rw[UR h2]
     ·subst h2;simp
     ·rw[Ul (by omega),Ul (by simp;omega)]
    |false=>
     show co (trimB Qa6 _) i=_
     rw[Zj _ _ _ hy]
 exact h _ f rfl i
theorem Qss{f g:List Int}(hf:Canon Qa6 f)(hg:Canon Qa6 g)(h: ∀i,co f i=co g i):f=g:=by
 have key: ∀{f g:List Int},Canon Qa6 f→(∀i,co f i=co g i)→f.length≤g.length:=by
  intro f g hf h
  rcases Yx f with h0| ⟨k,x,rfl⟩
  ·subst h0;simp
  ·have hx:Qa6 x=false:=Zs.1 hf
   have h1:=h k.length
   rcases Up k.length g.length with h2|h2
   ·simp;omega
   ·rw[Qb9 h2] at h1
    simp [co,Uh] at h1
    subst h1;simp [Qa6] at hx
 have hl:f.length=g.length:=Nat.le_antisymm (key hf h) (key hg fun i=>(h i).symm)
 apply Qyf hl
 intro i h1 h2
 have :=h i
 simpa [co,Uh,h1,h2] using this
theorem Qbz{f g:List Int}(h: ∀i,co f i=co g i):Xi f=Xi g:=
 Qss (XJ _ _) (XJ _ _) fun i=>by rw[YP,YP,h]
theorem QoM(f g:List Int)(k:Nat):conv (Xi f) (Xi g) k=conv f g k:=by
 refine Zc fun i _=> ?_
 rw[YP,YP]
theorem QrD{f g:List Int}(hf:f.length≠0)(hg:g.length≠0):(ZR f g).length=f.length+g.length -1:=by
 unfold ZR
 rw[if_neg (by omega)]
 simp
theorem Qnp{f g:List Int}(hf:Canon Qa6 f)(hg:Canon Qa6 g):Canon Qa6 (ZR f g):=by
 by_cases h0:f.length=0∨g.length=0
 ·unfold ZR;rw[if_pos h0];exact Qci _
 ·rcases Yx f with h1| ⟨f',x,rfl⟩
  ·subst h1;simp at h0
  ·rcases Yx g with h2| ⟨g',y,rfl⟩
   ·subst h2;simp at h0
   ·have hx:Qa6 x=false:=Zs.1 hf
    have hy:Qa6 y=false:=Zs.1 hg
    have hx':x≠0:=by simpa [Qa6] using hx
    have hy':y≠0:=by simpa [Qa6] using hy
    have hlen:(ZR (f'++[x]) (g'++[y])).length=f'.length+g'.length+1:=by rw[QrD (by simp) (by simp)];simp;omega
    rcases Yx (ZR (f'++[x]) (g'++[y])) with h3| ⟨p,z,h3⟩
    ·rw[h3] at hlen;simp at hlen
    ·rw[h3,Zs]
     have hp:p.length=f'.length+g'.length:=by rw[h3] at hlen;simpa using hlen
     have hz:z=conv (f'++[x]) (g'++[y]) (f'.length+g'.length):=by
      rw[←YG,h3]
      simp [co,Uh,←hp]
     have hc:conv (f'++[x]) (g'++[y]) (f'.length+g'.length)=x*y:=by
      unfold conv Qbt
      rw[Qhj (n:=f'.length+1) (by omega) fun i h4 h5=>by rw[Qb9 (by simp;omega),Qyi]]
      rw[QaG,QaC fun i hi=>by rw[Qb9 (f:=g'++[y]) (by simp;omega),WH]]
      simp [co,Uh]
     rw[hz,hc]
     simp [Qa6,hx',hy']
theorem Qrt(f g:List Int):ZR (Xi f) (Xi g)=Xi (ZR f g):=
 Qss (Qnp (XJ _ _) (XJ _ _)) (XJ _ _) fun i=>by rw[YG,QoM,YP,YG]
theorem Qm3(f g:Nat→Int)(k:Nat):Qbt f g k=Qbt g f k:=by
 unfold Qbt
 rw[QmI]
 refine Zc fun i hi=> ?_
 rw[show k+1 -1 -i=k -i by omega,show k -(k -i)=i by omega,WW]
theorem Qeo{f f' g g':Nat→Int}{k:Nat}(hf: ∀i,f i=f' i)(hg: ∀i,g i=g' i):Qbt f g k=Qbt f' g' k:=
 Zc fun i _=>by rw[hf,hg]
theorem tri(F:Nat→Nat→Int): ∀(k:Nat),QaG (fun i=>QaG (fun j=>F i j) (k -i+1)) (k+1)=QaG (fun s=>QaG (fun i=>F i (s -i)) (s+1)) (k+1)
 |0=>rfl
 |k+1=>by
  have e1:QaG (fun i=>QaG (fun j=>F i j) (k+1 -i+1)) (k+1+1)=QaG (fun i=>QaG (fun j=>F i j) (k -i+1)) (k+1)+QaG (fun i=>F i (k+1 -i)) (k+1+1):=by
   rw[Qbe _ (k+1),Qbe (fun i=>F i (k+1 -i)) (k+1)]
   rw[Zc (G:=fun i=>QaG (fun j=>F i j) (k -i+1)+F i (k+1 -i)) fun i hi=>by
    rw[show k+1 -i+1=(k -i+1)+1 by omega,Qbe,show k -i+1=k+1 -i by omega]]
   rw[QmH,WD]
   simp only[QaG]
   omega
  rw[e1,tri F k,←Qbe (fun s=>QaG (fun i=>F i (s -i)) (s+1)) (k+1)]
theorem Qla(f g h:Nat→Int)(k:Nat):Qbt f (fun i=>Qbt g h i) k=Qbt (fun i=>Qbt f g i) h k:=by
 have e1:Qbt f (fun i=>Qbt g h i) k=QaG (fun i=>QaG (fun j=>f i*(g j*h (k -i -j))) (k -i+1)) (k+1):=by
  unfold Qbt
  refine Zc fun i _=> ?_
  rw[←QrN]
 have e2:Qbt (fun i=>Qbt f g i) h k=QaG (fun s=>QaG (fun i=>f i*(g (s -i)*h (k -s))) (s+1)) (k+1):=by
  unfold Qbt
  refine Zc fun s _=> ?_
  rw[←Qnw]
  refine Zc fun i _=> ?_
  rw[Int.mul_assoc]
 rw[e1,tri fun i j=>f i*(g j*h (k -i -j)),e2]
 refine Zc fun s hs=>Zc fun i hi=> ?_
 rw[show k -i -(s -i)=k -s by omega]
theorem QaA{L:List RI}{m m' k:Nat}{r:RI}(hk:L.length=k)(hm:m=m'+1):(L++Uc m RI.zero).set k r=(L++[r])++Uc m' RI.zero:=by
 subst hk hm
 rw[Qyl]
 simp
theorem QxW{a b:Nat}:(if(b:Int)>(a:Int) then(b:Int) else(a:Int))=((max a b:Nat):Int):=by
 split<;>omega
theorem QeE{L:List RI}{k:Nat}{F:Nat→Int}{r:RI}(h:zs L=(UV k).map F)(hr:r.z=F k):zs (L++[r])=(UV (k+1)).map F:=by
 show(L++[r]).map RI.z=_
 rw[Uo,List.range_succ,Uo,show L.map RI.z=_ from h]
 simp [hr]
theorem QxJ{x y a b:Int}(h:x=a)(h':y=b):x+y=a+b:=by rw[h,h']
theorem Qw0{x y a b:Int}(h:x=a)(h':y=b):x -y=a -b:=by rw[h,h']
theorem QxK{x y a b:Int}(h:x=a)(h':y=b):x*y=a*b:=by rw[h,h']
end Go.Gx
namespace Go.Gx
theorem Qt5{f g:List Int}{k i:Nat}(hi:i=k+1 -g.length):(0:Int)=QaG (fun t=>co f t*co g (k -t)) i:=
 (QaC fun t ht=>by rw[Qb9 (f:=g) (i:=k -t) (by omega),WH]).symm
theorem QqM{f g:List Int}{k i:Nat}{x:Int}(h:x=QaG (fun t=>co f t*co g (k -t)) i)(hi:i≤k+1)(hx: ¬((i:Int)≤((min k (f.length -1):Nat):Int))):x=conv f g k:=by
 rw[h]
 refine(Qhj hi fun t h1 h2=> ?_).symm
 rw[Qb9 (f:=f) (by omega),Qyi]
theorem QrE{f g:List Int}(hf:f.length≠0)(hg:g.length≠0){N:Nat}(hN:N=f.length+g.length -1):(UV N).map (fun k=>conv f g k)=ZR f g:=by
 subst hN
 unfold ZR
 rw[if_neg (by omega)]
theorem Za(l:List RI):(zs l).length=l.length:=by simp
end Go.Gx
namespace Go.Gx
end Go.Gx
namespace Go.Gx
theorem Qa3{f f' g g':List Int}{k:Nat}(hf: ∀i,co f i=co f' i)(hg: ∀i,co g i=co g' i):conv f g k=conv f' g' k:=Qeo hf hg
end Go.Gx
namespace Go.Gx
def ZB(l:List RI):Prop:= ∀r∈l,Qay r.neg r.d
theorem Qay.zero:Qay false []:=⟨Qci _,fun h=>by cases h⟩
theorem ZB.nil:ZB []:=fun r hr=>by cases hr
theorem ZB.snoc{l:List RI}{r:RI}(h:ZB l)(hr:Qay r.neg r.d):ZB (l++[r]):=fun x hx=>by
 rcases List.mem_append.1 hx with h1|h1
 ·exact h x h1
 ·simp at h1;subst h1;exact hr
theorem ZB.app{l l':List RI}(h:ZB l)(h':ZB l'):ZB (l++l'):=fun x hx=>by
 rcases List.mem_append.1 hx with h1|h1
 ·exact h x h1
 ·exact h' x h1
theorem ZB.zeros(m:Nat):ZB (Uc m RI.zero):=fun x hx=>by
 have :=Uu hx;subst this;exact Qay.zero
theorem ZB.trim{l:List RI}(h:ZB l):ZB (trimB RI.isZ l):=fun x hx=>h x (Qfb _ _ hx)
theorem ZB.set{l:List RI}{i:Nat}{r:RI}(h:ZB l)(hr:Qay r.neg r.d):ZB (l.set i r):=fun x hx=>by
 rcases Wi hx with h1|h1
 ·exact h x h1
 ·subst h1;exact hr
end Go.Gx

namespace Go.Gx
theorem Qhk{F:Nat→Int}{n j:Nat}(hj:j<n)(h: ∀i,i<n→i≠j→F i=0):QaG F n=F j:=by
 induction n with
 |zero=>omega
 |succ n ih=>
  rw[Qbe]
  by_cases e:n=j
  ·subst e
   rw[QaC fun i hi=>h i (by omega) (by omega)];omega
  ·rw[ih (by omega) fun i hi hne=>h i (by omega) hne,h n (by omega) e];omega
def Zh(f:List Int)(c:Int):List Int:=f.map (· *c)
def YI(f:List Int):List Int:=(UV (f.length -1)).map fun i=>co f (i+1)*((i+1:Nat):Int)
theorem ZO(f:List Int)(c:Int)(i:Nat):co (Zh f c) i=co f i*c:=by
 simp only[co,Zh,Uh,Un]
 cases f[i]? <;>simp
theorem QeK(f:List Int)(i:Nat):co (YI f) i=co f (i+1)*((i+1:Nat):Int):=by
 unfold YI
 rw[QbX]
 split
 ·rfl
 ·rw[Qb9 (f:=f) (i:=i+1) (by omega)];simp
theorem Qnx(f:List Int)(c:Int):(Zh f c).length=f.length:=by simp [Zh]
theorem Qbf(f:List Int):(Xi f).length≤f.length:=Qdz Qa6 f
def QdJ(g:List Int):Nat→List Int
 |0=>[1]
 |k+1=>ZR (QdJ g k) g
theorem QeL(f g:List Int)(k:Nat):conv f g k=conv g f k:=Qm3 _ _ k
theorem Qfw{g g':List Int}(hg: ∀i,co g i=co g' i): ∀(k i:Nat),co (QdJ g k) i=co (QdJ g' k) i:=by
 intro k
 induction k with
 |zero=>intro i;rfl
 |succ k ih=>intro i;show co (ZR _ _) i=co (ZR _ _) i;rw[YG,YG];exact Qa3 ih hg
theorem Qdh(f g h:List Int)(i:Nat):conv (ZR f g) h i=conv f (ZR g h) i:=by
 show Qbt (co (ZR f g)) (co h) i=Qbt (co f) (co (ZR g h)) i
 rw[Qeo (f:=co (ZR f g)) (f':=fun j=>conv f g j) (g':=co h) (fun j=>YG f g j) fun _=>rfl,Qeo (f':=co f) (g:=co (ZR g h)) (g':=fun j=>conv g h j) (fun _=>rfl) fun j=>YG g h j]
 exact(Qla _ _ _ i).symm
theorem QpP(g:List Int): ∀(k i:Nat),co (ZR g (QdJ g k)) i=co (QdJ g (k+1)) i:=fun k i=>by
 show _=co (ZR (QdJ g k) g) i
 rw[YG,YG,QeL]
theorem Qlv(g:List Int): ∀(m i:Nat),co (QdJ (ZR g g) m) i=co (QdJ g (2*m)) i
 |0,i=>rfl
 |m+1,i=>by
  show co (ZR (QdJ (ZR g g) m) (ZR g g)) i=co (ZR (ZR (QdJ g (2*m)) g) g) i
  rw[YG,YG,Qa3 (f':=QdJ g (2*m)) (g':=ZR g g) (Qlv g m) fun _=>rfl,Qdh]
theorem pow_odd{R S:List Int}{m:Nat}(i:Nat):co (ZR (ZR R S) (QdJ S (2*m))) i=co (ZR R (QdJ S (2*m+1))) i:=by
 rw[YG,YG,Qdh]
 exact Qa3 (fun _=>rfl) (fun j=>QpP S (2*m) j)
end Go.Gx
namespace Go.Gx
def coI(f:List Int)(i:Int):Int:=if i<0 then 0 else co f i.toNat
theorem QgG(f:List Int)(k:Nat):coI f (k:Int)=co f k:=by simp only[coI];rw[if_neg (by omega),QyG]
theorem QvV{f:List Int}{i:Int}(h:0≤i):co f i.toNat=coI f i:=by simp only[coI];rw[if_neg (by omega)]
theorem Qk7{f:List Int}{i:Int}(h:i<0∨(f.length:Int)≤i):(0:Int)=coI f i:=by
 simp only[coI]
 split
 ·rfl
 ·exact(Qb9 (by omega)).symm
end Go.Gx
namespace Go.Gx
theorem Qbs{f:List Int}(h:f.length=0∨co f (f.length -1)≠0):Canon Qa6 f:=by
 rcases Yx f with h0| ⟨k,x,rfl⟩
 ·subst h0;rfl
 ·refine Zs.2 ?_
  rcases h with h|h
  ·simp at h
  ·have e:co (k++[x]) ((k++[x]).length -1)=x:=by simp [co,Uh]
   rw[e] at h
   simpa [Qa6] using h
theorem Qap{f:List Int}(h:Canon Qa6 f)(hl:f.length≠0):co f (f.length -1)≠0:=by
 rcases Yx f with h0| ⟨k,x,rfl⟩
 ·subst h0;simp at hl
 ·have e:co (k++[x]) ((k++[x]).length -1)=x:=by simp [co,Uh]
  rw[e]
  have :=Zs.1 h
  simpa [Qa6] using this
theorem Qfo(f:List Int):(YI f).length=f.length -1:=by simp [YI]
theorem QjV{f:List Int}(h:Canon Qa6 f):Canon Qa6 (YI f):=by
 refine Qbs ?_
 rw[Qfo]
 by_cases h1:f.length -1=0
 ·exact .inl h1
 ·right
  have h2:=Qap h (by omega)
  rw[QeK,show f.length -1 -1+1=f.length -1 by omega]
  exact UE h2 (by omega)
theorem Qh2(f:List Int):YI (Xi f)=Xi (YI f):=by
 have h:=QjV (XJ Qa6 f)
 rw[← (h:Xi _=_)]
 refine Qbz fun i=> ?_
 rw[QeK,QeK,YP]
theorem QiZ{l:List RI}{L:List RI}{k:Nat}{h:Int→Int}{r:RI}(hz:zs L=((zs l).take k).map h)(hk:k<l.length)(hr:r.z=h (co (zs l) k)):zs (L++[r])=((zs l).take (k+1)).map h:=by
 rw[Qys (by simpa using hk),Uo,←hz]
 simp [hr,co,Uh,hk]
theorem Qlk{l:List RI}{L:List RI}{k m:Nat}{h:Int→Int}(hz:zs L=((zs l).take k).map h)(hk:l.length≤k)(hm:m=0):zs (L++Uc m RI.zero)=(zs l).map h:=by
 subst hm;rw[Wh,Wg,hz,Ui (by simpa using hk)]
theorem Qny(f:List Int)(c:Int):f.map (fun x=>c*x)=Zh f c:=by
 unfold Zh;refine Qze fun x _=>WW _ _
theorem Qux(f:List Int):f.map (fun x=>x)=f:=by simp
theorem Qkm(f:List Int):f.map (fun x=> -x)=Zh f (-1):=by unfold Zh;refine Qze fun x _=>by omega
theorem QeY(R:List Int)(i:Nat):conv R [1] i=co R i:=by
 rw[QeL]
 unfold conv Qbt
 rw[Qhk (j:=0) (by omega) (fun t _ hne=>by
  have :co [1] t=0:=Qb9 (by simp;omega)
  rw[this];simp)]
 simp [co]
theorem QrF(F:List Int)(N:Nat):Xi (ZR (Xi [1]) (QdJ (Xi F) N))=Xi (QdJ F N):=by
 refine Qbz fun i=> ?_
 rw[YG,QeL,Qa3 (f':=QdJ F N) (g':=[1]) (Qfw (fun j=>YP _ j) N) fun j=>YP _ j,QeY]
theorem QrH{R S T R' S':List Int}{m:Nat}(h:Xi (ZR R (QdJ S m))=T)(hm:m % 2=1)(hR:R'=Xi (ZR R S))(hS:S'=Xi (ZR S S)):Xi (ZR R' (QdJ S' (m/2)))=T:=by
 rw[←h,hR,hS]
 refine Qbz fun i=> ?_
 have e:=pow_odd (R:=R) (S:=S) (m:=m/2) i
 rw[show 2*(m/2)+1=m by omega] at e
 rw[←e,YG,YG]
 exact Qa3 (fun j=>YP _ j) (fun j=>(Qfw (fun t=>YP _ t) _ j).trans (Qlv S (m/2) j))
theorem QpO{R S T S':List Int}{m:Nat}(h:Xi (ZR R (QdJ S m))=T)(hm: ¬m % 2=1)(hS:S'=Xi (ZR S S)):Xi (ZR R (QdJ S' (m/2)))=T:=by
 rw[←h,hS]
 refine Qbz fun i=> ?_
 rw[YG,YG]
 refine Qa3 (fun _=>rfl) (fun j=>(Qfw (fun t=>YP _ t) _ j).trans ?_)
 rw[Qlv,show 2*(m/2)=m by omega]
theorem QrG{R S T R':List Int}{m m':Nat}(h:Xi (ZR R (QdJ S m))=T)(hm:m=1)(hm':m'=0)(hR:R'=Xi (ZR R S)):Xi (ZR R' (QdJ S m'))=T:=by
 subst hm hm'
 rw[←h,hR]
 refine Qbz fun i=> ?_
 show co (ZR _ [1]) i=co (ZR R (ZR [1] S)) i
 rw[YG,QeY,YP,YG,YG]
 refine Qa3 (fun _=>rfl) (fun j=> ?_)
 rw[YG,QeL,QeY]
theorem pow_end{R S T:List Int}{m:Nat}(h:Xi (ZR R (QdJ S m))=T)(hm:m=0)(hc:Canon Qa6 R):R=T:=by
 subst hm
 rw[←h]
 conv=>lhs;rw[← (hc:Xi R=R)]
 refine Qbz fun i=> ?_
 show _=co (ZR R [1]) i
 rw[YG,QeY]
end Go.Gx
namespace Go.Gx
theorem Qi1(f:List Int):Zh (Xi f) (-1)=Xi (Zh f (-1)):=by
 have h:Canon Qa6 (Zh (Xi f) (-1)):=by
  refine Qbs ?_
  rw[Qnx]
  by_cases h1:(Xi f).length=0
  ·exact .inl h1
  ·right
   have :=Qap (XJ Qa6 f) h1
   rw[ZO]
   exact UE this (by decide)
 rw[← (h:Xi _=_)]
 refine Qbz fun i=> ?_
 rw[ZO,ZO,YP]
end Go.Gx
namespace Go.Gx
structure QnH (u a b:Nat):Prop where
 sum:a+b*u≤127
 pos:1≤b
 big:b≤254
theorem QnH.bnd{u a b:Nat}(h:QnH u a b):a≤127∧b≤254∧(1≤b∧u≤127)∧(0<u→a+b≤127):=by
 have hub:1*u≤b*u:=Uy _ h.pos
 refine⟨by have :=h.sum;omega,h.big,⟨h.pos,by have :=h.sum;omega⟩,fun hu=> ?_⟩
 have h1:b*1≤b*u:=Uf _ hu
 have :=h.sum
 omega
theorem QnH.start{u:Nat}(h:u≤127):QnH u 0 1:=⟨by omega,by omega,by omega⟩
theorem QnH.odd{u a b:Nat}(h:QnH u a b)(hu:u % 2=1):QnH (u/2^1) (a+b) (2*b):=by
 have h1:=h.sum
 have h2:=h.bnd.2.2.2 (by omega)
 refine⟨?_,by have :=h.pos;omega,by omega⟩
 have e:b*u=b*(2*(u/2)+1):=by rw[show 2*(u/2)+1=u by omega]
 rw[e,Ut,Wt,←UB,UC b 2] at h1
 show a+b+2*b*(u/2)≤127
 omega
theorem QnH.even{u a b:Nat}(h:QnH u a b)(hu: ¬u % 2=1)(h0:0<u):QnH (u/2^1) (a+0) (2*b):=by
 have h1:=h.sum
 have h2:=h.bnd.2.2.2 h0
 refine⟨?_,by have :=h.pos;omega,by omega⟩
 have e:b*u=b*(2*(u/2)):=by rw[show 2*(u/2)=u by omega]
 rw[e,←UB,UC b 2] at h1
 show a+0+2*b*(u/2)≤127
 omega
end Go.Gx
namespace Go.Gx
end Go.Gx
namespace Go.Gx
theorem QcB{L:List RI}{i:Nat}{r:RI}:zs (L.set i r)=(zs L).set i r.z:=by simp [List.map_set]
end Go.Gx
namespace Go.Gx
end Go.Gx
namespace Go.Gx
theorem QbS{L:List RI}{k M:Nat}{r0:RI}(h: ∀j r,k≤j→L[j]? =some r→r.n≤M): ∀j r,k+1≤j→(L.set k r0)[j]? =some r→r.n≤M:=fun j r hj hr=>by
 rw[List.getElem?_set_ne (by omega)] at hr
 exact h j r (by omega) hr
theorem Qqb{w:World}{S:Nat→Prop}{L:List RI}{M:Nat}(h:YC w S M L): ∀j r,0≤j→L[j]? =some r→r.n≤M:=fun _ r _ hr=>(h r (Ub hr)).2
end Go.Gx
namespace Go.Gx
end Go.Gx
namespace Go.Gx
def hgt:List Int→Nat
 | []=>0
 |a::l=>max a.natAbs (hgt l)
theorem Qnd(a b:List Int):hgt (a++b)=max (hgt a) (hgt b):=by
 induction a with
 |nil=>simp [hgt]
 |cons x a ih=>simp only[Qye,hgt,ih];omega
theorem Qrb(f:List Int){k:Nat}(hk:k<f.length):hgt (f.take (k+1))=max (hgt (f.take k)) (co f k).natAbs:=by
 rw[Qys hk,Qnd]
 simp [hgt,co,Uh,hk]
theorem Qmf{f:List Int}{k:Nat}{H:Nat}(hH:H=hgt (f.take k))(hk:k<f.length){x c:Int}{a:Nat}(hx:x=co f k)(ha:a=x.natAbs)(hc:c=QhZ a H):(c>0→a=hgt (f.take (k+1)))∧(¬c>0→H=hgt (f.take (k+1))):=by
 rw[Qrb f hk,←hH,←hx,←ha]
 rcases Qck a H with⟨h1,h2⟩| ⟨h1,h2⟩| ⟨h1,h2⟩<;>constructor<;>intro h<;>omega
end Go.Gx
namespace Go.Gx
theorem Qra{g:Bool}{d:List Nat}{a b:Nat}(h:Xx g d=(a:Int))(e:val d=b)(h0:val d=a):Xx g d=(b:Int):=by omega
end Go.Gx

namespace Go.Gx
open Go.RowKit
variable{dfs:List Deferred}
section
variable{b:Nat}{w w':World}{S S' G:Nat→Prop}{A:Option Addr}{n c:Nat}{ds:List Nat}
end
def Own(w:World)(B:Nat)(e:TypeId)(k:Nat)(A:Option Addr)(n c:Nat)(cs:List Value):Prop:=w.ownsRow B e k (.slice A n c) n cs
def Qrw(A:Option Addr)(b:Nat):Prop:= ∀a,A=some a→a.block≠b
section
variable{w w':World}{B:Nat}{e:TypeId}{k:Nat}{A:Option Addr}{n c:Nat}{cs:List Value}
theorem Own.nil:Own w B e k none 0 0 []:=World.ownsRow_nil w B e k
theorem Own.lt(h:Own w B e k A n c cs): ∀a,A=some a→B≤a.block∧a.block<w.heap.size:=fun a ha=>by
 subst ha
 exact World.ownsRow.lt h a.block rfl
theorem Own.ext(h:Own w B e k A n c cs)(f:Ext w w'):Own w' B e k A n c cs:=
 World.ownsRow.kept (row:=none) h ⟨f.os,f.tape,f.output,f.size,fun i hi _=>f.block i hi fun g=>g⟩ (by cases(Value.slice A n c).ownBlock<;>simp)
theorem Own.rd(h:Own w B e k A n c cs):Rd w (fun b=>B≤b) A n c k cs:=by
 refine⟨h.1,?_⟩
 rcases h.2 with⟨hv,rfl⟩| ⟨g,cap,cur,hv,hb,hg,hnc,hm,_,_⟩
 ·injection hv with h1 h2 h3
  subst h3
  exact⟨Ug _,Qyr _,fun h0=>absurd h0 (by omega)⟩
 ·injection hv with h1 h2 h3
  subst h1 h3
  refine⟨hnc,by simp only[maxLen,Yc] at hm⊢;omega,fun _=>⟨g,0,rfl,hb,(Array.getElem?_eq_some_iff.1 hg).1,fun j v hj=> ?_⟩⟩
  have :=World.ownsRow.cells h (g:=g) rfl j v hj
  rw[addr_add] at this
  exact this
theorem Own.cap(h:Own w B e k A n c cs):n≤c:=h.rd.2.1
theorem Own.max(h:Own w B e k A n c cs):c≤9223372036854775807:=h.rd.2.2.1
theorem Own.low{B':Nat}(h:Own w B e k A n c cs)(hB:B'≤B):Own w B' e k A n c cs:=by
 refine⟨h.1,?_⟩
 rcases h.2 with h1| ⟨g,cap,cur,hv,hb,rest⟩
 ·exact .inl h1
 ·exact .inr ⟨g,cap,cur,hv,Wj hB hb,rest⟩
end
theorem QjD{P:Program}{w w':World}{t ty el:TypeId}{i:TypeInfo}{z:Value}{k bytes B m c g:Nat}{A:Option Addr}{a:Addr}{c':Nat}{cs vs:List Value}(ht:P.underlying t=some (.slice el))(hi:P.info? el=some i)(hz:i.zero=some z)(hsize:i.size=k)
  (hby:i.bytes=bytes)(hO:Own w B el k A m c cs)(hl:vs.length=1*k)(hnews: ∀j u,vs[j]? =some u→w.cell? ((⟨g,0,none⟩:Addr).add j)=some u)(h1: ∀u∈vs,u.oneCell'=true)(hm:(m+1)*bytes≤140737488355328)(hm2:m+1≤9223372036854775807)
  (hr:(Builtin.append_ #[t,t] ty #[.slice A m c,.slice (some ⟨g,0,none⟩) 1 1]).run P w= .ok (.slice (some a) (m+1) c') w'):A=some a∨w.heap.size≤a.block:=by
 subst hsize
 subst hby
 rcases hO.2 with⟨hv,rfl⟩| ⟨g0,cap,cur,hv,hbg,hg,hnc,hcm,hcs,htake⟩
 ·injection hv with e1 e2 e3
  subst e1 e3
  have h:=run_append_nil (P:=P) w t ty el i z ht hi hz ⟨g,0,none⟩ 1 1 vs hl hnews (by omega) (by omega) (by omega)
  rw[h] at hr
  injection hr with e4
  injection e4 with e5
  injection e5 with e6
  right;rw[←e6];exact Ug _
 ·injection hv with e1 e2 e3
  subst e1 e3
  by_cases hroom:m+1≤c
  ·have hfit:m*i.size+vs.length≤cur.size:=by rw[hl,hcs,←UZ];exact Uy _ hroom
   have h:=run_append_room (P:=P) w t ty el i ht hi g0 m c cur hg ⟨g,0,none⟩ 1 1 vs hl hnews h1 hroom hfit
   rw[h] at hr
   injection hr with e4
   injection e4 with e5
   exact .inl e5
  ·have holds: ∀j u,cs[j]? =some u→w.cell? ((⟨g0,0,none⟩:Addr).add j)=some u:=World.ownsRow.cells hO (g:=g0) rfl
   have h:=run_append_grow (P:=P) w t ty el i z ht hi hz ⟨g0,0,none⟩ m c cs hO.1 holds ⟨g,0,none⟩ 1 1 vs hl hnews (by omega) (by omega) (growslice_fits (by omega) hm)
   rw[h] at hr
   injection hr with e4
   injection e4 with e5
   injection e5 with e6
   right;rw[←e6];exact Ug _
section
variable{P:Program}{n:Nat}{e:Nat→Value}{w:World}{K:Act→World→Prop}{Q:Exit→Act→World→Prop}{ty:TypeId}{pos:String}{af:Array Edge}{gd:Option (Nat×Bool)}
theorem QxX{d:Nat}{s x:Operand}{t el bt:TypeId}{z:Value}{k bytes B m c g:Nat}{A:Option Addr}{cs vs:List Value}(ht:P.underlying t=some (.slice el))
  (hi:(P.info? el).map (fun i=>(i.zero,i.size,i.bytes))=some (some z,k,bytes))(hz:z.cells.size=k)(hk:0<k)(hs:ev n e s= .slice A m c)(hx:ev n e x= .slice (some ⟨g,0,none⟩) 1 1)(hO:Own w B el k A m c cs)(hb:Blk w g bt vs)(hl:vs.length=k)
  (h1:vs.all Value.oneCell'=true)(hm:(m+1)*bytes≤140737488355328)(hm2:m+1≤9223372036854775807)(hB:B≤w.heap.size)
  (kk: ∀A' c' w',Own w' B el k A' (m+1) c' (cs++vs)→Frm (fun b=>B≤b) w w'→(∀G:Nat→Prop,(∀b,G b→Qrw A b)→Frm (fun b=> ¬G b) w w')→(∀a,A'=some a→A=some a∨w.heap.size≤a.block)→K (mkA dfs n (upd e d (.slice A' (m+1) c'))) w'):
  OpW P ⟨some d,.call {callee:= .builtin .append,args:= #[s,x],argTypes:= #[t,t]},ty,pos,af,gd⟩ (mkA dfs n e) w K Q:=by
 obtain⟨i,hi',hz',hsz,hby⟩:=info_parts hi
 unfold OpW
 obtain⟨v',w',hr,h2,h3,h4⟩:=run_append_own (P:=P) w B t ty el i z k bytes ht hi' hz' hsz hby hz hk (.slice A m c) m cs hO ⟨g,0,none⟩ 1 1 vs (by simpa using hl) (fun j u hj=>by rw[addr_add,WJ];exact hb.at_ hj) (List.all_eq_true.1 h1) (by simp only[maxLen];omega) hm hB
 have hkeep: ∀a,(Value.slice A m c).ownBlock=some a→B≤a:=fun a ha=>(World.ownsRow.lt hO a ha).1
 obtain⟨A',c',rfl⟩: ∃A' c',v'= .slice A' (m+1) c':=by
  rcases h2.2 with⟨_,h0⟩| ⟨g',cap,cur,hv,_⟩
  ·omega
  ·exact⟨_,_,hv⟩
 have hF:Frm (fun b=>(Value.slice A m c).ownBlock=some b) w w':=⟨h3.os,h3.tape,h3.output,h3.size,QjC ht hi' hz' hsz hby hO (by simpa using hl) (fun j u hj=>by rw[addr_add,WJ];exact hb.at_ hj) (List.all_eq_true.1 h1) hm2 hm hr,fun i hi hg=>h3.block i hi fun e=>hg e.symm⟩
 have hnew: ∀a,A'=some a→A=some a∨w.heap.size≤a.block:=by
  intro a ha
  subst ha
  exact QjD ht hi' hz' hsz hby hO (by simpa using hl) (fun j u hj=>by rw[addr_add,WJ];exact hb.at_ hj) (List.all_eq_true.1 h1) hm hm2 hr
 unfold Oper.wp execOp
 rw[Yk]
 simp only[resolve,invoke,builtin,Sem.run_bind,Sem.run_pure,Result.andThen_ok,Qzp,Wk,QyE,hs,hx,hr,Oper.upon,YM]
 exact kk A' c' w' h2 (hF.mono fun b _ hb=>hkeep b hb) (fun G hG=>hF.mono fun b _ hb hGb=>by
  cases A with
  |none=>simp [Value.ownBlock] at hb
  |some a=>simp [Value.ownBlock] at hb;exact hG b hGb a rfl hb) hnew
end
end Go.Gx
namespace Go.Gx
variable{dfs:List Deferred}
end Go.Gx
namespace Go.Gx
variable{dfs:List Deferred}
section
variable{P:Program}{n:Nat}{e:Nat→Value}{w:World}{ty:TypeId}{pos:String}{af:Array Edge}{gd:Option (Nat×Bool)}
theorem Ql8{d:Option Nat}{t t':TypeId}{x y:Operand}{a:Nat}(hx:ev n e x= .int .i64 (a:Int))(hy:ev n e y= .int .i64 1)(ha:a≤9223372036854775807):
  Ev P n e ⟨d,.binOp .and t x y t',ty,pos,af,gd⟩ w (.int .i64 ((a % 2:Nat):Int)):=by
 have e1:(Op.intBits .and .i64 (a:Int) 1)=pure (.int .i64 (IntKind.i64.wrap ((UL 64 (a:Int)&&&UL 64 1).toNat:Int))):=rfl
 have e2:(UL 64 (a:Int)&&&UL 64 1).toNat=a % 2:=by
  have h1:UL 64 (a:Int)=Ue 64 a:=by simp
  have h2:UL 64 1=Ue 64 1:=by decide
  rw[h1,h2,BitVec.toNat_and,WK,WK,UQ (by omega)]
  exact Nat.and_one_is_mod a
 rw[e2,QaZ (z:=((a % 2:Nat):Int)) ⟨rfl,by omega,by omega⟩] at e1
 simp only[Ev,execOp,hx,hy,eqGuard,binOp,e1]
 simp
end
end Go.Gx

namespace Go.Gx
def evQ:List Int→Rat→Rat
 | [],_=>0
 |a::l,q=>(a:Rat)+q*evQ l q
def evZ(n d:Int):List Int→Int
 | []=>0
 |a::l=>a*d^l.length+n*evZ n d l
def rv(z:Int)(v:Nat):Rat:=(Qct z v:Rat)/ ((QaY v:Int):Rat)
variable{F f g:List Int}{N dr k:Nat}{d n p r v z:Int}{e q:Rat}
theorem Qiu(d:Int)(k:Nat):((d^k:Int):Rat)=(d:Rat)^k:=by
 induction k with
 |zero=>simp
 |succ k ih=>rw[Int.pow_succ,Ur,ih,QyW]
theorem Qv3{n d:Int}{q:Rat}(hq:q*(d:Rat)=(n:Rat)): ∀l,((evZ n d l:Int):Rat)*(d:Rat)=evQ l q*(d:Rat)^l.length
 | []=>by simp [evZ,evQ]
 |a::l=>by
  have ih:=Qv3 hq l
  simp only[evZ,evQ,Um,QyZ,Ur,Qiu,QyW]
  grind
theorem Qa2(h:d≠0):(d:Rat)≠0:=fun e=>h (Rat.intCast_inj.1 (by rw[e];rfl))
theorem Ql9(f:List Int)(q:Rat):evQ f q=((co f 0:Int):Rat)+q*evQ f.tail q:=by
 cases f with
 |nil=>simp [evQ,co];grind
 |cons a l=>simp [evQ,co]
theorem QoG(f:List Int)(i:Nat):co f.tail i=co f (i+1):=by cases f<;>simp [co]
theorem Qo2(q:Rat): ∀(n:Nat)(f g:List Int),f.length+g.length≤n→(∀i,co f i=co g i)→evQ f q=evQ g q
 |0,f,g,hn,_=>by
  have h1:f=[]:=Ua (by omega)
  have h2:g=[]:=Ua (by omega)
  rw[h1,h2]
 |n+1,f,g,hn,h=>by
  rcases Uk (f.length+g.length) with h0|h0
  ·have h1:f=[]:=Ua (by omega)
   have h2:g=[]:=Ua (by omega)
   rw[h1,h2]
  ·rw[Ql9 f,Ql9 g,h 0,Qo2 q n f.tail g.tail (by simp;omega) (fun i=>by rw[QoG,QoG];exact h (i+1))]
theorem Qag(q:Rat)(h: ∀i,co f i=co g i):evQ f q=evQ g q:=Qo2 q _ f g (Ug _) h
theorem Qat(f:List Int)(q:Rat):evQ (Xi f) q=evQ f q:=Qag q fun i=>YP f i
theorem QbY(q:Rat): ∀f g:List Int,evQ (QrC f g) q=evQ f q+evQ g q
 | [],g=>by rw[Qag q (g:=g) (fun i=>by rw[Qca];simp [co])];simp [evQ];grind
 |a::f,[]=>by rw[Qag q (g:=a::f) (fun i=>by rw[Qca];simp [co])];simp [evQ];grind
 |a::f,b::g=>by
  rw[Qag q (g:=(a+b)::QrC f g) (fun i=>by
   rw[Qca]
   cases i with
   |zero=>simp [co]
   |succ i=>
    have :=Qca f g i
    simp only[co,List.getD_cons_succ] at this⊢
    omega)]
  simp only[evQ,QbY q f g,QyZ]
  grind
theorem ZK(q:Rat)(c:Int): ∀f:List Int,evQ (Zh f c) q=(c:Rat)*evQ f q
 | []=>by simp [Zh,evQ]
 |a::f=>by
  have ih:=ZK q c f
  simp only[Zh,Wk,evQ,Ur] at ih⊢
  rw[ih]
  grind
theorem QjQ(a:Int)(f g:List Int)(k:Nat):co (ZR (a::f) g) k=co (QrC (Zh g a) (0::ZR f g)) k:=by
 rw[YG,Qca,ZO]
 unfold conv Qbt
 rw[QkF]
 cases k with
 |zero=>simp [QaG,co,WW]
 |succ k=>
  have e1:co (0::ZR f g) (k+1)=conv f g k:=by rw[←YG];simp [co]
  rw[e1]
  unfold conv Qbt
  have e2:QaG (fun i=>co (a::f) (i+1)*co g (k+1 -(i+1))) (k+1)=QaG (fun i=>co f i*co g (k -i)) (k+1):=Zc fun i _=>by simp [co]
  rw[e2]
  simp [co,WW]
theorem QcH(q:Rat): ∀f g:List Int,evQ (ZR f g) q=evQ f q*evQ g q
 | [],g=>by simp [ZR,evQ]
 |a::f,g=>by
  rw[Qag q (QjQ a f g),QbY,ZK]
  simp only[evQ,QcH q f g]
  simp
  grind
theorem Qmb(hk:0<k)(hl:k≤F.length)(hv:v=evZ n d (F.drop k)):v*n+co F (k -1)*d^ (F.length -1 -(k -1))=evZ n d (F.drop (k -1)):=by
 rw[Ws (show k -1<F.length by omega),show k -1+1=k by omega]
 simp only[evZ,←hv,QyP]
 rw[show F.length -1 -(k -1)=F.length -k by omega]
 have :co F (k -1)=F[k -1]:=by simp [co,Uh,show k -1<F.length by omega]
 rw[this,WW v n]
 omega
theorem Qmy(hk:k=N):d^ (N -1 -k)=d^ (N -1 -(k -1)):=by congr 1;omega
theorem Qmz(hk:0<k)(hN:k<N):d^ (N -1 -k)*d=d^ (N -1 -(k -1)):=by rw[←Int.pow_succ];congr 1;omega
theorem Qp3{v:Nat}(h:n*(QaY v:Int)=Qct z v*d)(hd:0<d):rv z v*(d:Rat)=(n:Rat):=by
 have h1:(n:Rat)*((QaY v:Int):Rat)=(Qct z v:Rat)*(d:Rat):=by rw[←Ur,←Ur,h]
 have h2:((QaY v:Int):Rat)≠0:=Qa2 (by have :=ZJ v;omega)
 unfold rv
 grind
theorem QfB(hq:q*(d:Rat)=(n:Rat))(hd:0<d)(hv:v=evZ n d F)(hp:p=d^ (F.length -1)):(v:Rat)=evQ F q*(p:Rat)∧0<p:=by
 have h1:=Qv3 hq F
 have h2:=Qa2 (show d≠0 by omega)
 refine⟨?_,by rw[hp];exact Int.pow_pos hd⟩
 rw[hv,hp,Qiu]
 cases F with
 |nil=>simp [evZ,evQ]
 |cons a l=>
  simp only[Um,Wn,QyW] at h1⊢
  grind
theorem Qli(h:(v:Rat)=e*(p:Rat))(hp:0<p)(hx:r*p=v*(dr:Int))(hd:0<dr):rv r dr=e:=by
 unfold rv
 rw[ZN hd,ZZ hd]
 have h1:(r:Rat)*(p:Rat)=(v:Rat)*((dr:Int):Rat):=by rw[←Ur,←Ur,hx]
 have h2:=Qa2 (show p≠0 by omega)
 have h3:=Qa2 (show(dr:Int)≠0 by omega)
 grind
end Go.Gx

namespace Go.Gx
def md(p:Nat)(z:Int):Nat:=(z % (p:Int)).toNat
theorem Qwo{p r:Nat}{z k:Int}(hr:r<p)(h:z=r+(p:Int)*k):md p z=r:=by
 have h2:((r:Int) % (p:Int))=r:=Qzl (by omega) (by omega)
 unfold md
 rw[h,QyI,h2]
 omega
theorem Qwn{p:Nat}(hp:0<p)(z:Int): ∃k:Int,z=md p z+(p:Int)*k:=by
 have h0:=Qza z (show(p:Int)≠0 by omega)
 have h1:=Int.emod_add_mul_ediv z (p:Int)
 refine⟨z/p,?_⟩
 unfold md
 omega
theorem Qln{p:Nat}(hp:0<p)(z:Int):md p z<p:=by
 have h0:=Qza z (show(p:Int)≠0 by omega)
 have h2:=Int.emod_lt_of_pos z (show(0:Int)<p by omega)
 unfold md
 omega
def Cg(p:Nat)(a b:Int):Prop:= ∃k:Int,a=b+(p:Int)*k
theorem Cg.refl(p:Nat)(a:Int):Cg p a a:=⟨0,by grind⟩
theorem Cg.symm{p:Nat}{a b:Int}(h:Cg p a b):Cg p b a:=by obtain⟨k,h⟩:=h;exact⟨-k,by grind⟩
theorem Cg.trans{p:Nat}{a b c:Int}(h:Cg p a b)(g:Cg p b c):Cg p a c:=by obtain⟨k,h⟩:=h;obtain⟨l,g⟩:=g;exact⟨k+l,by grind⟩
theorem Cg.add{p:Nat}{a b c d:Int}(h:Cg p a b)(g:Cg p c d):Cg p (a+c) (b+d):=by obtain⟨k,h⟩:=h;obtain⟨l,g⟩:=g;exact⟨k+l,by grind⟩
theorem Cg.sub{p:Nat}{a b c d:Int}(h:Cg p a b)(g:Cg p c d):Cg p (a -c) (b -d):=by obtain⟨k,h⟩:=h;obtain⟨l,g⟩:=g;exact⟨k -l,by grind⟩
theorem Cg.neg{p:Nat}{a b:Int}(h:Cg p a b):Cg p (-a) (-b):=by obtain⟨k,h⟩:=h;exact⟨-k,by grind⟩
theorem Cg.mul{p:Nat}{a b c d:Int}(h:Cg p a b)(g:Cg p c d):Cg p (a*c) (b*d):=by obtain⟨k,h⟩:=h;obtain⟨l,g⟩:=g;exact⟨k*d+b*l+p*k*l,by grind⟩
theorem QqG{p:Nat}(hp:0<p)(z:Int):Cg p (md p z:Nat) z:=Cg.symm (Qwn hp z)
theorem QaJ{p:Nat}(a:Nat):Cg p ((a % p:Nat):Int) a:=by
 refine⟨-((a/p:Nat):Int),?_⟩
 have h:((p*(a/p)+a % p:Nat):Int)=a:=by rw[Qym]
 simp only[Qyt,Wa] at h
 grind
theorem Qll{p:Nat}(hp:0<p){a b:Int}(h:Cg p a b):md p a=md p b:=by
 obtain⟨k,h⟩:=h
 obtain⟨l,e⟩:=Qwn hp b
 exact Qwo (k:=l+k) (Qln hp b) (by rw[h];grind)
theorem Qlm{p r:Nat}{z:Int}(hr:r<p)(h:Cg p (r:Int) z):r=md p z:=by
 obtain⟨k,h⟩:=h
 exact(Qwo (k:= -k) hr (by grind)).symm
theorem Qpw{p:Nat}(hp:0<p)(a:Nat):md p (a:Int)=a % p:=(Qlm (UG a hp) (QaJ a)).symm
theorem Qft{p r:Nat}(hr:r<p):md p (r:Int)=r:=(Qlm hr (Cg.refl p _)).symm
theorem QhX{p a:Nat}(ha:a≤p):Cg p ((p -a:Nat):Int) (-(a:Int)):=⟨1,by omega⟩
theorem QsL{p:Nat}(hp:0<p)(a:Nat):(p -a % p) % p=md p (-(a:Int)):=
 Qlm (UG _ hp) ((QaJ _).trans ((QhX (Qzu (UG a hp))).trans (QaJ a).neg))
theorem Qpv{p:Nat}(hp:0<p)(a b:Nat):a*b % p=md p ((a:Int)*b):=by
 rw[←Wa,Qpw hp]
theorem Qwp{p:Nat}(hp:0<p)(a b:Nat):(a+(p -b % p) % p) % p=md p ((a:Int) -b):=by
 refine Qlm (UG _ hp) ((QaJ _).trans ?_)
 rw[Qyt,QsL hp,show(a:Int) -b=a+ -(b:Int) by omega]
 exact(Cg.refl p _).add (QqG hp _)
def zl(l:List Nat):List Int:=l.map fun a=>((a:Nat):Int)
theorem Qfg(l:List Nat):(zl l).length=l.length:=by simp [zl]
theorem QoH(l:List Nat)(i:Nat):co (zl l) i=((l.getD i 0:Nat):Int):=by
 simp only[co,zl,Uh,Un]
 cases l[i]? <;>rfl
def QnK(p:Nat)(l:List Int):List Nat:=Zw (l.map (md p))
def QfQ(p a:Nat):Nat:=((UV p).find? fun x=>a*x % p==1 % p).getD 0
theorem Qph{p a x:Nat}(hp:0<p)(hx:x<p)(h:a*x % p=1 % p):QfQ p a=x:=by
 unfold QfQ
 cases hf:(UV p).find? fun x=>a*x % p==1 % p with
 |none=>
  have :=List.find?_eq_none.1 hf x (List.mem_range.2 hx)
  simp [h] at this
 |some y=>
  have h1:=List.find?_some hf
  have h2:=List.mem_range.1 (List.mem_of_find?_eq_some hf)
  simp only[beq_iff_eq] at h1
  show y=x
  have c1:Cg p ((a:Int)*x) 1:=by
   have :=(QaJ (p:=p) (a*x)).symm;rw[h] at this;simpa using this.trans (QaJ 1)
  have c2:Cg p ((a:Int)*y) 1:=by
   have :=(QaJ (p:=p) (a*y)).symm;rw[h1] at this;simpa using this.trans (QaJ 1)
  have c3:Cg p ((a:Int)*x*y) y:=by simpa using c1.mul (Cg.refl p (y:Int))
  have c4:Cg p ((a:Int)*x*y) x:=by
   have :=c2.mul (Cg.refl p (x:Int))
   rw[show(a:Int)*y*x=a*x*y by grind,Int.one_mul] at this
   exact this
  have c5:=c3.symm.trans c4
  exact(Qft h2).symm.trans ((Qll hp c5).trans (Qft hx))
end Go.Gx
namespace Go.Gx
theorem Quz{p a q r:Nat}(h:a=p*q+r)(hr:r<p):r=md p (a:Int):=Qlm hr ⟨-(q:Int),by rw[h];simp only[Qyt,Wa];grind⟩
theorem Quy{p a q r x:Nat}(h:a=p*q+r)(hr:r<p)(e:x=(p -r % p) % p):x=md p (-(a:Int)):=by
 rw[e,←QsL (by omega) a]
 have :a % p=r:=by rw[h,Qzv,UQ hr]
 rw[this,UQ hr]
structure QkN (m a r s:Nat) (x y:Int):Prop where
 g:UK r s=1
 cx:Cg m (x*a) r
 cy:Cg m (y*a) s
 b:x.natAbs*s+y.natAbs*r=m
 sg:(0≤x∧y≤0)∨(x≤0∧0≤y)
 bx:x.natAbs≤m
 by_:y.natAbs≤m
 rm:r≤m
 sm:s≤m
theorem QkN.start{m a:Nat}(hm:0<m)(h:UK a m=1):QkN m a (a % m) m 1 0:=by
 refine⟨?_,?_,?_,by simp,.inl ⟨by omega,by omega⟩,by simp;omega,by simp,Qzu (UG _ hm),Ug _⟩
 ·rw[←Qzo,QyU];exact h
 ·rw[Int.one_mul];exact(QaJ a).symm
 ·rw[Qyi];exact⟨-1,by omega⟩
theorem QkN.nx{m a r s:Nat}{x y:Int}(h:QkN m a r s x y):(x -((r/s:Nat):Int)*y).natAbs=x.natAbs+(r/s)*y.natAbs:=by
 rcases h.sg with⟨h1,h2⟩| ⟨h1,h2⟩
 ·have h3:((r/s:Nat):Int)*y≤0:=Int.mul_nonpos_of_nonneg_of_nonpos (QyX _) h2
  have e:((r/s:Nat):Int)*y= -(((r/s)*y.natAbs:Nat):Int):=by
   rw[Wa,show((y.natAbs:Nat):Int)= -y by omega];grind
  omega
 ·have h3:0≤((r/s:Nat):Int)*y:=Qzk (QyX _) h2
  have e:((r/s:Nat):Int)*y=(((r/s)*y.natAbs:Nat):Int):=by
   rw[Wa,show((y.natAbs:Nat):Int)=y by omega]
  omega
theorem QkN.nb{m a r s:Nat}{x y:Int}(h:QkN m a r s x y)(hs:0<s):x.natAbs+(r/s)*y.natAbs≤m:=by
 have h1:=h.b
 have h2:(r/s)*s≤r:=Qzf r s
 have h3:y.natAbs*((r/s)*s)≤y.natAbs*r:=Uf _ h2
 have h4:(x.natAbs+(r/s)*y.natAbs)*s≤m:=by
  rw[UZ,UC (r/s) y.natAbs,UB];omega
 have h5:(x.natAbs+(r/s)*y.natAbs)*1≤(x.natAbs+(r/s)*y.natAbs)*s:=Uf _ hs
 omega
theorem QkN.qb{m a r s:Nat}{x y:Int}(h:QkN m a r s x y)(hs:0<s):(((r/s:Nat):Int)*y).natAbs≤m:=by
 have :=h.nb hs
 rw[UW,Int.natAbs_natCast];omega
theorem QkN.step{m a r s:Nat}{x y:Int}(h:QkN m a r s x y)(hs:0<s):QkN m a s (r % s) y (x -((r/s:Nat):Int)*y):=by
 have hd:s*(r/s)+r % s=r:=Qym r s
 refine⟨?_,h.cy,?_,?_,?_,h.by_,?_,h.sm,Wj (Qzu (UG _ hs)) h.sm⟩
 ·rw[QyU,←Qzo,QyU];exact h.g
 ·have h1:=h.cx.sub ((Cg.refl m ((r/s:Nat):Int)).mul h.cy)
  have e1:(x -((r/s:Nat):Int)*y)*a=x*a -((r/s:Nat):Int)*(y*a):=by grind
  have e2:((r % s:Nat):Int)=(r:Int) -((r/s:Nat):Int)*s:=by
   have :((s*(r/s)+r % s:Nat):Int)=r:=by rw[hd]
   simp only[Qyt,Wa] at this
   grind
  rw[e1,e2];exact h1
 ·rw[h.nx,←h.b,UZ]
  have :y.natAbs*r=y.natAbs*(r % s)+(r/s)*y.natAbs*s:=by
   conv=>lhs;rw[←hd]
   rw[Ut,UC (r/s) y.natAbs,UB,UC s (r/s)];omega
  omega
 ·rcases h.sg with⟨h1,h2⟩| ⟨h1,h2⟩
  ·right
   have h3:((r/s:Nat):Int)*y≤0:=Int.mul_nonpos_of_nonneg_of_nonpos (QyX _) h2
   exact⟨h2,by omega⟩
  ·left
   have h3:0≤((r/s:Nat):Int)*y:=Qzk (QyX _) h2
   exact⟨h2,by omega⟩
 ·rw[h.nx];exact h.nb hs
theorem QkN.done{m a r:Nat}{x y:Int}(h:QkN m a r 0 x y)(hm:0<m):r=1∧md m x=QfQ m a:=by
 have h1:=h.g
 rw[Nat.gcd_zero_right] at h1
 refine⟨h1,(Qph hm (Qln hm x) ?_).symm⟩
 have h2:=h.cx
 rw[h1] at h2
 rw[Qpv hm,←Qpw hm 1]
 refine Qll hm (Cg.trans ((Cg.refl m _).mul (QqG hm x)) ?_)
 rw[WW];exact h2
theorem Qu9{m:Nat}(hm:0<m)(x:Int):(x.tmod m+m).tmod m=((md m x:Nat):Int)∧ -(m:Int)<x.tmod m∧x.tmod m<m:=by
 have h1:=Qzj x (show(0:Int)<m by omega)
 have h2:=Int.lt_tmod_of_pos x (show(0:Int)<m by omega)
 refine⟨?_,h2,h1⟩
 have h3:Cg m (x.tmod m) x:=⟨-(x.tdiv m),by have :=QyD x (m:Int);grind⟩
 have h4:Cg m ((x.tmod m+m).tmod m) (x.tmod m+m):=⟨-((x.tmod m+m).tdiv m),by have :=QyD (x.tmod m+m) (m:Int);grind⟩
 have h5:0≤(x.tmod m+m).tmod m:=Int.tmod_nonneg _ (by omega)
 have h6:=Qzj (x.tmod m+m) (show(0:Int)<m by omega)
 obtain⟨r,hr⟩: ∃r:Nat,(x.tmod m+m).tmod m=r:=⟨((x.tmod m+m).tmod m).toNat,by omega⟩
 rw[hr] at h4 h6⊢
 have h7:Cg m (r:Int) x:=h4.trans ((h3.add (⟨1,by omega⟩:Cg m (m:Int) 0)).trans (by rw[Int.add_zero];exact Cg.refl _ _))
 rw[Qlm (by omega) h7]
end Go.Gx
namespace Go.Gx
end Go.Gx

namespace Go.Gx
end Go.Gx

namespace Go.Gx
theorem Qqw{g h:Bool}{d r:List Nat}{k n:Nat}(e:h=(g&&decide (0<n)))(ed:r.length=n)(v:val r=val d*k):Xx h r=Xx g d*(k:Int):=by
 have hz: ¬0<n→val r=0:=fun hn=>by rw[Ua (show r.length=0 by omega)];rfl
 subst e
 cases g
 ·simp only[Bool.false_and,ZD];rw[v];simp
 ·by_cases hn:0<n
  ·simp only[hn,decide_true,Bool.and_true,QdD];rw[v];simp only[Wa];grind
  ·have :=hz hn
   simp only[hn,decide_false,Bool.and_false,ZD,QdD]
   have h2:val d*k=0:=by rw[←v];exact this
   have h3:((val d:Nat):Int)*(k:Int)=0:=by rw[←Wa,h2];rfl
   rw[this]
   grind
theorem Qp6{s z:Int}(h:s=z.sign):(s= -1∧z<0)∨(s=0∧z=0)∨(s=1∧0<z):=by subst h;exact Yr z
theorem Qcm{a b x y:Int}(hb:0<b)(m:y=a.tmod b)(e:x=y.sign)(h:x<0):y+b=a % b:=by
 subst m
 have h1:a.tmod b<0:=by have :=Yr (a.tmod b);omega
 have h2:=Int.lt_tmod_of_pos a hb
 have h3:=QyD a b
 have h4:a % b=(a.tmod b+b) % b:=by
  rw[Int.add_emod_right]
  conv=>lhs;rw[←h3]
  rw[QyI]
 rw[h4,Qzl (by omega) (by omega)]
theorem QgQ{a b x y:Int}(hb:0<b)(m:y=a.tmod b)(e:x=y.sign)(h: ¬x<0):y=a % b:=by
 subst m
 have h1:0≤a.tmod b:=by have :=Yr (a.tmod b);omega
 have h2:=Qzj a hb
 have h3:=QyD a b
 have h4:a % b=a.tmod b % b:=by
  conv=>lhs;rw[←h3]
  rw[QyI]
 rw[h4,Qzl h1 h2]
end Go.Gx
namespace Go.Gx
end Go.Gx

namespace Go.Gx
open Go.RowKit
variable{dfs:List Deferred}
section
variable{P:Program}{n:Nat}{e:Nat→Value}{w:World}{ty:TypeId}{pos:String}{af:Array Edge}{gd:Option (Nat×Bool)}
theorem Qh4{d:Option Nat}{t el:TypeId}{len:Nat}{cs:Array Value}{v:Value}{x y:Operand}{k:IntKind}{z:Int}(i:Nat)(ht:P.underlying t=some (.array len el))(h1:QhH P el=true)(hs: ∀w,(sizeOf el).run P w= .ok 1 w)
  (hx:ev n e x= .agg cs)(hy:ev n e y= .int k z)(hz:z=(i:Int))(hi:i<len)(hc:cs[i]? =some v):Ev P n e ⟨d,.index t x y,ty,pos,af,gd⟩ w v:=by
 subst hz
 have hn:(0:Int)≤(i:Int)∧(i:Int)<(len:Int):=by omega
 simp [Ev,execOp,hx,hy,Instr.index,asIntOf,run_underlying ht,hn,hs,part,Qe6 h1,hc]
 intro h;omega
end
end Go.Gx

namespace Go.Gx
open Go.RowKit
theorem Xd{P:Program}{dfs:List Deferred}{n:Nat}{e:Nat→Value}{w:World}{K:Act→World→Prop}{Q:Exit→Act→World→Prop}{ty:TypeId}{pos:String}{af:Array Edge}{gd:Option (Nat×Bool)}{t t':TypeId}{a x:Operand}{g:Nat}{v:Value}{cs:List Value}(vs:List Value)(ha:ev n e a= .pointer (some ⟨g,0,none⟩))(hx:ev n e x=v)(hv:v.cells=vs.toArray)(hs: ∀w,(sizeOf t).run P w= .ok vs.length w)(h1:vs.all Value.oneCell'=true)(hb:Blk w g t' cs)(hl:vs.length=cs.length)(k: ∀w',Frm (· =g) w w'→w'.heap.size=w.heap.size→Blk w' g t' vs→K (mkA dfs n e) w'):OpW P ⟨none,.store t a x,ty,pos,af,gd⟩ (mkA dfs n e) w K Q:=
  YK vs ha hx hv hs h1 hb (by omega) fun w' a b c=>k w' a b (by rw[List.take_zero,List.nil_append,Us (by omega),Wg] at c;exact c)
theorem dOk{P:Program}{ops:Array Oper}{Q:Exit→Act→World→Prop}{dfs:List Deferred}{G:Nat→Prop}{n:Nat}{e:Nat→Value}{w:World}{fuel:Nat}{listed:Array Bool}(i:Nat){o:Oper}(ho:ops[i]? =some o)(hg:Qaa n e ops o.guard=true)(k:OpW P o (mkA dfs n e) w (fun a' w'=>Frm G w w'∧Dr P ops Q G fuel (listed.setIfInBounds i true) a' w') (NoPanic Q))(hc:Region.ready .any ops listed=[i]:=by kernel_rfl):Dr P ops Q G (fuel+1) listed (mkA dfs n e) w:=dOp i ho hg hc k
theorem Xv{P:Program}{f:FuncId}{fn:Func}(hf:P.funcs[f]? =some fn)(hn:(fn.name== "runtime.NumGoroutine")=false:=by kernel_rfl)(hb:fn.body.isNone=false:=by kernel_rfl):Xf P f:=Qk3 hf hn hb
theorem xM{C K:Act→World→Prop}{Q:Exit→Act→World→Prop}{a:Act}{w:World}(f: ∀a w,C a w→K a w)(h:C a w):Exit.then K Q .normal a w:=f _ _ h
theorem cS{P:Program}{C K:Act→World→Prop}{Q:Exit→Act→World→Prop}{dfs:List Deferred}{n:Nat}{e:Nat→Value}{w:World}{c:Operand}{x:Code}(hc:ev n e c= .bool false)(f: ∀a w,C a w→K a w)(h:C (mkA dfs n e) w):(Code.cond c x .skip).wp P (Exit.then K Q) (mkA dfs n e) w:=cF hc (wp_skip (xM f h))
end Go.Gx

namespace Go.Gx
abbrev Yb(g0:Bool)(A1:Option Addr)(n1 c1:Nat):List Value:=[.bool g0,.slice A1 n1 c1]
abbrev Zb(g0:Bool)(A1:Option Addr)(n1 c1:Nat):Value:= .agg #[.bool g0,.slice A1 n1 c1]
abbrev Yt(x0:Int)(g1:Bool)(A2:Option Addr)(n2 c2:Nat)(A3:Option Addr)(n3 c3:Nat):List Value:=[.int .i64 x0,.bool g1,.slice A2 n2 c2,.slice A3 n3 c3]
abbrev Zt(x0:Int)(g1:Bool)(A2:Option Addr)(n2 c2:Nat)(A3:Option Addr)(n3 c3:Nat):Value:= .agg #[.int .i64 x0,.bool g1,.slice A2 n2 c2,.slice A3 n3 c3]
abbrev Yq(g0:Bool)(A1:Option Addr)(n1 c1:Nat)(A2:Option Addr)(n2 c2:Nat):List Value:=[.bool g0,.slice A1 n1 c1,.slice A2 n2 c2]
abbrev Zq(g0:Bool)(A1:Option Addr)(n1 c1:Nat)(A2:Option Addr)(n2 c2:Nat):Value:= .agg #[.bool g0,.slice A1 n1 c1,.slice A2 n2 c2]
abbrev Yp(g0:Bool)(A1:Option Addr)(n1 c1:Nat)(A2:Option Addr)(n2 c2:Nat)(g3:Bool)(A4:Option Addr)(n4 c4:Nat)(A5:Option Addr)(n5 c5:Nat):List Value:=[.bool g0,.slice A1 n1 c1,.slice A2 n2 c2,.bool g3,.slice A4 n4 c4,.slice A5 n5 c5]
abbrev Zp(g0:Bool)(A1:Option Addr)(n1 c1:Nat)(A2:Option Addr)(n2 c2:Nat)(g3:Bool)(A4:Option Addr)(n4 c4:Nat)(A5:Option Addr)(n5 c5:Nat):Value:= .agg #[.bool g0,.slice A1 n1 c1,.slice A2 n2 c2,.bool g3,.slice A4 n4 c4,.slice A5 n5 c5]
end Go.Gx

namespace Go.Gx
theorem QxA{e:Nat→Value}{t1 t2:Nat}{v1 v2:Value}(h1:e t1=v1)(h2:e t2=v2): ∃r,e=upd (upd r t2 v2) t1 v1:=⟨e,by rw[Xm h2,Xm h1]⟩
theorem Qqe{e:Nat→Value}{t1 t2 t3:Nat}{v1 v2 v3:Value}(h1:e t1=v1)(h2:e t2=v2)(h3:e t3=v3): ∃r,e=upd (upd (upd r t3 v3) t2 v2) t1 v1:=⟨e,by rw[Xm h3,Xm h2,Xm h1]⟩
theorem QsT{e:Nat→Value}{t1 t2 t3 t4:Nat}{v1 v2 v3 v4:Value}(h1:e t1=v1)(h2:e t2=v2)(h3:e t3=v3)(h4:e t4=v4): ∃r,e=upd (upd (upd (upd r t4 v4) t3 v3) t2 v2) t1 v1:=⟨e,by rw[Xm h4,Xm h3,Xm h2,Xm h1]⟩
theorem Qjz{e:Nat→Value}{t1 t2 t3 t4 t5:Nat}{v1 v2 v3 v4 v5:Value}(h1:e t1=v1)(h2:e t2=v2)(h3:e t3=v3)(h4:e t4=v4)(h5:e t5=v5): ∃r,e=upd (upd (upd (upd (upd r t5 v5) t4 v4) t3 v3) t2 v2) t1 v1:=⟨e,by rw[Xm h5,Xm h4,Xm h3,Xm h2,Xm h1]⟩
theorem Qid{e:Nat→Value}{t1 t2 t3 t4 t5 t6:Nat}{v1 v2 v3 v4 v5 v6:Value}(h1:e t1=v1)(h2:e t2=v2)(h3:e t3=v3)(h4:e t4=v4)(h5:e t5=v5)(h6:e t6=v6): ∃r,e=upd (upd (upd (upd (upd (upd r t6 v6) t5 v5) t4 v4) t3 v3) t2 v2) t1 v1:=⟨e,by rw[Xm h6,Xm h5,Xm h4,Xm h3,Xm h2,Xm h1]⟩
theorem Qu1{e:Nat→Value}{t1 t2 t3 t4 t5 t6 t7:Nat}{v1 v2 v3 v4 v5 v6 v7:Value}(h1:e t1=v1)(h2:e t2=v2)(h3:e t3=v3)(h4:e t4=v4)(h5:e t5=v5)(h6:e t6=v6)(h7:e t7=v7): ∃r,e=upd (upd (upd (upd (upd (upd (upd r t7 v7) t6 v6) t5 v5) t4 v4) t3 v3) t2 v2) t1 v1:=⟨e,by rw[Xm h7,Xm h6,Xm h5,Xm h4,Xm h3,Xm h2,Xm h1]⟩
theorem QsU{e:Nat→Value}{t1 t2 t3 t4 t5 t6 t7 t8:Nat}{v1 v2 v3 v4 v5 v6 v7 v8:Value}(h1:e t1=v1)(h2:e t2=v2)(h3:e t3=v3)(h4:e t4=v4)(h5:e t5=v5)(h6:e t6=v6)(h7:e t7=v7)(h8:e t8=v8): ∃r,e=upd (upd (upd (upd (upd (upd (upd (upd r t8 v8) t7 v7) t6 v6) t5 v5) t4 v4) t3 v3) t2 v2) t1 v1:=⟨e,by rw[Xm h8,Xm h7,Xm h6,Xm h5,Xm h4,Xm h3,Xm h2,Xm h1]⟩
theorem QxQ{e:Nat→Value}{t1 t2 t3 t4 t5 t6 t7 t8 t9:Nat}{v1 v2 v3 v4 v5 v6 v7 v8 v9:Value}(h1:e t1=v1)(h2:e t2=v2)(h3:e t3=v3)(h4:e t4=v4)(h5:e t5=v5)(h6:e t6=v6)(h7:e t7=v7)(h8:e t8=v8)(h9:e t9=v9): ∃r,e=upd (upd (upd (upd (upd (upd (upd (upd (upd r t9 v9) t8 v8) t7 v7) t6 v6) t5 v5) t4 v4) t3 v3) t2 v2) t1 v1:=⟨e,by rw[Xm h9,Xm h8,Xm h7,Xm h6,Xm h5,Xm h4,Xm h3,Xm h2,Xm h1]⟩
theorem Qxy{e:Nat→Value}{t1 t2 t3 t4 t5 t6 t7 t8 t9 t10:Nat}{v1 v2 v3 v4 v5 v6 v7 v8 v9 v10:Value}(h1:e t1=v1)(h2:e t2=v2)(h3:e t3=v3)(h4:e t4=v4)(h5:e t5=v5)(h6:e t6=v6)(h7:e t7=v7)(h8:e t8=v8)(h9:e t9=v9)(h10:e t10=v10): ∃r,e=upd (upd (upd (upd (upd (upd (upd (upd (upd (upd r t10 v10) t9 v9) t8 v8) t7 v7) t6 v6) t5 v5) t4 v4) t3 v3) t2 v2) t1 v1:=⟨e,by rw[Xm h10,Xm h9,Xm h8,Xm h7,Xm h6,Xm h5,Xm h4,Xm h3,Xm h2,Xm h1]⟩
theorem Qqd{e:Nat→Value}{t1 t2 t3 t4 t5 t6 t7 t8 t9 t10 t11:Nat}{v1 v2 v3 v4 v5 v6 v7 v8 v9 v10 v11:Value}(h1:e t1=v1)(h2:e t2=v2)(h3:e t3=v3)(h4:e t4=v4)(h5:e t5=v5)(h6:e t6=v6)(h7:e t7=v7)(h8:e t8=v8)(h9:e t9=v9)(h10:e t10=v10)(h11:e t11=v11): ∃r,e=upd (upd (upd (upd (upd (upd (upd (upd (upd (upd (upd r t11 v11) t10 v10) t9 v9) t8 v8) t7 v7) t6 v6) t5 v5) t4 v4) t3 v3) t2 v2) t1 v1:=⟨e,by rw[Xm h11,Xm h10,Xm h9,Xm h8,Xm h7,Xm h6,Xm h5,Xm h4,Xm h3,Xm h2,Xm h1]⟩
theorem Qx5{e:Nat→Value}{t1 t2 t3 t4 t5 t6 t7 t8 t9 t10 t11 t12:Nat}{v1 v2 v3 v4 v5 v6 v7 v8 v9 v10 v11 v12:Value}(h1:e t1=v1)(h2:e t2=v2)(h3:e t3=v3)(h4:e t4=v4)(h5:e t5=v5)(h6:e t6=v6)(h7:e t7=v7)(h8:e t8=v8)(h9:e t9=v9)(h10:e t10=v10)(h11:e t11=v11)(h12:e t12=v12): ∃r,e=upd (upd (upd (upd (upd (upd (upd (upd (upd (upd (upd (upd r t12 v12) t11 v11) t10 v10) t9 v9) t8 v8) t7 v7) t6 v6) t5 v5) t4 v4) t3 v3) t2 v2) t1 v1:=⟨e,by rw[Xm h12,Xm h11,Xm h10,Xm h9,Xm h8,Xm h7,Xm h6,Xm h5,Xm h4,Xm h3,Xm h2,Xm h1]⟩
theorem Qxz{e:Nat→Value}{t1 t2 t3 t4 t5 t6 t7 t8 t9 t10 t11 t12 t13:Nat}{v1 v2 v3 v4 v5 v6 v7 v8 v9 v10 v11 v12 v13:Value}(h1:e t1=v1)(h2:e t2=v2)(h3:e t3=v3)(h4:e t4=v4)(h5:e t5=v5)(h6:e t6=v6)(h7:e t7=v7)(h8:e t8=v8)(h9:e t9=v9)(h10:e t10=v10)(h11:e t11=v11)(h12:e t12=v12)(h13:e t13=v13): ∃r,e=upd (upd (upd (upd (upd (upd (upd (upd (upd (upd (upd (upd (upd r t13 v13) t12 v12) t11 v11) t10 v10) t9 v9) t8 v8) t7 v7) t6 v6) t5 v5) t4 v4) t3 v3) t2 v2) t1 v1:=⟨e,by rw[Xm h13,Xm h12,Xm h11,Xm h10,Xm h9,Xm h8,Xm h7,Xm h6,Xm h5,Xm h4,Xm h3,Xm h2,Xm h1]⟩
theorem Qx6{e:Nat→Value}{t1 t2 t3 t4 t5 t6 t7 t8 t9 t10 t11 t12 t13 t14:Nat}{v1 v2 v3 v4 v5 v6 v7 v8 v9 v10 v11 v12 v13 v14:Value}(h1:e t1=v1)(h2:e t2=v2)(h3:e t3=v3)(h4:e t4=v4)(h5:e t5=v5)(h6:e t6=v6)(h7:e t7=v7)(h8:e t8=v8)(h9:e t9=v9)(h10:e t10=v10)(h11:e t11=v11)(h12:e t12=v12)(h13:e t13=v13)(h14:e t14=v14): ∃r,e=upd (upd (upd (upd (upd (upd (upd (upd (upd (upd (upd (upd (upd (upd r t14 v14) t13 v13) t12 v12) t11 v11) t10 v10) t9 v9) t8 v8) t7 v7) t6 v6) t5 v5) t4 v4) t3 v3) t2 v2) t1 v1:=⟨e,by rw[Xm h14,Xm h13,Xm h12,Xm h11,Xm h10,Xm h9,Xm h8,Xm h7,Xm h6,Xm h5,Xm h4,Xm h3,Xm h2,Xm h1]⟩
theorem Qx7{e:Nat→Value}{t1 t2 t3 t4 t5 t6 t7 t8 t9 t10 t11 t12 t13 t14 t15:Nat}{v1 v2 v3 v4 v5 v6 v7 v8 v9 v10 v11 v12 v13 v14 v15:Value}(h1:e t1=v1)(h2:e t2=v2)(h3:e t3=v3)(h4:e t4=v4)(h5:e t5=v5)(h6:e t6=v6)(h7:e t7=v7)(h8:e t8=v8)(h9:e t9=v9)(h10:e t10=v10)(h11:e t11=v11)(h12:e t12=v12)(h13:e t13=v13)(h14:e t14=v14)(h15:e t15=v15): ∃r,e=upd (upd (upd (upd (upd (upd (upd (upd (upd (upd (upd (upd (upd (upd (upd r t15 v15) t14 v14) t13 v13) t12 v12) t11 v11) t10 v10) t9 v9) t8 v8) t7 v7) t6 v6) t5 v5) t4 v4) t3 v3) t2 v2) t1 v1:=⟨e,by rw[Xm h15,Xm h14,Xm h13,Xm h12,Xm h11,Xm h10,Xm h9,Xm h8,Xm h7,Xm h6,Xm h5,Xm h4,Xm h3,Xm h2,Xm h1]⟩
theorem Qx8{e:Nat→Value}{t1 t2 t3 t4 t5 t6 t7 t8 t9 t10 t11 t12 t13 t14 t15 t16:Nat}{v1 v2 v3 v4 v5 v6 v7 v8 v9 v10 v11 v12 v13 v14 v15 v16:Value}(h1:e t1=v1)(h2:e t2=v2)(h3:e t3=v3)(h4:e t4=v4)(h5:e t5=v5)(h6:e t6=v6)(h7:e t7=v7)(h8:e t8=v8)(h9:e t9=v9)(h10:e t10=v10)(h11:e t11=v11)(h12:e t12=v12)(h13:e t13=v13)(h14:e t14=v14)(h15:e t15=v15)(h16:e t16=v16): ∃r,e=upd (upd (upd (upd (upd (upd (upd (upd (upd (upd (upd (upd (upd (upd (upd (upd r t16 v16) t15 v15) t14 v14) t13 v13) t12 v12) t11 v11) t10 v10) t9 v9) t8 v8) t7 v7) t6 v6) t5 v5) t4 v4) t3 v3) t2 v2) t1 v1:=⟨e,by rw[Xm h16,Xm h15,Xm h14,Xm h13,Xm h12,Xm h11,Xm h10,Xm h9,Xm h8,Xm h7,Xm h6,Xm h5,Xm h4,Xm h3,Xm h2,Xm h1]⟩
theorem Qx9{e:Nat→Value}{t1 t2 t3 t4 t5 t6 t7 t8 t9 t10 t11 t12 t13 t14 t15 t16 t17:Nat}{v1 v2 v3 v4 v5 v6 v7 v8 v9 v10 v11 v12 v13 v14 v15 v16 v17:Value}(h1:e t1=v1)(h2:e t2=v2)(h3:e t3=v3)(h4:e t4=v4)(h5:e t5=v5)(h6:e t6=v6)(h7:e t7=v7)(h8:e t8=v8)(h9:e t9=v9)(h10:e t10=v10)(h11:e t11=v11)(h12:e t12=v12)(h13:e t13=v13)(h14:e t14=v14)(h15:e t15=v15)(h16:e t16=v16)(h17:e t17=v17): ∃r,e=upd (upd (upd (upd (upd (upd (upd (upd (upd (upd (upd (upd (upd (upd (upd (upd (upd r t17 v17) t16 v16) t15 v15) t14 v14) t13 v13) t12 v12) t11 v11) t10 v10) t9 v9) t8 v8) t7 v7) t6 v6) t5 v5) t4 v4) t3 v3) t2 v2) t1 v1:=⟨e,by rw[Xm h17,Xm h16,Xm h15,Xm h14,Xm h13,Xm h12,Xm h11,Xm h10,Xm h9,Xm h8,Xm h7,Xm h6,Xm h5,Xm h4,Xm h3,Xm h2,Xm h1]⟩
theorem Qya{e:Nat→Value}{t1 t2 t3 t4 t5 t6 t7 t8 t9 t10 t11 t12 t13 t14 t15 t16 t17 t18:Nat}{v1 v2 v3 v4 v5 v6 v7 v8 v9 v10 v11 v12 v13 v14 v15 v16 v17 v18:Value}(h1:e t1=v1)(h2:e t2=v2)(h3:e t3=v3)(h4:e t4=v4)(h5:e t5=v5)(h6:e t6=v6)(h7:e t7=v7)(h8:e t8=v8)(h9:e t9=v9)(h10:e t10=v10)(h11:e t11=v11)(h12:e t12=v12)(h13:e t13=v13)(h14:e t14=v14)(h15:e t15=v15)(h16:e t16=v16)(h17:e t17=v17)(h18:e t18=v18): ∃r,e=upd (upd (upd (upd (upd (upd (upd (upd (upd (upd (upd (upd (upd (upd (upd (upd (upd (upd r t18 v18) t17 v17) t16 v16) t15 v15) t14 v14) t13 v13) t12 v12) t11 v11) t10 v10) t9 v9) t8 v8) t7 v7) t6 v6) t5 v5) t4 v4) t3 v3) t2 v2) t1 v1:=⟨e,by rw[Xm h18,Xm h17,Xm h16,Xm h15,Xm h14,Xm h13,Xm h12,Xm h11,Xm h10,Xm h9,Xm h8,Xm h7,Xm h6,Xm h5,Xm h4,Xm h3,Xm h2,Xm h1]⟩
theorem Qyb{e:Nat→Value}{t1 t2 t3 t4 t5 t6 t7 t8 t9 t10 t11 t12 t13 t14 t15 t16 t17 t18 t19:Nat}{v1 v2 v3 v4 v5 v6 v7 v8 v9 v10 v11 v12 v13 v14 v15 v16 v17 v18 v19:Value}(h1:e t1=v1)(h2:e t2=v2)(h3:e t3=v3)(h4:e t4=v4)(h5:e t5=v5)(h6:e t6=v6)(h7:e t7=v7)(h8:e t8=v8)(h9:e t9=v9)(h10:e t10=v10)(h11:e t11=v11)(h12:e t12=v12)(h13:e t13=v13)(h14:e t14=v14)(h15:e t15=v15)(h16:e t16=v16)(h17:e t17=v17)(h18:e t18=v18)(h19:e t19=v19): ∃r,e=upd (upd (upd (upd (upd (upd (upd (upd (upd (upd (upd (upd (upd (upd (upd (upd (upd (upd (upd r t19 v19) t18 v18) t17 v17) t16 v16) t15 v15) t14 v14) t13 v13) t12 v12) t11 v11) t10 v10) t9 v9) t8 v8) t7 v7) t6 v6) t5 v5) t4 v4) t3 v3) t2 v2) t1 v1:=⟨e,by rw[Xm h19,Xm h18,Xm h17,Xm h16,Xm h15,Xm h14,Xm h13,Xm h12,Xm h11,Xm h10,Xm h9,Xm h8,Xm h7,Xm h6,Xm h5,Xm h4,Xm h3,Xm h2,Xm h1]⟩
theorem Qyc{e:Nat→Value}{t1 t2 t3 t4 t5 t6 t7 t8 t9 t10 t11 t12 t13 t14 t15 t16 t17 t18 t19 t20:Nat}{v1 v2 v3 v4 v5 v6 v7 v8 v9 v10 v11 v12 v13 v14 v15 v16 v17 v18 v19 v20:Value}(h1:e t1=v1)(h2:e t2=v2)(h3:e t3=v3)(h4:e t4=v4)(h5:e t5=v5)(h6:e t6=v6)(h7:e t7=v7)(h8:e t8=v8)(h9:e t9=v9)(h10:e t10=v10)(h11:e t11=v11)(h12:e t12=v12)(h13:e t13=v13)(h14:e t14=v14)(h15:e t15=v15)(h16:e t16=v16)(h17:e t17=v17)(h18:e t18=v18)(h19:e t19=v19)(h20:e t20=v20): ∃r,e=upd (upd (upd (upd (upd (upd (upd (upd (upd (upd (upd (upd (upd (upd (upd (upd (upd (upd (upd (upd r t20 v20) t19 v19) t18 v18) t17 v17) t16 v16) t15 v15) t14 v14) t13 v13) t12 v12) t11 v11) t10 v10) t9 v9) t8 v8) t7 v7) t6 v6) t5 v5) t4 v4) t3 v3) t2 v2) t1 v1:=⟨e,by rw[Xm h20,Xm h19,Xm h18,Xm h17,Xm h16,Xm h15,Xm h14,Xm h13,Xm h12,Xm h11,Xm h10,Xm h9,Xm h8,Xm h7,Xm h6,Xm h5,Xm h4,Xm h3,Xm h2,Xm h1]⟩
end Go.Gx

namespace Go.Gx
theorem Qo{p:Prop}(h:p:=by omega):p:=h
theorem Qn{n m:Nat}(h:Nat.ble n m=true:=by rfl):n≤m:=Uj h
end Go.Gx

namespace Go.Gx
theorem E{α:Sort _}{a:α}:a=a:=rfl
end Go.Gx
