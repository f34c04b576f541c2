/-
  ModTab, OpenP
-/
import Derived.Test.YtjdpemcnlejpfaaGreatDoorModDiv
import Derived.Test.YtjdpemcnlejpfaaGreatDoorGcdMath
import Derived.Test.YtjdpemcnlejpfaaGreatDoorOpen16
set_option linter.all false
namespace Go.Gx
open Go.RowKit
def u8v(x:Nat):Value:= .int .u8 (x:Int)
def Qi4(w:World):Prop:=Rd w (fun b=>b=0) (some ⟨0,0,none⟩) 32 32 1 (QyY.map u8v)
section
variable{w w':World}{G:Nat→Prop}
theorem Qi4.frmB(h:Qi4 w)(f:Frm G w w')(hd: ∀b,b<w.heap.size→b=0→ ¬G b):Qi4 w':=Rd.frmB h f hd
theorem Qi4.t(h:Qi4 w)(f:Frm G w w':=by exact zrd)(hd: ∀b,b<w.heap.size→b=0→ ¬G b:=by exact zq6):Qi4 w':=h.frmB f hd
theorem Qi4.ext(h:Qi4 w)(f:Ext w w'):Qi4 w':=Rd.ext h f
theorem Qi4.lt0(h:Qi4 w):0<w.heap.size:=by
  obtain⟨b,off,_,hb,hl,_⟩:=h.2.2.2 (by omega)
  omega
theorem Qi4.cell{i x:Nat}(h:Qi4 w)(hi:QyY[i]? =some x):w.cell? ⟨0,i,none⟩=some (.int .u8 (x:Int)):=by
  have h1:=Rd.cell h (j:=i) (v:=u8v x) (by simp [hi])
  rw[Nat.zero_add] at h1
  exact h1
end
section
variable{P:Program}{n:Nat}{e:Nat→Value}{w:World}{ty:TypeId}{pos:String}{af:Array Edge}{gd:Option (Nat×Bool)}
end
end Go.Gx
namespace Go.Gx
open Go.RowKit Go.ChangeShapes Go.WideShapes Go.Deep
def QDW(l:List (Int×Int)):List Value:=l.flatMap fun t=>[.int .i8 t.1,.int .i8 t.2]
theorem QDY(l:List (Int×Int)):(QDW l).length=l.length*2:=by
  induction l with
  |nil=>rfl
  |cons r l ih=>simp only[QDW,List.flatMap_cons,List.length_append,List.length_cons] at ih⊢;rw[ih];simp;omega
theorem QEh(t:Int×Int)(l:List (Int×Int)):QDW (t::l)= .int .i8 t.1:: .int .i8 t.2::QDW l:=by simp [QDW]
theorem QEo{l:List (Int×Int)}: ∀{i:Nat}{t:Int×Int}(k:Nat),l[i]? =some t→k<2→(QDW l)[i*2+k]? =some (.int .i8 (if k=0 then t.1 else t.2)):=by
  induction l with
  |nil=>intro i r k h;simp at h
  |cons x l ih=>
    intro i r k h hk
    rw[QEh]
    cases i with
    |zero=>
      simp at h;subst h
      match k,hk with
      |0,_=>rfl
      |1,_=>rfl
    |succ i=>
      simp at h
      have :=ih k h hk
      rw[show(i+1)*2+k=i*2+k+1+1 by omega]
      simpa using this
def QEZ(w:World)(S:Nat→Prop)(A:Option Addr)(n c:Nat)(l:List (Int×Int)):Prop:=Rd w S A n c 2 (QDW l)∧ ∀t∈l,(-128≤t.1∧t.1≤127)∧ -128≤t.2∧t.2≤127
section
variable{H:Type}{enc:TypeId×Value→H}{P:Program}{w:World}{base:Nat}{spare:Nat→Bool}{held:Bool}
theorem QEI{t:TypeId}{fuel:Nat}{v:Value}{x:DataW H×List MemPlace}(ht:P.underlying t=some (.int .i8))(h:DataW.trod enc P w base spare held fuel t [v]=some x): ∃y:Int,v= .int .i8 y∧ -128≤y∧y≤127:=by
  obtain⟨m,e,_,hw⟩:=DataW.trod_int ht h
  simp at e
  exact⟨m,e,QFu hw⟩
theorem open_pair{t e:TypeId}{fuel:Nat}{v0 v1:Value}{x:DataW H×List MemPlace}(ht:P.underlying t=some (.array 2 e))(he:P.underlying e=some (.int .i8))(hc:P.cellsOf e=1)
    (h:DataW.trod enc P w base spare held fuel t [v0,v1]=some x): ∃a b:Int,v0= .int .i8 a∧v1= .int .i8 b∧(-128≤a∧a≤127)∧ -128≤b∧b≤127:=by
  obtain⟨xs,m,_,_,_,hl,hi⟩:=DataW.trod_array ht h
  have one: ∀i,i<2→ ∃y,DataW.trod enc P w base spare held m e (([v0,v1].drop i).take 1)=some y:=fun i hi3=>by
    have h1:=hi i hi3
    rw[hc,Nat.mul_one] at h1
    exact⟨xs[i]'(by omega),by rw[←List.getElem?_eq_getElem];exact h1⟩
  obtain⟨_,h0⟩:=one 0 (by omega)
  obtain⟨_,h1⟩:=one 1 (by omega)
  obtain⟨a,rfl,ha⟩:=QEI he h0
  obtain⟨b,rfl,hb⟩:=QEI he h1
  exact⟨a,b,rfl,rfl,ha,hb⟩
theorem QD2{Q:Nat→Int×Int→Prop}: ∀(n:Nat),(∀i,i<n→ ∃r,Q i r)→ ∃l:List (Int×Int),l.length=n∧ ∀i r,l[i]? =some r→Q i r
  |0,_=>⟨[],rfl,fun i r h=>by simp at h⟩
  |n+1,h=>by
    obtain⟨l,hl,hq⟩:=QD2 n fun i hi=>h i (by omega)
    obtain⟨r,hr⟩:=h n (by omega)
    refine⟨l++[r],by simp [hl],fun i x hx=> ?_⟩
    rcases Nat.lt_trichotomy i l.length with h1|h1|h1
    · rw[List.getElem?_append_left h1] at hx;exact hq i x hx
    · subst h1;simp at hx;subst hx;rw[hl];exact hr
    · rw[List.getElem?_eq_none (by simp;omega)] at hx;cases hx
theorem QED{t e e8:TypeId}{fuel:Nat}{A:Option Addr}{n c:Nat}{x:DataW H×List MemPlace}(ht:P.underlying t=some (.slice e))(he:P.underlying e=some (.array 2 e8))(h8:P.underlying e8=some (.int .i8))(hc8:P.cellsOf e8=1)(hC:P.cellsOf e=2)
    (h:DataW.trod enc P w base spare held fuel t [.slice A n c]=some x): ∃l,QEZ w (fun _=>True) A n c l:=by
  rcases open_slice ht h with⟨hcs,_⟩| ⟨a,len,cap,m,k,D,Pl,hcs,hb,hl,hm,hmm,_,hi⟩
  · simp at hcs;obtain⟨rfl,rfl,rfl⟩:=hcs;exact⟨[],Rd.nil,by simp⟩
  · simp at hcs
    obtain⟨rfl,rfl,rfl⟩:=hcs
    have hml:n≤m:=by rw[hmm];split<;>omega
    have each: ∀i,i<n→ ∃r:Int×Int,(∀k,k<2→w.cell? (a.add (i*2+k))=some (.int .i8 (if k=0 then r.1 else r.2)))∧(-128≤r.1∧r.1≤127)∧ -128≤r.2∧r.2≤127:=by
      intro i hin
      obtain⟨cs',hc',htr⟩:=hi i (by omega)
      rw[hC] at hc'
      obtain⟨_,hcl,hat⟩:=World.cells?_some hc'
      match cs',hcl with
      | [v0,v1],_=>
        obtain⟨y0,y1,rfl,rfl,b0,b1⟩:=open_pair he h8 hc8 htr
        have e0:=hat 0 (by omega)
        have e1:=hat 1 (by omega)
        simp only[Go.Deep.add_add] at e0 e1
        refine⟨(y0,y1),fun k hk=> ?_,b0,b1⟩
        match k,hk with
        |0,_=>rw[e0];rfl
        |1,_=>rw[e1];rfl
    obtain⟨l,hll,hq⟩:=QD2 n each
    refine⟨l,⟨by rw[QDY,hll],hl,by simp [Qax,maxLen] at hm⊢;omega,fun hn0=> ?_⟩,fun r hr=> ?_⟩
    · obtain⟨r0,hr0,_⟩:=each 0 hn0
      have hr0:=hr0 0 (by omega)
      have hs:(a.add (0*2+0)).spot=none:=World.cell?_spot hr0
      obtain⟨b,off,spot⟩:=a
      have hsp:spot=none:=by simpa [Addr.add] using hs
      subst hsp
      refine⟨b,off,rfl,trivial,?_,fun j v hj=> ?_⟩
      · have :=World.block_lt_of_cell? w _ hr0
        simpa [addr_add] using this
      · have hjl:j<l.length*2:=by
          rw[←QDY]
          rcases Nat.lt_or_ge j (QDW l).length with h2|h2
          · exact h2
          · rw[List.getElem?_eq_none h2] at hj;cases hj
        have hlt:j/2<l.length:=by omega
        have hget:l[j/2]? =some l[j/2]:=List.getElem?_eq_getElem hlt
        have h4:j/2*2+j % 2=j:=by omega
        have hcg:=QEo (j % 2) hget (by omega)
        have hqq:=(hq _ _ hget).1 (j % 2) (by omega)
        simp only[addr_add] at hqq
        rw[h4] at hcg hqq
        rw[hcg] at hj
        injection hj with hj;subst hj
        exact hqq
    · obtain⟨i,hi',e⟩:=List.getElem_of_mem hr
      exact(hq i r (by rw[List.getElem?_eq_getElem hi',e])).2
end
end Go.Gx
