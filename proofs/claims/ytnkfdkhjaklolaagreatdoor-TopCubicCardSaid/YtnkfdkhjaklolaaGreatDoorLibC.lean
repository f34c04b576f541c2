/-
  The laws of the walks and the plain laws of numbers and polynomials, part 3: ResMath2, TopMath.
-/
import Derived.Test.YtnkfdkhjaklolaaGreatDoorLibB
open Int renaming natAbs_mul→UW
open List renaming getD_cons_succ→QyR,getD_cons_zero→Qzc,getElem?_eq_none→Ul,getElem?_map→Un,getElem?_set→WU,mem_cons→WN,not_mem_nil→Ww,range_succ→WP
open Nat renaming le_mul_of_pos_right→Qyx,le_of_ble_eq_true→Uj,le_trans→Wj,mul_assoc→UB,mul_comm→UC,mul_le_mul→QyN,mul_le_mul_left→Uf,mul_le_mul_right→Uy,pow_pos→WQ

namespace Go.Gx
open Go.RowKit
def stF(n k:Nat)(V R:Nat→Int):Nat→Int:=fun j=>R j*V n - if k≤j then R (n+k)*V (j -k) else 0
def rdF(n:Nat)(V:Nat→Int):Nat→(Nat→Int)→Nat→Int
 |0,R=>R
 |k+1,R=>rdF n V k (stF n k V R)
def fn(F:List Int):Nat→Int:=fun j=>F.getD j 0
def QrL(F G:List Int):List Int:=(List.range (G.length -1)).map (rdF (G.length -1) (fn G) (F.length -(G.length -1)) (fn F))
def Qvm(F G:List Int):List Int:=QrL F (G.map (· * -1))
theorem QmE(F G:List Int):(QrL F G).length=G.length -1:=by simp [QrL]
def VL(D:List TT)(m:Nat)(R:Nat→Int):Prop:= ∀a t,a<m→D[a]? =some t→t.val=kT (R a)
theorem VL.of{D:List TT}{F:List Int}(h:D.map TT.val=F.map kT):VL D F.length (fn F):=fun _ _ _ he=>(QdO h he).1
theorem VL.le{D:List TT}{m m':Nat}{R:Nat→Int}(h:VL D m R)(hm:m'≤m):VL D m' R:=fun a t ha he=>h a t (Nat.lt_of_lt_of_le ha hm) he
theorem VL.out{D:List TT}{m:Nat}{R:Nat→Int}(h:VL D m R)(hm:m≤D.length):(D.take m).map TT.val=((List.range m).map R).map kT:=by
 apply List.ext_getElem?
 intro j
 rcases Nat.lt_or_ge j m with hj|hj
 ·have h1:D[j]? =some (D[j]'(by omega)):=List.getElem?_eq_getElem _
  have h2:=h j _ hj h1
  simp only[Un,List.getElem?_take,hj,if_pos,h1,List.getElem?_range hj,Option.map_some,h2]
 ·rw[Ul (by simp;omega),Ul (by simp;omega)]
def QnJ(j:Nat)(N R:Nat→Int):Nat→Int:=fun a=>if a<j then N a else R a
theorem Qpy{D:List TT}{m:Nat}{N R:Nat→Int}(h:VL D m R):VL D m (QnJ 0 N R):=fun a t ha he=>by rw[h a t ha he];rfl
theorem QuD{D:List TT}{m j:Nat}{N R:Nat→Int}(h:VL D m (QnJ j N R))(hj:m≤j):VL D m N:=fun a t ha he=>by
 rw[h a t ha he];simp [QnJ,show a<j by omega]
theorem Qmp{D:List TT}{m j:Nat}{N R:Nat→Int}{r:TT}(h:VL D m (QnJ j N R))(hr:r.val=kT (N j)):VL (D.set j r) m (QnJ (j+1) N R):=fun a t ha he=>by
 rw[WU] at he
 split at he
 ·rename_i hj
  subst hj
  split at he
  ·rw[←Option.some.inj he,hr];simp [QnJ]
  ·cases he
 ·rename_i hj
  rw[h a t ha he]
  unfold QnJ
  by_cases h1:a<j
  ·rw[if_pos h1,if_pos (by omega)]
  ·rw[if_neg h1,if_neg (by omega)]
theorem Qwq{D:List TT}{m j:Nat}{N R:Nat→Int}{t:TT}(h:VL D m (QnJ j N R))(hj:j<m)(he:D[j]? =some t):t.val=kT (R j):=by
 rw[h j t hj he];simp [QnJ]
theorem QsS{D:List TT}{j:Nat}{r t:TT}(he:(D.set j r)[j]? =some t):t=r:=by
 rw[WU] at he
 simp only[if_pos] at he
 split at he
 ·exact(Option.some.inj he).symm
 ·cases he
theorem QwJ{n k j:Nat}{V R:Nat→Int}(h: ¬k≤j):R j*V n=stF n k V R j:=by simp [stF,h]
theorem QwI{n k j:Nat}{V R:Nat→Int}(h:k≤j):R j*V n -R (n+k)*V (j -k)=stF n k V R j:=by simp [stF,h]
def BdF(L C s:Nat)(R:Nat→Int):Prop:= ∀a,a<L→(R a).natAbs*(2*C)^s≤1152921504606846976
theorem BdF.one{L C s a:Nat}{R:Nat→Int}(h:BdF L C s R)(hC:1≤C)(ha:a<L):(R a).natAbs≤1152921504606846976:=
 Wj (Qyx _ (WQ (by omega))) (h a ha)
theorem BdF.mul{L C s a:Nat}{R:Nat→Int}{v:Int}(h:BdF L C (s+1) R)(hC:1≤C)(ha:a<L)(hv:v.natAbs≤C):(R a*v).natAbs*2*(2*C)^s≤1152921504606846976:=by
 have h1:=h a ha
 rw[UW]
 refine Wj ?_ h1
 rw[Nat.pow_succ,UB,UB,UC ((2*C)^s) (2*C),←UB (R a).natAbs (2*C)]
 have h2:v.natAbs*(2*(2*C)^s)≤2*C*(2*C)^s:=by
  rw[←UB,UC v.natAbs 2];exact Uy _ (Uf _ hv)
 calc (R a).natAbs*(v.natAbs*(2*(2*C)^s))≤(R a).natAbs*(2*C*(2*C)^s):=Uf _ h2
  _=(R a).natAbs*(2*C)*(2*C)^s:=by rw[UB (R a).natAbs]
theorem BdF.mul1{L C s a:Nat}{R:Nat→Int}{v:Int}(h:BdF L C (s+1) R)(hC:1≤C)(ha:a<L)(hv:v.natAbs≤C):(R a*v).natAbs≤1152921504606846976:=by
 have h1:=h.mul hC ha hv
 have h2:1≤(2*C)^s:=WQ (by omega)
 have h3:(R a*v).natAbs*2≤(R a*v).natAbs*2*(2*C)^s:=Qyx _ h2
 omega
theorem BdF.next{n k C s:Nat}{V R:Nat→Int}(h:BdF (n+k+1) C (s+1) R)(hC:1≤C)(hV: ∀a,a≤n→(V a).natAbs≤C):BdF (n+k) C s (stF n k V R):=fun a ha=>by
 have h1:=h.mul hC (show a<n+k+1 by omega) (hV n (Nat.le_refl _))
 by_cases h2:k≤a
 ·have h3:=h.mul hC (show n+k<n+k+1 by omega) (hV (a -k) (by omega))
  rw[←QwI h2]
  have h4:(R a*V n -R (n+k)*V (a -k)).natAbs≤(R a*V n).natAbs+(R (n+k)*V (a -k)).natAbs:=by omega
  have h5:=Uy ((2*C)^s) h4
  rw[Nat.add_mul] at h5
  rw[UB,UC 2,←UB] at h1 h3
  omega
 ·rw[←QwJ h2]
  rw[UB,UC 2,←UB] at h1
  omega
theorem Qmc{G:List Int}{C n:Nat}(h: ∀x∈G,x.natAbs≤C)(hn:n<G.length): ∀a,a≤n→(fn G a).natAbs≤C:=fun _ ha=>h _ (get_mem (by omega))
theorem QkA{n C:Nat}{V:Nat→Int}(hC:1≤C)(hV: ∀a,a≤n→(V a).natAbs≤C): ∀{s:Nat}{R:Nat→Int},BdF (n+s) C s R→ ∀a,a<n→(rdF n V s R a).natAbs≤1152921504606846976
 |0,R,h,a,ha=>h.one hC (by omega)
 |s+1,R,h,a,ha=>QkA hC hV (h.next hC hV) a ha
theorem QwF(p q:Int):Qvm [q,p,0,1] [p,0,3]=[9*q,6*p]:=by
 simp [Qvm,QrL,rdF,stF,fn,WP]
 constructor<;>grind
theorem QsR(p q:Int):Qvm [p,0,3] [9*q,6*p]=[9*(4*(p*p*p)+27*(q*q))]:=by
 simp [Qvm,QrL,rdF,stF,fn,WP]
 grind
theorem QwE:Qvm [-1,1] [-2,1]=[-1]:=by decide
end Go.Gx
namespace Go.Gx
open Go.RowKit
theorem Qro{D:List TT}{m j:Nat}{N R:Nat→Int}{r0 r:TT}(h:VL D m (QnJ j N R))(hr:r.val=kT (N j)):VL ((D.set j r0).set j r) m (QnJ (j+1) N R):=by
 rw[List.set_set];exact Qmp h hr
end Go.Gx
namespace Go.Gx
open Go.RowKit
theorem Qnt{F G:List Int}{C:Nat}(hC:1≤C)(hG: ∀x∈G,x.natAbs≤C)(hg:1≤G.length∧G.length≤F.length)(hB:BdF F.length C (F.length -(G.length -1)) (fn F)): ∀x∈QrL F G,x.natAbs≤1152921504606846976:=fun x hx=>by
 obtain⟨a,ha,rfl⟩:=List.mem_map.1 hx
 refine QkA hC (Qmc hG (by omega)) ?_ a (List.mem_range.1 ha)
 rw[show G.length -1+(F.length -(G.length -1))=F.length by omega]
 exact hB
theorem QpH{G:List Int}{C:Nat}(h: ∀x∈G,x.natAbs≤C): ∀x∈G.map (· * -1),x.natAbs≤C:=fun x hx=>by
 obtain⟨y,hy,rfl⟩:=List.mem_map.1 hx
 have :=h y hy
 show(y* -1).natAbs≤C
 omega
theorem QpG{G:List Int}(h:Xi G=G):Xi (G.map (· * -1))=G.map (· * -1):=by
 cases hG:G with
 |nil=>rfl
 |cons a l=>exact YL (Qml (by decide) (by rw[←hG];exact Qpn h (by rw[hG];exact List.cons_ne_nil _ _)))
theorem Qgr(x:Int):uT (Xi [x])=kT x:=by
 by_cases h:x=0
 ·subst h;rfl
 ·rw[YL (F:=[x]) (by simpa using h)];rfl
theorem YO.one{α:Type}{L:SK α}{w:World}{S:Nat→Prop}{a:α}(ha:L.R w S a):YO L w S [a]:=fun x hx=>by rw[List.mem_singleton.1 hx];exact ha
theorem YO.two{α:Type}{L:SK α}{w:World}{S:Nat→Prop}{a b:α}(ha:L.R w S a)(hb:L.R w S b):YO L w S [a,b]:=fun x hx=>by
 simp only[WN,Ww,or_false] at hx
 rcases hx with rfl|rfl
 ·exact ha
 ·exact hb
theorem Qk5{a:TT}(ha:Yi a): ∀t∈[a],Yi t:=fun t ht=>by rw[List.mem_singleton.1 ht];exact ha
theorem QsM{a:TT}(ha:a.val≠QbA): ∀t∈[a],t.val≠QbA:=fun t ht=>by rw[List.mem_singleton.1 ht];exact ha
theorem Qve{F:List Int}{a:TT}(hv:a.val=uT F)(ht:Xi F=F)(h1:1≤F.length):a.val≠QbA:=fun h=>by
 have h2:=(QfF ht).1 (hv.symm.trans h)
 subst h2
 exact absurd h1 (by decide)
def dsc(p q:Int):Int:=4*(p*p*p)+27*(q*q)
def Qa8(p q:Int):Prop:=p.natAbs≤32768∧q.natAbs≤32768
theorem QjZ{p q:Int}(h:Qa8 p q):(dsc p q).natAbs≤281474976710656:=by
 have h1:(p*p*p).natAbs≤32768*32768*32768:=by
  rw[UW,UW];exact QyN (QyN h.1 h.1) h.1
 have h2:(q*q).natAbs≤32768*32768:=by rw[UW];exact QyN h.2 h.2
 unfold dsc
 generalize p*p*p=a at *
 generalize q*q=b at *
 omega
theorem Qvq{p q:Int}(h:Qa8 p q):BdF 4 32768 2 (fn [q,p,0,1]):=fun a ha=>by
 have h1:(fn [q,p,0,1] a).natAbs≤32768:=by
  have h2:=h.1
  have h3:=h.2
  rcases(show a=0∨a=1∨a=2∨a=3 by omega) with rfl|rfl|rfl|rfl<;>simp only[fn,Qzc,QyR]<;>omega
 exact Wj (Uy _ h1) (by decide)
theorem Qr7{p q:Int}(h:Qa8 p q):BdF 3 294912 2 (fn [p,0,3]):=fun a ha=>by
 have h1:(fn [p,0,3] a).natAbs≤32768:=by
  have h2:=h.1
  rcases(show a=0∨a=1∨a=2 by omega) with rfl|rfl|rfl<;>simp only[fn,Qzc,QyR]<;>omega
 exact Wj (Uy _ h1) (by decide)
theorem QvT{p q:Int}(h:Qa8 p q): ∀x∈[p,0,3],x.natAbs≤32768:=fun x hx=>by
 have h2:=h.1
 simp only[WN,Ww,or_false] at hx
 omega
theorem Qsp{p q:Int}(h:Qa8 p q): ∀x∈[9*q,6*p],x.natAbs≤294912:=fun x hx=>by
 have h2:=h.1
 have h3:=h.2
 simp only[WN,Ww,or_false] at hx
 omega
theorem Qho(p:Int):Xi [p,0,3]=[p,0,3]:=YL (by show(3:Int)≠0;decide)
theorem Qhn(p q:Int):Xi [q,p,0,1]=[q,p,0,1]:=YL (by show(1:Int)≠0;decide)
theorem Qjo(q p:Int):(p≠0∧Xi [9*q,6*p]=[9*q,6*p])∨(p=0∧q≠0∧Xi [9*q,6*p]=[9*q])∨(p=0∧q=0∧Xi [9*q,6*p]=[]):=by
 by_cases hp:p=0
 ·subst hp
  have e:Xi [9*q,6*0]=Xi [9*q]:=YV Qa6 [9*q] (6*0) rfl
  by_cases hq:q=0
  ·subst hq;exact .inr (.inr ⟨rfl,rfl,by decide⟩)
  ·exact .inr (.inl ⟨rfl,hq,e.trans (YL (F:=[9*q]) (by show 9*q≠0;omega))⟩)
 ·exact .inl ⟨hp,YL (F:=[9*q,6*p]) (by show 6*p≠0;omega)⟩
theorem Qu7{q p:Int}(h:(Xi [9*q,6*p]).length=0):p=0∧q=0:=by
 rcases Qjo q p with⟨_,e⟩| ⟨_,_,e⟩| ⟨h1,h2,_⟩
 ·rw[e] at h;cases h
 ·rw[e] at h;cases h
 ·exact⟨h1,h2⟩
theorem QwL{q p:Int}(h:(Xi [9*q,6*p]).length=1):p=0∧q≠0∧Xi [9*q,6*p]=[9*q]:=by
 rcases Qjo q p with⟨_,e⟩|h1| ⟨_,_,e⟩
 ·rw[e] at h;cases h
 ·exact h1
 ·rw[e] at h;cases h
theorem QwM{q p:Int}(h:2≤(Xi [9*q,6*p]).length):p≠0∧Xi [9*q,6*p]=[9*q,6*p]:=by
 rcases Qjo q p with h1| ⟨_,_,e⟩| ⟨_,_,e⟩
 ·exact h1
 ·rw[e] at h;exact absurd (show 2≤1 from h) (by decide)
 ·rw[e] at h;exact absurd h (by decide)
theorem QxG(q p:Int):(Xi [9*q,6*p]).length≤2:=Qdz _ _
theorem Qie{d:Int}(h:(Xi [d]).length=0):d=0:=Classical.byContradiction fun hd=>by
 rw[YL (F:=[d]) (by simpa using hd)] at h;cases h
theorem QmR(d:Int):(Xi [d]).length≤1:=Qdz _ _
def QnM(F G:List Int)(d:Int):Prop:=(∃p q:Int,Qa8 p q∧F=[q,p,0,1]∧G=[p,0,3]∧d=dsc p q)∨(F=[-1,1]∧G=[-2,1]∧d= -1)
theorem QnM.len{F G:List Int}{d:Int}(h:QnM F G d):Xi F=F∧Xi G=G∧2≤G.length∧G.length≤F.length∧F.length≤4:=by
 rcases h with⟨p,q,_,rfl,rfl,_⟩| ⟨rfl,rfl,_⟩
 ·exact⟨Qhn p q,Qho p,Uj rfl,Uj rfl,Uj rfl⟩
 ·exact⟨by decide,by decide,by decide,by decide,by decide⟩
theorem Quf(p q:Int):drF [q,p,0,1]=[p,0,3]:=by simp [drF,WP]
theorem QoN{p q:Int}(h:Qa8 p q): ∀i,i<[q,p,0,1].length→(List.getD [q,p,0,1] i 0*(i:Int)).natAbs≤1152921504606846976:=fun i hi=>by
 have h2:=h.1
 have h3:=h.2
 have hi':i<4:=hi
 rcases(show i=0∨i=1∨i=2∨i=3 by omega) with rfl|rfl|rfl|rfl<;>simp only[Qzc,QyR]<;>omega
theorem Qo8{K l:List TT}{t:TT}{v:RT}(h:K.map TT.val=l.map TT.val)(hl: ∀t,l[0]? =some t→t.val=v)(he:K[0]? =some t):t.val=v:=by
 have h1:(K.map TT.val)[0]? =some t.val:=by simp [he]
 rw[h,Un] at h1
 cases hq:l[0]? with
 |none=>rw[hq] at h1;cases h1
 |some u=>rw[hq] at h1;rw[←Option.some.inj h1];exact hl u hq
end Go.Gx
namespace Go.Gx
theorem Qx4{q:Int}(h:q.natAbs≤32768):(9*q*(9*q)).natAbs<9223372036854775808:=by
 have h2:(9*q*(9*q)).natAbs≤294912*294912:=by rw[UW];exact QyN (by omega) (by omega)
 omega
end Go.Gx
namespace Go.Gx
theorem Qvr:BdF 2 2 1 (fn [-1,1]):=fun a ha=>by
 rcases(show a=0∨a=1 by omega) with rfl|rfl<;>decide
end Go.Gx

namespace Go.Gx
open Go.RowKit
variable{Q:List Int}{d:List Nat}{g:Bool}{p q:Int}
theorem Qt6(h:Qa8 p q)(hQ:QOf p q Q):(∀x∈Q,x.natAbs<18446744073709551616)∧Q.length≤4∧ldP Q≠0∧(Xi (YI Q)).length≤3∧(Xi (YI Q)).length≤(Xi Q).length:=by
 have h1:=h.1
 have h2:=h.2
 have hd:=Qbf (YI Q)
 rw[Qfo] at hd
 rcases hQ with⟨_,_,rfl⟩| ⟨_,rfl⟩| ⟨_,_,a,ha,hp,rfl⟩
 ·decide
 ·have e:Xi [q,p,0,1]=[q,p,0,1]:=Qhn p q
  have hd':(Xi (YI [q,p,0,1])).length≤3:=hd
  refine⟨fun x hx=> ?_,Uj rfl,?_,hd',?_⟩
  ·simp only[WN,Ww,or_false] at hx;omega
  ·exact(Qdq [q,p,0] (a:=1) (by decide):ldP [q,p,0,1]=1)▸ (by decide:(1:Int)≠0)
  ·rw[e];exact Wj hd' (Uj rfl)
 ·have e:Xi [-2*(a*a),a,1]=[-2*(a*a),a,1]:=Yg [-2*(a*a),a] (by decide)
  have hd':(Xi (YI [-2*(a*a),a,1])).length≤2:=hd
  have h3:a.natAbs≤a.natAbs*a.natAbs:=Qyx _ (by omega)
  have h4:(a*a).natAbs=a.natAbs*a.natAbs:=UW a a
  refine⟨fun x hx=> ?_,Uj rfl,?_,Wj hd' (by decide),?_⟩
  ·simp only[WN,Ww,or_false] at hx
   rw[←h4] at h3
   generalize a*a=z at *
   omega
  ·exact(Qdq [-2*(a*a),a] (a:=1) (by decide):ldP [-2*(a*a),a,1]=1)▸ (by decide:(1:Int)≠0)
  ·rw[e];exact Wj hd' (Uj rfl)
theorem QrK(F:List Int):rdP (Xi F)=rdP F:=by unfold rdP;rw[Qcg,QgI]
theorem QrO(h:Xx g d= -1):g=true:=by
 cases g with
 |true=>rfl
 |false=>
  have :(0:Int)≤Xx false d:=by simp [Xx]
  omega
theorem QxY:okV (-2) (-1)=true:=by decide+kernel
theorem QxZ:okV 1 2=true:=by decide+kernel
end Go.Gx
