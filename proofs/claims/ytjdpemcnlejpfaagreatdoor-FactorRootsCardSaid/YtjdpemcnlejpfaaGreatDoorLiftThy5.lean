/-
  LiftThy5, FrobMath, FacThy, FacThy2, FixMath, LiftThy6, FacBase
-/
import Derived.Test.YtjdpemcnlejpfaaGreatDoorLiftThy
import Derived.Test.YtjdpemcnlejpfaaGreatDoorGcdMath
import Derived.Test.YtjdpemcnlejpfaaGreatDoorDivMath2
set_option linter.all false
namespace Go.Gx
theorem Cop.symm{p:Int}{a b:List Int}(h:Cop p a b):Cop p b a:=by
  obtain⟨u,v,e,h⟩:=h
  exact⟨v,u,e,fun x=>by rw[←h x,Xd,Xd];omega⟩
theorem Cop.cg{p:Int}{a b a' b':List Int}(h:Cop p a b)(ha:CgV p a a')(hb:CgV p b b'):Cop p a' b':=by
  obtain⟨u,v,h⟩:=h
  exact⟨u,v,(((CgV.refl _ _).mul ha).add ((CgV.refl _ _).mul hb)).symm.trans h⟩
theorem Qtx{p:Int}: ∀{L:List (List Int)},(∀(i j:Nat)(f g:List Int),j<i→L[i]? =some f→L[j]? =some g→Cop p f g)→Pw p L
  | [],_=>trivial
  |b::bs,h=>⟨fun c hc=>by
      obtain⟨i,hi⟩:=List.getElem?_of_mem hc
      exact(h (i+1) 0 c b (by omega) (by simpa using hi) rfl).symm,Qtx fun i j f g hj h1 h2=>h (i+1) (j+1) f g (by omega) (by simpa using h1) (by simpa using h2)⟩
theorem Pw.at{p:Int}: ∀{L:List (List Int)},Pw p L→ ∀(i j:Nat)(f g:List Int),j≠i→L[i]? =some f→L[j]? =some g→Cop p f g
  | [],_,i,j,f,g,_,h,_=>by simp at h
  |b::bs,hw,0,0,f,g,hne,_,_=>absurd rfl hne
  |b::bs,hw,i+1,0,f,g,_,h1,h2=>by
    simp at h1 h2;subst h2;exact(hw.1 f (List.mem_of_getElem? h1)).symm
  |b::bs,hw,0,j+1,f,g,_,h1,h2=>by
    simp at h1 h2;subst h1;exact hw.1 g (List.mem_of_getElem? h2)
  |b::bs,hw,i+1,j+1,f,g,hne,h1,h2=>by
    simp at h1 h2;exact hw.2.at i j f g (by omega) h1 h2
theorem Qna{p:Int}{Y:List Int}: ∀{gs:List (List Int)},Pw p gs→(∀g∈gs,Dv p g Y)→Dv p (pL gs) Y
  | [],_,_=>⟨Y,CgV.eqv fun x=>by simp [pL,Xc,evI]⟩
  |g::gs,hw,h=>by
    obtain⟨w,w',hw1⟩:=h g (List.mem_cons_self ..)
    obtain⟨y,y',hy⟩:=Qna hw.2 fun a ha=>h a (List.mem_cons_of_mem _ ha)
    obtain⟨u,v,e,he⟩:=Cop.prod hw.1
    refine⟨Xx (Xg u y) (Xg v w),XD (Xx (Xg (Xg u g) y') (Xg (Xg v (pL gs)) w')) (Xg e Y),fun x=> ?_⟩
    have a1:=hw1 x;have a2:=hy x;have a3:=he x
    simp only[Xd,Xh,Xc,pL,evI] at a1 a2 a3⊢
    generalize evI Y x=Y' at *;generalize evI g x=G at *;generalize evI (pL gs) x=P at *
    generalize evI u x=U at *;generalize evI v x=V at *;generalize evI e x=E at *
    generalize evI w x=W at *;generalize evI w' x=W' at *;generalize evI y x=y2 at *;generalize evI y' x=y3 at *
    have a4:(U*G+V*P)*Y'=U*G*(y2*P+p*y3)+V*P*(W*G+p*W'):=by
      have :U*G*Y'=U*G*(y2*P+p*y3):=by rw[a2]
      have :V*P*Y'=V*P*(W*G+p*W'):=by rw[a1]
      grind
    rw[a3] at a4
    grind
theorem QvY{p:Int}: ∀{gs ss:List (List Int)},gs.length=ss.length→ ∀(i:Nat)(g s:List Int),gs[i]? =some g→ss[i]? =some s→ ∃y,CgV p (tL gs ss) (Xx (Xg s (pL (gs.eraseIdx i))) (Xg y g))
  | [],_,_,i,g,s,h,_=>by simp at h
  |_::_,[],hl,_,_,_,_,_=>by simp at hl
  |a::gs,b::ss,hl,0,g,s,h1,h2=>by
    simp at h1 h2;subst h1 h2
    exact⟨tL gs ss,CgV.eqv fun x=>by simp only[tL,List.eraseIdx_cons_zero,Xd,Xc];grind⟩
  |a::gs,b::ss,hl,i+1,g,s,h1,h2=>by
    simp at h1 h2
    obtain⟨y,e,he⟩:=QvY (p:=p) (by simpa using hl) i g s h1 h2
    obtain⟨z,hz⟩:=pL_at h1
    refine⟨Xx (Xg b z) (Xg a y),Xg a e,fun x=> ?_⟩
    have a1:=he x;have a2:=hz x
    simp only[tL,pL,List.eraseIdx_cons_succ,Xd,Xc] at a1 a2⊢
    rw[a1,a2];grind
where
  pL_at: ∀{gs:List (List Int)}{i:Nat}{g:List Int},gs[i]? =some g→ ∃z:List Int,∀x,evI (pL gs) x=evI (Xg z g) x
  | [],i,g,h=>by simp at h
  |a::gs,0,g,h=>by simp at h;subst h;exact⟨pL gs,fun x=>by simp only[pL,Xc];grind⟩
  |a::gs,i+1,g,h=>by
    simp at h
    obtain⟨z,hz⟩:=pL_at h
    exact⟨Xg a z,fun x=>by have :=hz x;simp only[pL,Xc] at this⊢;rw[this];grind⟩
theorem crt{p:Int}{gs ss:List (List Int)}{n:Nat}(h:MS gs ss n)(hn:0<n)(hw:Pw p gs)(hi: ∀(i:Nat)(g s:List Int),gs[i]? =some g→ss[i]? =some s→ ∃y,CgV p (Xg s (pL (gs.eraseIdx i))) (Xx [1] (Xg y g))):CgV p (tL gs ss) [1]:=by
  have h1:Dv p (pL gs) (XD (tL gs ss) [1]):=Qna hw fun g hg=>by
    obtain⟨i,hg⟩:=List.getElem?_of_mem hg
    obtain⟨s,hs⟩: ∃s,ss[i]? =some s:=⟨_,List.getElem?_eq_getElem (by have :=(List.getElem?_eq_some_iff.1 hg).1;have :=h.len;omega)⟩
    obtain⟨y,e,he⟩:=QvY (p:=p) h.len i g s hg hs
    obtain⟨z,d,hd⟩:=hi i g s hg hs
    refine⟨Xx y z,Xx e d,fun x=> ?_⟩
    have a1:=he x;have a2:=hd x
    simp only[Xd,Xh,Xc] at a1 a2⊢
    rw[a1,a2];grind
  obtain⟨w,e,he⟩:=h1
  have h2:CgV p w []:=YM (C:=pL gs) (S:=XD (tL gs ss) [1]) h.prod ⟨Xf e (-1),fun x=>by
    have a1:=he x
    simp only[Xh,Xc,Xm] at a1⊢
    rw[a1];grind⟩ fun i hi=>by rw[ZG,h.deg i hi,XX (f:=[1]) (by simp;omega)];simp
  obtain⟨d,hd⟩:=h2
  exact⟨Xx (Xg d (pL gs)) e,fun x=>by
    have a1:=he x;have a2:=hd x
    simp only[Xd,Xh,Xc,evI] at a1 a2⊢
    rw[a2] at a1
    grind⟩
def pO(i:Nat)(L:List (List Int)):Nat→List Int
  |0=>[1]
  |k+1=>if k=i then pO i L k else Xg (pO i L k) (L.getD k [])
theorem Qok(L:List (List Int))(a:List Int)(x:Int):evI (pL (L++[a])) x=evI (pL L) x*evI a x:=by
  induction L with
  |nil=>simp [pL,Xc,evI]
  |cons b L ih=>simp only[List.cons_append,pL,Xc,ih];grind
theorem QvE(i:Nat)(L:List (List Int))(x:Int): ∀k,k≤L.length→evI (pO i L k) x=evI (pL ((L.take k).eraseIdx i)) x
  |0,_=>by simp [pO,pL]
  |k+1,h=>by
    have ih:=QvE i L x k (by omega)
    have hk:L[k]? =some (L.getD k []):=by rw[List.getD,List.getElem?_eq_getElem (by omega)];rfl
    rw[List.take_add_one,hk,Option.toList_some,pO]
    split
    · rename_i e;subst e
      have e0:k -(L.take k).length=0:=by simp;omega
      rw[ih,List.eraseIdx_of_length_le (by simp;omega),List.eraseIdx_append_of_length_le (by simp;omega),e0,List.eraseIdx_cons_zero,List.append_nil]
    · rename_i e
      rw[Xc,ih]
      rcases Nat.lt_or_ge i k with h1|h1
      · rw[List.eraseIdx_append_of_lt_length (by simp;omega),Qok]
      · rw[List.eraseIdx_of_length_le (l:=L.take k) (by simp;omega),List.eraseIdx_of_length_le (by simp;omega),Qok]
structure Zw (p:Nat) (d:List Nat):Prop where
  can:XE p d
  pos:2≤d.length
  one:d.getD (d.length -1) 0=1
theorem Qoe{p i:Nat}(hp:Xk p){g:List Nat}{l:List (List Nat)}(hg:Zw p g): ∀k,∃y,CgV (p:Int) (zl (Qfo p g i l k)) (Xx (pO i (l.map zl) k) (Xg y (zl g)))
  |0=>⟨[],CgV.eqv fun x=>by simp [Qfo,pO,zl,Xd,Xc,evI]⟩
  |k+1=>by
    have hp0:0<p:=by have :=hp.1;omega
    obtain⟨y,e,he⟩:=Qoe (i:=i) (l:=l) hp hg k
    rw[Qfo,pO]
    split
    · exact⟨y,e,he⟩
    · rcases hd:XH p (XO p (Qau p (Qfo p g i l k) (l.getD k []))) (XO p g) with⟨q,r⟩
      rw[hg.can.nrm] at hd
      obtain⟨a,ha⟩:=QbP hp0 hd
      obtain⟨b,hb⟩:=(QbK hp0 (Qau p (Qfo p g i l k) (l.getD k []))).trans (QgQ hp0 _ _)
      have hz:zl (l.getD k [])=(l.map zl).getD k []:=by
        simp only[List.getD,List.getElem?_map]
        cases l[k]? <;>rfl
      rw[←hz]
      refine⟨XD (Xg y (zl (l.getD k []))) (zl q),Xx (Xx b (Xg e (zl (l.getD k [])))) a,fun x=> ?_⟩
      have a1:=ha x;have a2:=hb x;have a3:=he x
      simp only[Xd,Xh,Xc] at a1 a2 a3⊢
      rw[a2,a3] at a1
      grind
theorem Qc1{p:Nat}(hp0:0<p): ∀(n:Nat)(f g u v:List Nat),XE p (Qbg p n f g u v)
  |0,f,g,u,v=>QeM hp0 _ _
  |n+1,f,g,u,v=>by
    rw[Qbg]
    split
    · exact QeM hp0 _ _
    · exact Qc1 hp0 n _ _ _ _
theorem Qjj{p i:Nat}(hp:Xk p){l:List (List Nat)}{g:List Nat}(hl: ∀d∈l,Zw p d)(hi:l[i]? =some g)(hw:Pw (p:Int) (l.map zl)):
    (Qji p l i).length<g.length∧ ∃y,CgV (p:Int) (Xg (zl (Qji p l i)) (pL ((l.map zl).eraseIdx i))) (Xx [1] (Xg y (zl g))):=by
  have hp0:0<p:=by have :=hp.1;omega
  have hg:=hl g (List.mem_of_getElem? hi)
  have hlt:=(List.getElem?_eq_some_iff.1 hi).1
  have hgd:l.getD i []=g:=by rw[List.getD,hi];rfl
  unfold Qji
  rw[hgd,hg.can.nrm]
  obtain⟨y,e,he⟩:=Qoe (i:=i) (l:=l) hp hg l.length
  have hF:=YX hp0 (Qfo p g i l l.length)
  obtain⟨b,hb⟩:=QbK hp0 (Qfo p g i l l.length)
  generalize XO p (Qfo p g i l l.length)=F at *
  have hFP: ∀x,evI (zl F) x=evI (Xx (pL ((l.map zl).eraseIdx i)) (Xg y (zl g))) x+p*evI (Xx b e) x:=fun x=>by
    have a1:=he x;have a2:=hb x
    have a3:=QvE i (l.map zl) x l.length (by simp)
    rw[List.take_of_length_le (by simp)] at a3
    simp only[Xd,Xc] at a1 a2 a3⊢
    rw[a2,a1,a3];grind
  have hcop:Cop (p:Int) (zl F) (zl g):=by
    have h1:Cop (p:Int) (zl g) (pL ((l.map zl).eraseIdx i)):=Cop.prod fun c hc=>by
      obtain⟨j,hj,hjc⟩:=List.mem_eraseIdx_iff_getElem?.1 hc
      exact hw.at i j _ c hj (by simp [hi]) hjc
    obtain⟨u,v,d,hd⟩:=h1
    refine⟨v,XD u (Xg v y),Xx d (Xg v (Xx b e)),fun x=> ?_⟩
    have a1:=hd x;have a2:=hFP x
    simp only[Xd,Xh,Xc] at a1 a2⊢
    rw[a2]
    grind
  have h0:0<F.length+g.length:=by have :=hg.pos;omega
  have hgc:=QdO hp hF hg.can h0 hcop
  have hone:=Qjv hp hF hg.can h0 hgc
  obtain⟨z,c,hc⟩:=Qki hp hF hg.can h0 hgc
  rw[Qb9]
  simp only[hone]
  rw[if_neg (by have :=hg.pos;omega),if_neg (by have :=hg.pos;simp;omega)]
  have c1:XE p [1]:=⟨fun d hd=>by simp at hd;have :=hp.1;omega,fun _=>by simp [List.getD]⟩
  rcases hq:XH p g [1] with⟨q,r⟩
  have hk:=Ym hp hg.can c1 (by simp) hq
  have hr:r=[]:=List.eq_nil_of_length_eq_zero (by have h9:r.length<1:=hk.2.2.1;omega)
  subst hr
  have hq0:0<q.length:=hk.2.2.2.2.2 (by have :=hg.pos;simp;omega)
  have hql:q.length≤g.length:=by have h9:q.length≤g.length+1 -1:=hk.2.2.2.1;omega
  obtain⟨a,ha⟩:=QbP hp0 hq
  rcases hu:XH p (QmO p F g) q with⟨t,u⟩
  have hk2:=Ym hp (Qc1 hp0 _ _ _ _ _) hk.1 hq0 hu
  obtain⟨a2,ha2⟩:=QbP hp0 hu
  show u.length<g.length∧ ∃y,CgV (p:Int) (Xg (zl u) (pL ((l.map zl).eraseIdx i))) (Xx [1] (Xg y (zl g)))
  refine⟨by have :=hk2.2.2.1;omega,?_⟩
  have e1: ∃y2 d2,∀x,evI (zl u) x*evI (zl F) x=1+evI y2 x*evI (zl g) x+p*evI d2 x:=by
    refine⟨XD (Xf z (-1)) (Xg (zl t) (zl F)),Xx (Xx (Xf c (-1)) (Xg a2 (zl F))) (Xf (Xg (Xg (zl t) (zl F)) a) (-1)),fun x=> ?_⟩
    have b1:=hc x;have b2:=ha x;have b3:=ha2 x
    simp only[Xd,Xh,Xc,Xm,zl,List.map_nil,List.map_cons,evI] at b1 b2 b3⊢
    grind
  obtain⟨y2,d2,hd2⟩:=e1
  refine⟨XD y2 (Xg (zl u) y),XD d2 (Xg (zl u) (Xx b e)),fun x=> ?_⟩
  have b1:=hd2 x;have b2:=hFP x
  rw[b2] at b1
  simp only[Xd,Xh,Xc,evI] at b1⊢
  grind
end Go.Gx
namespace Go.Gx
def Yx(a:List Int):Nat→List Int
  |0=>[1]
  |n+1=>Xg (Yx a n) a
theorem Xl(a:List Int)(x:Int): ∀n,evI (Yx a n) x=evI a x^n
  |0=>by simp [Yx,evI]
  |n+1=>by rw[Yx,Xc,Xl a x n,Int.pow_succ]
theorem Xj(c x:Int):evI [c] x=c:=by simp [evI]
def pas:Nat→Nat→Int
  |_,0=>1
  |0,_+1=>0
  |n+1,k+1=>pas n k+pas n (k+1)
theorem QkT: ∀(n k:Nat),n<k→pas n k=0
  |_,0,h=>absurd h (by omega)
  |0,_+1,_=>rfl
  |n+1,k+1,h=>by rw[pas,QkT n k (by omega),QkT n (k+1) (by omega)];rfl
theorem Qoo: ∀n,pas n n=1
  |0=>rfl
  |n+1=>by rw[pas,Qoo n,QkT n (n+1) (by omega)];rfl
theorem Qhn: ∀(n k:Nat),((k:Int)+1)*pas n (k+1)=((n:Int) -k)*pas n k
  |0,0=>by simp [pas]
  |0,k+1=>by simp [pas]
  |n+1,0=>by
    have h:=Qhn n 0
    simp only[pas] at h⊢
    simp at h⊢
    rw[h];omega
  |n+1,k+1=>by
    have h1:=Qhn n k
    have h2:=Qhn n (k+1)
    simp only[pas,Int.natCast_add,Int.natCast_one] at *
    grind
theorem Qtt(n k:Nat):((k:Int)+1)*pas (n+1) (k+1)=((n:Int)+1)*pas n k:=by
  have h1:=Qhn n k
  rw[pas]
  grind
def hs(A B:Int)(F:Nat→Int):Nat→Int
  |0=>F 0
  |n+1=>B*hs A B F n+F (n+1)*A^ (n+1)
def hsP(a b:List Int)(F:Nat→Int):Nat→List Int
  |0=>[F 0]
  |n+1=>Xx (Xg b (hsP a b F n)) (Xf (Yx a (n+1)) (F (n+1)))
theorem Qnj(a b:List Int)(F:Nat→Int)(x:Int): ∀n,evI (hsP a b F n) x=hs (evI a x) (evI b x) F n
  |0=>by rw[hsP,Xj];rfl
  |n+1=>by rw[hsP,Xd,Xc,Xm,Xl,Qnj a b F x n];rfl
theorem Qhb{A B:Int}{F G:Nat→Int}: ∀n,(∀k,k≤n→F k=G k)→hs A B F n=hs A B G n
  |0,h=>h 0 (Nat.le_refl _)
  |n+1,h=>by rw[hs,hs,Qhb n fun k hk=>h k (by omega),h (n+1) (Nat.le_refl _)]
theorem QnA{A B:Int}{F G:Nat→Int}(c:Int): ∀n,hs A B (fun k=>F k+c*G k) n=hs A B F n+c*hs A B G n
  |0=>rfl
  |n+1=>by rw[hs,hs,hs,QnA c n];grind
theorem Qvd{A B:Int}{F:Nat→Int}: ∀n,hs A B (fun k=>match k with |0=>0|j+1=>F j) (n+1)=A*hs A B F n
  |0=>by simp only[hs];grind
  |n+1=>by
    have h:=Qvd (A:=A) (B:=B) (F:=F) n
    rw[hs,h]
    simp only[hs]
    rw[Int.pow_succ A (n+1)]
    grind
theorem QrL(A B:Int): ∀n,hs A B (pas n) n=(A+B)^n
  |0=>by simp [hs,pas]
  |n+1=>by
    have e: ∀k,k≤n+1→pas (n+1) k=(fun k=>(match k with |0=>0|j+1=>pas n j:Int)+1*pas n k) k:=by
      intro k _
      cases k with
      |zero=>simp [pas]
      |succ k=>simp [pas]
    rw[Qhb _ e,QnA,Qvd,hs,QkT n (n+1) (by omega),QrL A B n,Int.pow_succ]
    grind
theorem Qnb{p:Nat}{a b:Int}(h:(p:Int)∣a*b)(hg:Int.gcd p a=1):(p:Int)∣b:=by
  have h1:(p:Int).natAbs∣ (a*b).natAbs:=Int.natAbs_dvd_natAbs.2 h
  rw[Int.natAbs_mul] at h1
  exact Int.natAbs_dvd_natAbs.1 (Nat.Coprime.dvd_of_dvd_mul_left hg h1)
theorem Qts{p k:Nat}(hp:Xk p)(h0:0<k)(h1:k<p):(p:Int)∣pas p k:=by
  obtain⟨n,rfl⟩: ∃n,p=n+1:=⟨p -1,by have :=hp.1;omega⟩
  obtain⟨j,rfl⟩: ∃j,k=j+1:=⟨k -1,by omega⟩
  have h:=Qtt n j
  have hg:=hp.2 (j+1) h0 h1
  have hd:((n+1:Nat):Int)∣ ((j+1:Nat):Int)*pas (n+1) (j+1):=⟨pas n j,by simpa using h⟩
  exact Qnb hd (by rw[Int.gcd_natCast_natCast,Nat.gcd_comm];exact hg)
theorem Qnz(A B:Int): ∀n,hs A B (fun k=>if k=0 then 1 else 0) n=B^n
  |0=>by simp [hs]
  |n+1=>by rw[hs,Qnz A B n];simp [Int.pow_succ,Int.mul_comm]
theorem Qu7{p:Nat}(hp:Xk p)(A B:Int):(A+B)^p=A^p+B^p+p*hs A B (fun k=>if k=0∨k=p then 0 else pas p k/p) p:=by
  have h2:=hp.1
  have e: ∀k,k≤p→pas p k=(fun k=>(if k=0∨k=p then 1 else 0:Int)+p*(if k=0∨k=p then 0 else pas p k/p)) k:=by
    intro k hk
    by_cases h:k=0∨k=p
    · simp only[h,if_true]
      rcases h with rfl|rfl
      · cases p<;>simp [pas]
      · rw[Qoo];simp
    · simp only[h,if_false]
      rw[Int.mul_ediv_cancel' (Qts hp (by omega) (by omega))];simp
  rw[←QrL,Qhb _ e,QnA]
  congr 1
  obtain⟨n,rfl⟩: ∃n,p=n+1:=⟨p -1,by omega⟩
  rw[hs]
  have e2:hs A B (fun k=>(if k=0∨k=n+1 then 1 else 0:Int)) n=B^n:=by
    rw[←Qnz A B n]
    refine Qhb n fun k hk=> ?_
    by_cases h:k=0
    · simp [h]
    · simp [h,show ¬k=n+1 by omega]
  rw[e2]
  simp [Int.pow_succ]
  grind
theorem Qu6{p:Nat}(hp:Xk p)(a b:List Int):CgV (p:Int) (Yx (Xx a b) p) (Xx (Yx a p) (Yx b p)):=
  ⟨hsP a b _ p,fun x=>by rw[Xl,Xd,Xd,Xl,Xl,Qu7 hp,Qnj]⟩
theorem Qqi{p:Nat}(hp:Xk p): ∀k:Nat,(p:Int)∣ (k:Int)^p -k
  |0=>by
    have h2:=hp.1
    rw[Int.natCast_zero,Int.zero_pow (by omega)];exact⟨0,by simp⟩
  |k+1=>by
    obtain⟨c,hc⟩:=Qqi hp k
    refine⟨c+hs k 1 (fun k=>if k=0∨k=p then 0 else pas p k/p) p,?_⟩
    rw[Int.natCast_add,Int.natCast_one,Qu7 hp,Int.one_pow]
    grind
def Qr7(c:Int):List Int→List Int
  | []=>[]
  |_::t=>evI t c::Qr7 c t
theorem Qkq(c x:Int): ∀l:List Int,evI l x=(x -c)*evI (Qr7 c l) x+evI l c
  | []=>by simp [Qr7,evI]
  |a::t=>by
    have h:=Qkq c x t
    simp only[Qr7,evI]
    rw[h];grind
theorem Qet{x:Int}: ∀{l:List Int},(∀i,co l i=0)→evI l x=0
  | [],_=>rfl
  |a::t,h=>by
    have h0:a=0:=h 0
    have ht: ∀i,co t i=0:=fun i=>h (i+1)
    simp only[evI,h0,Qet ht];simp
theorem QiW{c:Int}: ∀{l:List Int},(∀i,co l (i+1)=0)→ ∀i,co (Qr7 c l) i=0
  | [],_,i=>by simp [Qr7,co]
  |a::t,h,0=>Qet (l:=t) fun i=>h i
  |a::t,h,i+1=>QiW (l:=t) (fun i=>h (i+1)) i
theorem Qlm{c:Int}: ∀{l:List Int}{n:Nat},Mon l (n+1)→Mon (Qr7 c l) n
  | [],n,h=>absurd h.1 (by simp [co])
  |a::t,0,h=>by
    have ht:t=[]∨ ∃b s,t=b::s:=by cases t with |nil=>exact .inl rfl|cons b s=>exact .inr ⟨b,s,rfl⟩
    rcases ht with rfl| ⟨b,s,rfl⟩
    · exact absurd h.1 (by simp [co])
    · have hb:b=1:=h.1
      have hs: ∀i,co s i=0:=fun i=>h.2 (i+2) (by omega)
      refine⟨?_,fun i hi=> ?_⟩
      · show evI (b::s) c=1
        simp only[evI,hb,Qet hs];simp
      · obtain⟨j,rfl⟩: ∃j,i=j+1:=⟨i -1,by omega⟩
        exact QiW (l:=b::s) (fun i=>hs i) j
  |a::t,n+1,h=>by
    have ht:Mon t (n+1):=⟨h.1,fun i hi=>h.2 (i+1) (by omega)⟩
    have k:=Qlm (c:=c) ht
    refine⟨k.1,fun i hi=> ?_⟩
    obtain⟨j,rfl⟩: ∃j,i=j+1:=⟨i -1,by omega⟩
    exact k.2 j (by omega)
theorem QnX{l:List Int}(h:Mon l 0)(x:Int):evI l x=1:=by
  cases l with
  |nil=>exact absurd h.1 (by simp [co])
  |cons a t=>
    have ha:a=1:=h.1
    simp only[evI,ha,Qet (l:=t) fun i=>h.2 (i+1) (by omega)];simp
def Qiz(c:List Int):Nat→List Int
  |0=>[1]
  |n+1=>Xg (Qiz c n) (XD c [(n:Int)])
def Qfh(c:List Int):List Int→List Int
  | []=>[]
  |q::qs=>Xx [q] (Xg c (Qfh c qs))
theorem Qe7(c:List Int)(x:Int): ∀l,evI (Qfh c l) x=evI l (evI c x)
  | []=>rfl
  |q::qs=>by rw[Qfh,Xd,Xc,Qe7 c x qs,Xj];rfl
def prI(y:Int):Nat→Int
  |0=>1
  |n+1=>prI y n*(y -n)
theorem Qe9(c:List Int)(x:Int): ∀n,evI (Qiz c n) x=prI (evI c x) n
  |0=>by rw[Qiz,Xj];rfl
  |n+1=>by rw[Qiz,Xc,Xh,Xj,Qe9 c x n];rfl
theorem Qou{p:Nat}(hp:Xk p): ∀(n k:Nat),n≤k→k<p→Int.gcd p (prI k n)=1
  |0,_,_,_=>by simp [prI]
  |n+1,k,h,hk=>by
    rw[prI]
    rw[Int.gcd_mul_right_right_of_gcd_eq_one (Qou hp n k (by omega) hk)]
    have e:(k:Int) -n=((k -n:Nat):Int):=by omega
    rw[e,Int.gcd_comm]
    simpa [Int.gcd] using hp.2 (k -n) (by omega) (by omega)
theorem QnY: ∀n,Mon (Yx [0,1] n) n
  |0=>Qat
  |n+1=>(QnY n).mul (⟨rfl,fun i hi=>XX (by simp;omega)⟩:Mon [0,1] 1)
theorem Qu4{p:Nat}(hp:Xk p)(c:List Int):CgV (p:Int) (XD (Yx c p) c) (Qiz c p):=by
  have h2:=hp.1
  have key: ∀k,k≤p→ ∃Q h:List Int,Mon Q (p -k)∧ ∀y:Int,y^p -y=prI y k*evI Q y+p*evI h y:=by
    intro k
    induction k with
    |zero=>
      intro _
      refine⟨XD (Yx [0,1] p) [0,1],[],?_,fun y=>by rw[Xh,Xl];simp [prI,evI]⟩
      have hX:=QnY p
      have hg: ∀i,2≤i→co [0,1] i=0:=fun i hi=>XX (by simpa using hi)
      exact⟨by rw[ZG,Nat.sub_zero,hX.1,hg p h2];rfl,fun i hi=>by rw[ZG,hX.2 i (by omega),hg i (by omega)];rfl⟩
    |succ k ih=>
      intro hk
      obtain⟨Q,h,hQ,he⟩:=ih (by omega)
      have hz:(p:Int)∣evI Q k:=by
        have h1:=he k
        obtain⟨z,hz⟩:=Qqi hp k
        have hd:(p:Int)∣prI k k*evI Q k:=⟨z -evI h k,by rw[hz] at h1;grind⟩
        exact Qnb hd (Qou hp k k (Nat.le_refl _) (by omega))
      obtain⟨z,hz⟩:=hz
      refine⟨Qr7 k Q,Xx (Xf (Qiz [0,1] k) z) h,Qlm (by rw[show p -(k+1)+1=p -k by omega];exact hQ),fun y=> ?_⟩
      have h3:=Qkq k y Q
      rw[he y,h3,hz,Xd,Xm,Qe9,prI]
      simp only[evI]
      grind
  obtain⟨Q,h,hQ,he⟩:=key p (Nat.le_refl _)
  rw[Nat.sub_self] at hQ
  refine⟨Qfh c h,fun x=> ?_⟩
  rw[Xh,Xl,Qe9,Qe7,he,QnX hQ]
  grind
end Go.Gx
namespace Go.Gx
def EqF(p:Nat)(F a b:List Int):Prop:= ∃w h:List Int,∀x:Int,evI a x=evI b x+evI w x*evI F x+(p:Int)*evI h x
theorem EqF.cg{p:Nat}{F a b:List Int}(h:CgV (p:Int) a b):EqF p F a b:=by
  obtain⟨k,h⟩:=h;exact⟨[],k,fun x=>by have :=h x;simp only[evI] at *;grind⟩
theorem EqF.ev{p:Nat}{F a b:List Int}(h: ∀x,evI a x=evI b x):EqF p F a b:=EqF.cg (CgV.eqv h)
theorem EqF.refl{p:Nat}{F:List Int}(a:List Int):EqF p F a a:=EqF.ev fun _=>rfl
theorem EqF.symm{p:Nat}{F a b:List Int}(h:EqF p F a b):EqF p F b a:=by
  obtain⟨w,k,h⟩:=h
  exact⟨Xf w (-1),Xf k (-1),fun x=>by have :=h x;simp only[Xm] at *;grind⟩
theorem EqF.trans{p:Nat}{F a b c:List Int}(h:EqF p F a b)(g:EqF p F b c):EqF p F a c:=by
  obtain⟨w,k,h⟩:=h;obtain⟨w',k',g⟩:=g
  exact⟨Xx w w',Xx k k',fun x=>by have :=h x;have :=g x;simp only[Xd] at *;grind⟩
theorem EqF.add{p:Nat}{F a b c d:List Int}(h:EqF p F a b)(g:EqF p F c d):EqF p F (Xx a c) (Xx b d):=by
  obtain⟨w,k,h⟩:=h;obtain⟨w',k',g⟩:=g
  exact⟨Xx w w',Xx k k',fun x=>by have :=h x;have :=g x;simp only[Xd] at *;grind⟩
theorem EqF.sub{p:Nat}{F a b c d:List Int}(h:EqF p F a b)(g:EqF p F c d):EqF p F (XD a c) (XD b d):=by
  obtain⟨w,k,h⟩:=h;obtain⟨w',k',g⟩:=g
  exact⟨XD w w',XD k k',fun x=>by have :=h x;have :=g x;simp only[Xh] at *;grind⟩
theorem EqF.mul{p:Nat}{F a b c d:List Int}(h:EqF p F a b)(g:EqF p F c d):EqF p F (Xg a c) (Xg b d):=by
  obtain⟨w,k,h⟩:=h;obtain⟨w',k',g⟩:=g
  refine⟨Xx (Xg w c) (Xg b w'),Xx (Xg k c) (Xg b k'),fun x=> ?_⟩
  have h1:=h x;have h2:=g x
  simp only[Xd,Xc] at *
  grind
theorem EqF.pow{p:Nat}{F a b:List Int}(h:EqF p F a b): ∀n,EqF p F (Yx a n) (Yx b n)
  |0=>EqF.refl _
  |n+1=>(EqF.pow h n).mul h
theorem EqF.low{p:Nat}{F G a b:List Int}(h:EqF p F a b)(hd:Dv (p:Int) G F):EqF p G a b:=by
  obtain⟨w,k,h⟩:=h;obtain⟨u,v,e⟩:=hd
  refine⟨Xg w u,Xx k (Xg w v),fun x=> ?_⟩
  have h1:=h x;have h2:=e x
  simp only[Xd,Xc] at *
  rw[h1,h2];grind
theorem EqF.dv{p:Nat}{F a:List Int}(h:EqF p F a []):Dv (p:Int) F a:=by
  obtain⟨w,k,h⟩:=h
  exact⟨w,k,fun x=>by have h1:=h x;simp only[Xc,evI] at *;grind⟩
theorem EqF.of_dv{p:Nat}{F a:List Int}(h:Dv (p:Int) F a):EqF p F a []:=by
  obtain⟨w,k,h⟩:=h
  exact⟨w,k,fun x=>by have h1:=h x;simp only[Xc,evI] at *;grind⟩
theorem EqF.dvs{p:Nat}{F a b:List Int}(h:EqF p F a b):Dv (p:Int) F (XD a b):=
  EqF.dv ((h.sub (EqF.refl b)).trans (EqF.ev fun x=>by simp only[Xh,evI];omega))
theorem EqF.of_dvs{p:Nat}{F a b:List Int}(h:Dv (p:Int) F (XD a b)):EqF p F a b:=by
  have h1:=(EqF.of_dv h).add (EqF.refl b)
  exact((EqF.ev fun x=>by simp only[Xd,Xh];omega:EqF p F a (Xx (XD a b) b)).trans h1).trans (EqF.ev fun x=>by simp only[Xd,evI];omega)
theorem Dv.cg{p:Int}{F a b:List Int}(h:Dv p F a)(e:CgV p b a):Dv p F b:=by
  obtain⟨w,h⟩:=h;exact⟨w,e.trans h⟩
theorem Dv.trans{p:Int}{F G a:List Int}(h:Dv p F G)(g:Dv p G a):Dv p F a:=by
  obtain⟨w,k,h⟩:=h;obtain⟨u,v,g⟩:=g
  refine⟨Xg u w,Xx v (Xg u k),fun x=> ?_⟩
  have h1:=h x;have h2:=g x
  simp only[Xd,Xc] at *
  rw[h2,h1];grind
theorem Dv.self{p:Int}(F:List Int):Dv p F F:=⟨[1],CgV.eqv fun x=>by simp only[Xc,Xj];omega⟩
theorem Cop.mul{p:Int}{a b c:List Int}(h:Cop p a b)(g:Cop p a c):Cop p a (Xg b c):=by
  have h1:=Cop.prod (p:=p) (b:=a) (bs:=[b,c]) (by intro x hx;simp only[List.mem_cons,List.not_mem_nil,or_false] at hx;rcases hx with rfl|rfl;exact h;exact g)
  exact h1.cg (CgV.refl _ _) (CgV.eqv fun x=>by simp only[pL,Xc,Xj];grind)
theorem Qe0{p:Int}{F a:List Int}(h:Cop p F a)(g:Dv p F a):Dv p F [1]:=by
  obtain⟨u,v,k,h⟩:=h;obtain⟨w,l,g⟩:=g
  refine⟨Xx u (Xg v w),XD (Xg v l) k,fun x=> ?_⟩
  have h1:=h x;have h2:=g x
  simp only[Xd,Xh,Xc] at *
  grind
theorem ZB{p:Int}{F a b:List Int}(h:Cop p F a)(g:Dv p F (Xg a b)):Dv p F b:=by
  obtain⟨u,v,k,h⟩:=h;obtain⟨w,l,g⟩:=g
  refine⟨Xx (Xg u b) (Xg v w),XD (Xg v l) (Xg k b),fun x=> ?_⟩
  have h1:=h x;have h2:=g x
  simp only[Xd,Xh,Xc,Xj] at *
  have h3:(evI u x*evI F x+evI v x*evI a x)*evI b x=(1+p*evI k x)*evI b x:=by rw[h1]
  grind
theorem Qa1{p:Nat}{F B:List Int}{n b:Nat}(hp:2≤p)(hF:Mon F n)(hB:Mon B b)(h:Dv (p:Int) F B):n≤b:=by
  rcases Nat.lt_or_ge b n with hlt|hge
  · exfalso
    obtain⟨w,hw⟩:=h
    have h1:CgV (p:Int) (Xg F w) B:=(CgV.eqv fun x=>by simp only[Xc];grind :CgV (p:Int) (Xg F w) (Xg w F)).trans hw.symm
    have h2:=YM hF h1 fun i hi=>by rw[hB.2 i (by omega)];exact Int.dvd_zero _
    have h3:CgV (p:Int) B []:=hw.trans ((h2.mul (CgV.refl _ F)).trans (CgV.eqv fun x=>by simp only[Xc,evI];omega))
    obtain⟨k,hk⟩:=h3.cof b
    rw[hB.1,show co [] b=0 by simp [co]] at hk
    have h4:(p:Int)∣1:=⟨k,by omega⟩
    have h5:=Int.le_of_dvd (by omega) h4
    omega
  · exact hge
theorem Qg2{p:Nat}{F G:List Int}{n:Nat}(hF:Mon F n)(hG:Mon G n)(h:Dv (p:Int) G F):CgV (p:Int) F G:=by
  obtain⟨w,hw⟩:=h
  have h1:CgV (p:Int) (Xg G (XD w [1])) (XD F G):=by
    obtain⟨k,hk⟩:=hw
    exact⟨Xf k (-1),fun x=>by have :=hk x;simp only[Xc,Xh,Xm,Xj] at *;grind⟩
  have h2:=YM hG h1 fun i hi=>by
    rw[ZG]
    rcases Nat.lt_or_ge n i with h3|h3
    · rw[hF.2 i h3,hG.2 i h3];exact⟨0,by omega⟩
    · have :i=n:=by omega
      subst this;rw[hF.1,hG.1];exact⟨0,by omega⟩
  obtain⟨k,hk⟩:=hw;obtain⟨l,hl⟩:=h2
  refine⟨Xx k (Xg l G),fun x=> ?_⟩
  have a1:=hk x;have a2:=hl x
  simp only[Xc,Xh,Xd,Xj,evI] at *
  rw[a1];grind
theorem Zw.mz{p:Nat}{f:List Nat}(h:Zw p f):Mon (zl f) (f.length -1):=⟨by rw[ZS,h.one];rfl,fun i hi=>by have :=h.pos;exact XX (by rw[Zl];omega)⟩
abbrev P6(p:Nat):Prop:=Xk p
theorem P6.two{p:Nat}(h:P6 p):2≤p:=h.1
theorem P6.pr{p:Nat}(h:P6 p):Xk p:=h
theorem P6.pos{p:Nat}(h:P6 p):0<p:=by have :=h.two;omega
def Whole(p:Nat)(f:List Nat):Prop:= ∀G:List Nat,Zw p G→Dv (p:Int) (zl G) (zl f)→G.length=f.length
theorem Qac{p:Nat}(hp:Xk p){f g:List Nat}(hf:XE p f)(hg:XE p g)(h0:0<f.length+g.length)(h:2≤(XN p f g).length):Zw p (XN p f g):=
  ⟨Qc6 (by have :=hp.1;omega) _ _ _,h,QcG hp g.length f g hf hg (Nat.le_refl _) h0⟩
theorem Qp0{p:Nat}(hp:Xk p){f:List Nat}(hf:Zw p f)(hw:Whole p f)(c:List Int):Cop (p:Int) (zl f) c∨Dv (p:Int) (zl f) c:=by
  have hp0:0<p:=by have :=hp.1;omega
  have h2:=hf.pos
  have hc:=XK hp0 c
  have h0:0<f.length+(XR p c).length:=by omega
  rcases Nat.lt_or_ge 1 (XN p f (XR p c)).length with h1|h1
  · right
    have hG:=Qac hp hf.can hc h0 h1
    obtain⟨d1,d2⟩:=QbS hp (XR p c).length f (XR p c) hf.can hc (Nat.le_refl _) h0
    change Dv (p:Int) (zl (XN p f (XR p c))) (zl f) at d1
    change Dv (p:Int) (zl (XN p f (XR p c))) (zl (XR p c)) at d2
    have hl:=hw _ hG d1
    have he:=Qg2 hf.mz (by rw[←hl];exact hG.mz) d1
    have hgf:Dv (p:Int) (zl f) (zl (XN p f (XR p c))):=(Dv.self _).cg he.symm
    exact(hgf.trans d2).cg (YW hp0 c).symm
  · left
    exact(ZC hp hf.can hc h0 h1).cg (CgV.refl _ _) (YW hp0 c)
theorem YJ{p:Nat}{f:List Nat}(hp:2≤p)(hf:Zw p f): ¬Dv (p:Int) (zl f) [1]:=fun h=>by
  have :=Qa1 hp hf.mz Qat h
  have :=hf.pos
  omega
theorem Qj6{p:Nat}(hp:P6 p){f:List Nat}(hf:Zw p f)(hw:Whole p f){c:List Int}(h:EqF p (zl f) (Yx c p) c): ∃a:Int,EqF p (zl f) c [a]:=by
  rcases Classical.em (∃a:Int,EqF p (zl f) c [a]) with h1|h1
  · exact h1
  · exfalso
    have h2: ∀n,Cop (p:Int) (zl f) (Qiz c n):=by
      intro n
      induction n with
      |zero=>exact⟨[],[1],CgV.eqv fun x=>by simp only[Qiz,Xd,Xc,Xj,evI];omega⟩
      |succ n ih=>
        refine ih.mul ?_
        rcases Qp0 hp.pr hf hw (XD c [(n:Int)]) with h3|h3
        · exact h3
        · exact absurd ⟨(n:Int),EqF.of_dvs h3⟩ h1
    exact YJ hp.two hf (Qe0 (h2 p) (h.dvs.cg (Qu4 hp c).symm))
def cj(p:Nat)(t:List Int):Nat→List Int
  |0=>t
  |i+1=>Yx (cj p t i) p
theorem EqF.cj{p:Nat}{F a b:List Int}(h:EqF p F a b): ∀i,EqF p F (cj p a i) (cj p b i)
  |0=>h
  |i+1=>(EqF.cj h i).pow p
theorem Qho(a b:List Int)(n:Nat)(x:Int):evI (Yx (Xg a b) n) x=evI (Xg (Yx a n) (Yx b n)) x:=by
  rw[Xl,Xc,Xc,Xl,Xl,Int.mul_pow]
theorem Qfc: ∀(l:List Int)(c x:Int){n:Nat},l.length=n→evI (l++[c]) x=evI l x+c*x^n
  | [],c,x,n,h=>by obtain rfl:n=0:=h.symm;simp [evI]
  |a::t,c,x,n,h=>by
    obtain⟨m,rfl⟩: ∃m,n=m+1:=⟨n -1,by have :(a::t).length=t.length+1:=rfl;omega⟩
    have e:=Qfc t c x (n:=m) (by simpa using h)
    simp only[List.cons_append,evI,e,Int.pow_succ];grind
theorem Qg6{p:Nat}(hp:Xk p)(a b:List Int):CgV (p:Int) (Yx (XD a b) p) (XD (Yx a p) (Yx b p)):=by
  obtain⟨h,e⟩:=Qu6 hp (XD a b) b
  refine⟨Xf h (-1),fun x=> ?_⟩
  have e:=e x
  simp only[Xl,Xd,Xh,Xm,Int.sub_add_cancel] at *
  grind
def mY(a:List Int)(c:Nat→List Int):Nat→List Int
  |0=>XD [] (Xg a (c 0))
  |i+1=>XD (c i) (Xg a (c (i+1)))
def prY(al:Nat→List Int):Nat→Nat→List Int
  |0=>fun i=>match i with |0=>[1]|_+1=>[]
  |n+1=>mY (al n) (prY al n)
theorem QwF{a a':List Int}{c c':Nat→List Int}{x:Int}(ha:evI a x=evI a' x)(hc: ∀i,evI (c i) x=evI (c' i) x): ∀i,evI (mY a c i) x=evI (mY a' c' i) x
  |0=>by simp only[mY,Xh,Xc,ha,hc]
  |i+1=>by simp only[mY,Xh,Xc,ha,hc]
theorem Qvu{p:Nat}{F a a':List Int}{c c':Nat→List Int}(ha:EqF p F a a')(hc: ∀i,EqF p F (c i) (c' i)): ∀i,EqF p F (mY a c i) (mY a' c' i)
  |0=>(EqF.refl _).sub (ha.mul (hc 0))
  |i+1=>(hc i).sub (ha.mul (hc (i+1)))
theorem Qtg(a b:List Int)(c:Nat→List Int)(x:Int): ∀i,evI (mY a (mY b c) i) x=evI (mY b (mY a c) i) x
  |0=>by simp only[mY,Xh,Xc,evI];grind
  |1=>by simp only[mY,Xh,Xc,evI];grind
  |i+2=>by simp only[mY,Xh,Xc];grind
theorem Qfs(al:Nat→List Int)(x:Int): ∀n i,evI (prY al (n+1) i) x=evI (mY (al 0) (prY (fun i=>al (i+1)) n) i) x
  |0,i=>rfl
  |n+1,i=>(QwF rfl (fun j=>Qfs al x n j) i).trans (Qtg _ _ _ x i)
theorem QkW(al:Nat→List Int)(x:Int): ∀n i,n<i→evI (prY al n i) x=0
  |0,0,h=>absurd h (by omega)
  |0,i+1,_=>rfl
  |n+1,0,h=>absurd h (by omega)
  |n+1,i+1,h=>by simp only[prY,mY,Xh,Xc];rw[QkW al x n i (by omega),QkW al x n (i+1) (by omega)];simp
theorem Qov(al:Nat→List Int)(x:Int): ∀n,evI (prY al n n) x=1
  |0=>Xj 1 x
  |n+1=>by simp only[prY,mY,Xh,Xc];rw[Qov al x n,QkW al x n (n+1) (by omega)];simp
theorem QeA{p:Nat}{F:List Int}(hp:Xk p)(al:Nat→List Int): ∀n i,EqF p F (Yx (prY al n i) p) (prY (fun i=>Yx (al i) p) n i)
  |0,0=>EqF.ev fun x=>by rw[Xl];simp only[prY,Xj,Int.one_pow]
  |0,i+1=>EqF.ev fun x=>by rw[Xl];simp only[prY,evI];exact Int.zero_pow (by have :=hp.1;omega)
  |n+1,0=>(EqF.cg (Qg6 hp _ _)).trans (((EqF.ev fun x=>by rw[Xl];simp only[evI];exact Int.zero_pow (by have :=hp.1;omega)):EqF p F (Yx [] p) []).sub ((EqF.ev (Qho _ _ p)).trans ((EqF.refl _).mul (QeA hp al n 0))))
  |n+1,i+1=>(EqF.cg (Qg6 hp _ _)).trans ((QeA hp al n i).sub ((EqF.ev (Qho _ _ p)).trans ((EqF.refl _).mul (QeA hp al n (i+1)))))
def eY(c:Nat→List Int)(y:List Int):Nat→List Int
  |0=>c 0
  |n+1=>Xx (eY c y n) (Xg (c (n+1)) (Yx y (n+1)))
theorem QuS{c c':Nat→List Int}{y:List Int}{x:Int}(h: ∀i,evI (c i) x=evI (c' i) x): ∀n,evI (eY c y n) x=evI (eY c' y n) x
  |0=>h 0
  |n+1=>by simp only[eY,Xd,Xc,QuS h n,h]
theorem QrG{p:Nat}{F y:List Int}{c c':Nat→List Int}(h: ∀i,EqF p F (c i) (c' i)): ∀n,EqF p F (eY c y n) (eY c' y n)
  |0=>h 0
  |n+1=>(QrG h n).add ((h (n+1)).mul (EqF.refl _))
theorem QuT(a y:List Int)(c:Nat→List Int)(x:Int): ∀n,evI (eY (mY a c) y n) x+evI (c n) x*evI y x^ (n+1)=(evI y x -evI a x)*evI (eY c y n) x
  |0=>by simp only[eY,mY,Xh,Xc,evI,Int.pow_succ,Int.pow_zero];grind
  |n+1=>by
    have h:=QuT a y c x n
    simp only[eY,mY,Xd,Xh,Xc,Xl] at *
    rw[Int.pow_succ _ (n+1)]
    grind
theorem QfI{p d:Nat}(hp:P6 p){f:List Nat}(hf:Zw p f)(hw:Whole p f)(hd:1≤d)(h:EqF p (zl f) (cj p [0,1] d) [0,1]):f.length≤d+1:=by
  obtain⟨n,rfl⟩: ∃n,d=n+1:=⟨d -1,by omega⟩
  have hfix: ∀i,EqF p (zl f) (Yx (prY (cj p [0,1]) (n+1) i) p) (prY (cj p [0,1]) (n+1) i):=fun i=>
    (QeA hp _ _ i).trans ((Qvu h (fun j=>EqF.refl _) i).trans (EqF.ev fun x=>(Qfs (cj p [0,1]) x n i).symm))
  have hc: ∀i,∃a:Int,EqF p (zl f) (prY (cj p [0,1]) (n+1) i) [a]:=fun i=>Qj6 hp hf hw (hfix i)
  let a:Nat→Int:=fun i=>(hc i).choose
  have ha: ∀i,EqF p (zl f) (prY (cj p [0,1]) (n+1) i) [a i]:=fun i=>(hc i).choose_spec
  let c:Nat→List Int:=fun i=>if i=n+1 then [1] else [a i]
  have hac: ∀i,EqF p (zl f) (c i) (prY (cj p [0,1]) (n+1) i):=fun i=>by
    show EqF p (zl f) (if i=n+1 then [1] else [a i]) _
    by_cases hi:i=n+1
    · subst hi
      rw[if_pos rfl];exact EqF.ev fun x=>by rw[Qov,Xj]
    · rw[if_neg hi];exact(ha i).symm
  have hz:EqF p (zl f) (eY c [0,1] (n+1)) []:=(QrG hac (n+1)).trans (EqF.ev fun x=>by
    rw[QuS (fun i=>Qfs (cj p [0,1]) x n i) (n+1)]
    have h1:=QuT (cj p [0,1] 0) [0,1] (prY (fun i=>cj p [0,1] (i+1)) n) x (n+1)
    rw[QkW _ x n (n+1) (by omega),show cj p [0,1] 0=[0,1] from rfl] at h1
    rw[show cj p [0,1] 0=[0,1] from rfl]
    simp only[evI] at *
    grind)
  have hM: ∀m,m≤n→ ∀x,evI (eY c [0,1] m) x=evI ((List.range (m+1)).map a) x:=by
    intro m hm x
    induction m with
    |zero=>simp only[eY,c,show ¬(0=n+1) by omega,if_false];rfl
    |succ m ih=>
      have e1:evI ((List.range (m+1+1)).map a) x=evI ((List.range (m+1)).map a) x+a (m+1)*x^ (m+1):=by
        rw[List.range_succ,List.map_append];exact Qfc _ _ _ (by simp)
      rw[e1,eY,Xd,Xc,Xl,ih (by omega)]
      simp only[c,show ¬(m+1=n+1) by omega,if_false,evI]
      grind
  have hB: ∀x,evI ((List.range (n+1)).map a++[1]) x=evI (eY c [0,1] (n+1)) x:=fun x=>by
    rw[Qfc _ _ _ rfl,eY,Xd,Xc,Xl,hM n (Nat.le_refl _)]
    simp only[c,if_true,evI,List.length_map,List.length_range]
    grind
  have hmon:Mon ((List.range (n+1)).map a++[1]) (n+1):=⟨by simp [co],fun i hi=>XX (by simp;omega)⟩
  have h9:=Qa1 hp.two hf.mz hmon (EqF.dv ((EqF.ev hB).trans hz))
  have :=hf.pos
  omega
end Go.Gx
namespace Go.Gx
theorem Qc5(F G:List Int)(x:Int):evI (Xn (Xg F G)) x=evI (Xn F) x*evI G x+evI F x*evI (Xn G) x:=by
  have h:=congrArg (fun l=>evI l x) (QlJ F G)
  simp only[QaD,Xd,Xc,Qge] at h
  exact h
theorem Qep{p:Int}{a b:List Int}(h:CgV p a b):CgV p (Xn a) (Xn b):=CgV.of fun i=>by
  obtain⟨k,hk⟩:=h.cof (i+1)
  rw[XZ,XZ,hk]
  exact⟨k*((i+1:Nat):Int),by grind⟩
theorem QhE{p:Int}{F w G:List Int}(hs:Cop p F (Xn F))(h:CgV p F (Xg w G)):Cop p w G:=by
  obtain⟨a,ha⟩:=Qep h
  obtain⟨u,v,k,hk⟩:=hs
  obtain⟨b,hb⟩:=h
  refine⟨Xx (Xg u G) (Xg v (Xn G)),Xg v (Xn w),XD k (Xx (Xg u b) (Xg v a)),fun x=> ?_⟩
  have h1:=ha x;have h2:=hb x;have h3:=hk x
  rw[Qc5] at h1
  simp only[Xd,Xh,Xc,Xj] at *
  rw[h1,h2] at h3
  grind
theorem QbX{p:Nat}{f:List Nat}(hp:2≤p)(hf:Zw p f)(h: ¬Whole p f): ∃G:List Nat,∃w:List Int,Zw p G∧G.length<f.length∧CgV (p:Int) (zl f) (Xg w (zl G)):=by
  obtain⟨G,hG⟩:=Classical.not_forall.1 h
  have hG1:Zw p G∧Dv (p:Int) (zl G) (zl f)∧G.length≠f.length:=by
    rcases Classical.em (Zw p G) with h1|h1
    · rcases Classical.em (Dv (p:Int) (zl G) (zl f)) with h2|h2
      · exact⟨h1,h2,fun e=>hG fun _ _=>e⟩
      · exact absurd (fun _ h3=>absurd h3 h2) hG
    · exact absurd (fun h3=>absurd h3 h1) hG
  obtain⟨h1,⟨w,hw⟩,h3⟩:=hG1
  refine⟨G,w,h1,?_,hw⟩
  have :=Qa1 hp h1.mz hf.mz ⟨w,hw⟩
  have :=h1.pos;have :=hf.pos
  omega
theorem Qes{p:Nat}{G:List Nat}{c:Int}(hG:Zw p G)(h:Dv (p:Int) (zl G) [c]):(p:Int)∣c:=by
  obtain⟨w,hw⟩:=h
  have h1:CgV (p:Int) (Xg (zl G) w) [c]:=(CgV.eqv fun x=>by simp only[Xc];grind :CgV (p:Int) (Xg (zl G) w) (Xg w (zl G))).trans hw.symm
  have hpos:=hG.pos
  have h2:=YM hG.mz h1 fun i hi=>by rw[XX (f:=[c]) (by simp;omega)];exact Int.dvd_zero _
  have h3:CgV (p:Int) [c] []:=hw.trans ((h2.mul (CgV.refl _ _)).trans (CgV.eqv fun x=>by simp only[Xc,evI];omega))
  obtain⟨k,hk⟩:=h3.cof 0
  rw[show co [c] 0=c from rfl,show co [] 0=0 from rfl] at hk
  exact⟨k,by omega⟩
structure Qwf (p:Nat) (f G:List Nat) (w e:List Int):Prop where
  mon:Zw p G
  lt:G.length<f.length
  dG:Dv (p:Int) (zl G) (zl f)
  dw:Dv (p:Int) w (zl f)
  nw: ¬Dv (p:Int) w [1]
  one:EqF p (zl G) e [1]
  zero:EqF p w e []
theorem Qrd{p:Nat}{f:List Nat}(hp:2≤p)(hf:Zw p f)(hs:Cop (p:Int) (zl f) (Xn (zl f)))(h: ¬Whole p f): ∃G w e,Qwf p f G w e:=by
  obtain⟨G,w,hG,hlt,hw⟩:=QbX hp hf h
  obtain⟨s,t,k,hk⟩:=QhE hs hw
  refine⟨G,w,Xg s w,hG,hlt,⟨w,hw⟩,⟨zl G,hw.trans (CgV.eqv fun x=>by simp only[Xc];grind)⟩,?_,?_,?_⟩
  · intro⟨u,l,hu⟩
    obtain⟨b,hb⟩:=hw
    have h1:Dv (p:Int) (zl f) (zl G):=⟨u,Xx (Xg l (zl G)) (Xf (Xg u b) (-1)),fun x=>by
      have h1:=hu x;have h2:=hb x
      simp only[Xd,Xc,Xm,Xj] at *
      rw[h2]
      have h3:1*evI (zl G) x=(evI u x*evI w x+p*evI l x)*evI (zl G) x:=by rw[←h1]
      grind⟩
    have :=Qa1 hp hf.mz hG.mz h1
    have :=hG.pos
    omega
  · exact⟨Xf t (-1),k,fun x=>by have :=hk x;simp only[Xd,Xc,Xm,Xj] at *;grind⟩
  · exact⟨s,[],fun x=>by simp only[Xc,evI];grind⟩
theorem QoI{p:Nat}{f:List Nat}(hp:Xk p)(hf:Zw p f)(t:List Int): ∃r:List Nat,XE p r∧r.length<f.length∧EqF p (zl f) (zl r) t:=by
  have hp0:0<p:=by have :=hp.1;omega
  have hpos:=hf.pos
  rcases hd:XH p (XR p t) f with⟨q,r⟩
  have hc:=XK hp0 t
  have h1:=QbP hp0 hd
  refine⟨r,?_,?_,?_⟩
  · have :=(QaB hp0 hc (g:=f)).2;rw[hd] at this;exact this
  · have h2:=Qa0 (f:=XR p t) hp (by omega) (by rw[hf.one];omega) hf.can.1 hc.1
    rw[hd] at h2;exact h2
  · obtain⟨k,hk⟩:=h1.trans (YW hp0 t)
    exact⟨Xf (zl q) (-1),k,fun x=>by have :=hk x;simp only[Xd,Xc,Xm] at *;grind⟩
def Yu(p:Nat)(t:List Int):Nat→List Int
  |0=>[1]
  |d+1=>Xg (Yu p t d) (cj p t d)
def QoP(p:Nat)(t:List Int)(d:Nat):List Int:=XD (Yx (Yu p t d) ((p -1)/2)) [1]
theorem EqF.prodJ{p:Nat}{F a b:List Int}(h:EqF p F a b): ∀d,EqF p F (Yu p a d) (Yu p b d)
  |0=>EqF.refl _
  |d+1=>(EqF.prodJ h d).mul (h.cj d)
theorem EqF.sepO{p:Nat}{F a b:List Int}(h:EqF p F a b)(d:Nat):EqF p F (QoP p a d) (QoP p b d):=((h.prodJ d).pow _).sub (EqF.refl _)
theorem QmG(p:Nat)(x:Int): ∀i,evI (cj p [1] i) x=1
  |0=>Xj 1 x
  |i+1=>by rw[cj,Xl,QmG p x i,Int.one_pow]
theorem QeQ{p:Nat}(hp:0<p)(x:Int): ∀i,evI (cj p [] i) x=0
  |0=>rfl
  |i+1=>by rw[cj,Xl,QeQ hp x i,Int.zero_pow (by omega)]
theorem QiC(p:Nat)(x:Int): ∀d,evI (Yu p [1] d) x=1
  |0=>Xj 1 x
  |d+1=>by rw[Yu,Xc,QiC p x d,QmG];rfl
theorem QoQ{p d:Nat}(hp:3≤p)(hd:1≤d)(x:Int):evI (QoP p [] d) x= -1:=by
  obtain⟨j,rfl⟩: ∃j,d=j+1:=⟨d -1,by omega⟩
  rw[QoP,Xh,Xl,Yu,Xc,QeQ (by omega),Int.mul_zero,Int.zero_pow (by omega),Xj];rfl
def QbH(p:Nat)(t:List Int):Nat→List Int
  |0=>[]
  |d+1=>Xx (QbH p t d) (cj p t d)
theorem EqF.sumJ{p:Nat}{F a b:List Int}(h:EqF p F a b): ∀d,EqF p F (QbH p a d) (QbH p b d)
  |0=>EqF.refl _
  |d+1=>(EqF.sumJ h d).add (h.cj d)
theorem QmE{p:Nat}{F:List Int}(hp:P6 p)(a b:List Int): ∀i,EqF p F (cj p (Xx a b) i) (Xx (cj p a i) (cj p b i))
  |0=>EqF.refl _
  |i+1=>((QmE hp a b i).pow p).trans (EqF.cg (Qu6 hp _ _))
theorem Qlg{p:Nat}{F:List Int}(hp:P6 p)(a b:List Int): ∀d,EqF p F (QbH p (Xx a b) d) (Xx (QbH p a d) (QbH p b d))
  |0=>EqF.ev fun x=>by simp only[QbH,Xd,evI];omega
  |d+1=>((Qlg hp a b d).add (QmE hp a b d)).trans (EqF.ev fun x=>by simp only[QbH,Xd];omega)
theorem Qkd(p:Nat)(a:List Int)(n:Nat)(x:Int): ∀i,evI (cj p (Yx a n) i) x=evI (cj p a i) x^n
  |0=>by rw[cj,cj,Xl]
  |i+1=>by rw[cj,cj,Xl,Xl,Qkd p a n x i,←Int.pow_mul,←Int.pow_mul,Nat.mul_comm]
theorem QfD{p:Nat}{F:List Int}(hp:P6 p)(a:List Int): ∀d,EqF p F (QbH p (Yx a p) d) (Yx (QbH p a d) p)
  |0=>EqF.ev fun x=>by rw[Xl,QbH];simp only[evI,QbH];rw[Int.zero_pow (by have :=hp.pos;omega)]
  |d+1=>((QfD hp a d).add (EqF.ev fun x=>by rw[Qkd,←Xl]:EqF p F (cj p (Yx a p) d) (Yx (cj p a d) p))).trans (EqF.cg (Qu6 hp _ _).symm)
theorem Qke(p:Nat)(a:List Int)(x:Int): ∀i,evI (cj p (Yx a p) i) x=evI (cj p a (i+1)) x
  |0=>rfl
  |i+1=>by rw[cj,Xl,Qke p a x i,←Xl];rfl
theorem QgA(p:Nat)(a:List Int)(x:Int): ∀d,evI (QbH p (Yx a p) d) x=evI (QbH p a d) x+evI (cj p a d) x -evI a x
  |0=>by simp only[QbH,cj,evI];omega
  |d+1=>by simp only[QbH,Xd,QgA p a x d,Qke];omega
theorem Qt7{p d:Nat}{F a:List Int}(hp:P6 p)(h:EqF p F (cj p a d) a):EqF p F (Yx (QbH p a d) p) (QbH p a d):=
  (QfD hp a d).symm.trans ((EqF.ev fun x=>by rw[QgA];simp only[Xd,Xh]:EqF p F (QbH p (Yx a p) d) (XD (Xx (QbH p a d) (cj p a d)) a)).trans ((((EqF.refl _).add h).sub (EqF.refl a)).trans (EqF.ev fun x=>by simp only[Xd,Xh];omega)))
def Kd(F t:List Int)(d:Nat):Prop:= ∃c:Int,(c=0∨c=1)∧EqF 2 F (QbH 2 t d) [c]
theorem Kd.eq{F a b:List Int}{d:Nat}(h:Kd F a d)(e:EqF 2 F a b):Kd F b d:=by obtain⟨c,hc,h⟩:=h;exact⟨c,hc,(e.symm.sumJ d).trans h⟩
theorem QqI:P6 2:=⟨by decide,fun a h0 h1=>by rw[show a=1 by omega];rfl⟩
theorem Kd.add{F a b:List Int}{d:Nat}(h:Kd F a d)(g:Kd F b d):Kd F (Xx a b) d:=by
  obtain⟨c,hc,h⟩:=h;obtain⟨k,hk,g⟩:=g
  have h1:=(Qlg (F:=F) QqI a b d).trans (h.add g)
  rcases hc with rfl|rfl<;>rcases hk with rfl|rfl
  · exact⟨0,.inl rfl,h1.trans (EqF.ev fun x=>by simp only[Xd,evI];omega)⟩
  · exact⟨1,.inr rfl,h1.trans (EqF.ev fun x=>by simp only[Xd,evI];omega)⟩
  · exact⟨1,.inr rfl,h1.trans (EqF.ev fun x=>by simp only[Xd,evI];omega)⟩
  · exact⟨0,.inl rfl,h1.trans (EqF.cg ⟨[1],fun x=>by simp only[Xd,evI];omega⟩)⟩
theorem Kd.sq{F a:List Int}{d:Nat}(h:Kd F a d):Kd F (Yx a 2) d:=by
  obtain⟨c,hc,h⟩:=h
  refine⟨c,hc,(QfD QqI a d).trans ((h.pow 2).trans (EqF.ev fun x=> ?_))⟩
  rw[Xl,Xj];rcases hc with rfl|rfl<;>rfl
theorem Kd.one(F:List Int)(d:Nat):Kd F [1] d:=by
  have h: ∀x,evI (QbH 2 [1] d) x=d:=fun x=>by
    induction d with
    |zero=>rfl
    |succ d ih=>rw[QbH,Xd,ih,QmG];rfl
  refine⟨(d:Int) % 2,by omega,EqF.cg ⟨[(d:Int)/2],fun x=> ?_⟩⟩
  rw[h,Xj,Xj];omega
theorem Kd.nil(F:List Int)(d:Nat):Kd F [] d:=by
  have h: ∀x,evI (QbH 2 [] d) x=0:=fun x=>by
    induction d with
    |zero=>rfl
    |succ d ih=>rw[QbH,Xd,ih,QeQ (by omega)];rfl
  exact⟨0,.inl rfl,EqF.ev fun x=>by rw[h,Xj]⟩
theorem Qfb(t:List Nat)(a:Nat)(x:Int):evI (zl (t++[a])) x=evI (zl t) x+(a:Int)*x^t.length:=by
  induction t with
  |nil=>simp [zl,evI]
  |cons b t ih=>
    have e: ∀(l:List Nat),evI (zl (b::l)) x=(b:Int)+x*evI (zl l) x:=fun l=>rfl
    rw[List.cons_append,e,e,ih,List.length_cons,Int.pow_succ];grind
theorem Kd.all{F:List Int}{d B:Nat}(h: ∀m,m<B→Kd F (Yx [0,1] m) d): ∀(n:Nat)(t:List Nat),t.length=n→n≤B→(∀a∈t,a<2)→Kd F (zl t) d:=by
  intro n
  induction n with
  |zero=>intro t ht _ _;rw[List.eq_nil_of_length_eq_zero ht];exact Kd.nil F d
  |succ n ih=>
    intro t ht hn ha
    rcases Xw t with h0| ⟨t',a,rfl⟩
    · subst h0;simp at ht
    · have hl:t'.length=n:=by simpa using ht
      have h1:=ih t' hl (by omega) fun b hb=>ha b (by simp [hb])
      have h2:=ha a (by simp)
      rcases(show a=0∨a=1 by omega) with rfl|rfl
      · exact h1.eq (EqF.ev fun x=>by rw[Qfb];simp)
      · exact(h1.add (h n (by omega))).eq (EqF.ev fun x=>by rw[Qfb,Xd,Xl,hl];simp [evI])
end Go.Gx
namespace Go.Gx
theorem Qf0{p:Nat}{l:List Nat}(h:XE p l):Canon isZ l:=h.trim
theorem Qsb{p:Nat}(hp:2≤p): ∀(a b:List Nat),XE p a→XE p b→vb p a=vb p b→a=b:=by
  have tl: ∀(x:Nat)(l:List Nat),XE p (x::l)→XE p l:=fun x l h=>⟨fun d hd=>h.1 d (List.mem_cons_of_mem _ hd),fun h0=>by
    have h1:=h.2 (by simp)
    obtain⟨j,hj⟩: ∃j,l.length=j+1:=⟨l.length -1,by omega⟩
    rw[List.length_cons,hj,Nat.add_sub_cancel,List.getD_cons_succ] at h1
    rw[hj];exact h1⟩
  have nz: ∀l:List Nat,XE p l→vb p l=0→l=[]:=fun l h h0=>Qf1 (Qf0 h) (by omega) h0
  intro a
  induction a with
  |nil=>intro b _ hb h;exact(nz b hb h.symm).symm
  |cons x a ih=>
    intro b ha hb h
    cases b with
    |nil=>exact nz _ ha h
    |cons y b=>
      have hx:=ha.1 x (by simp);have hy:=hb.1 y (by simp)
      have e1:vb p (x::a)=x+p*vb p a:=rfl
      have e2:vb p (y::b)=y+p*vb p b:=rfl
      rw[e1,e2] at h
      have h1:x=y:=by
        have :=congrArg (· % p) h
        simp only[Nat.add_mul_mod_self_left,Nat.mod_eq_of_lt hx,Nat.mod_eq_of_lt hy] at this
        exact this
      subst h1
      have h2:vb p a=vb p b:=Nat.eq_of_mul_eq_mul_left (show 0<p by omega) (by omega)
      rw[ih b (tl _ _ ha) (tl _ _ hb) h2]
theorem Qr0: ∀(n:Nat)(c:Nat→Nat),(∀i,i≤n→c i<n)→ ∃i j,i<j∧j≤n∧c i=c j
  |0,c,h=>absurd (h 0 (Nat.le_refl _)) (by omega)
  |n+1,c,h=>by
    rcases Classical.em (∃i,i≤n∧c i=c (n+1)) with⟨i,h1,h2⟩|h1
    · exact⟨i,n+1,by omega,Nat.le_refl _,h2⟩
    · have hne: ∀i,i≤n→c i≠c (n+1):=fun i hi e=>h1 ⟨i,hi,e⟩
      obtain⟨i,j,h3,h4,h5⟩:=Qr0 n (fun i=>if c i<c (n+1) then c i else c i -1) fun i hi=>by
        have a1:=h i (by omega);have a2:=hne i hi;have a3:=h (n+1) (Nat.le_refl _)
        show(if c i<c (n+1) then c i else c i -1)<n
        split<;>omega
      refine⟨i,j,h3,by omega,?_⟩
      have a1:=hne i (by omega);have a2:=hne j (by omega)
      split at h5<;>split at h5<;>omega
theorem Qvq{P:Nat→Prop}: ∀n,0<n→P n→ ∃m,0<m∧P m∧ ∀k,0<k→k<m→ ¬P k:=by
  intro n
  induction n using Nat.strongRecOn with
  |_ n ih=>
    intro h0 hn
    rcases Classical.em (∃k,0<k∧k<n∧P k) with⟨k,h1,h2,h3⟩|h
    · exact ih k h2 h1 h3
    · exact⟨n,h0,hn,fun k h1 h2 h3=>h ⟨k,h1,h2,h3⟩⟩
def evY:List (List Int)→List Int→List Int
  | [],_=>[]
  |c::t,y=>Xx c (Xg y (evY t y))
def Qmj(a:List Int):List (List Int)→List (List Int)
  | []=>[]
  | [_]=>[]
  |_::b::t=>evY (b::t) a::Qmj a (b::t)
theorem Qll(a:List Int): ∀l:List (List Int),(Qmj a l).length=l.length -1
  | []=>rfl
  | [_]=>rfl
  |_::b::t=>by have h:=Qll a (b::t);simp only[Qmj,List.length_cons] at *;omega
theorem Qnn(a y:List Int)(x:Int): ∀l:List (List Int),evI (evY l y) x=(evI y x -evI a x)*evI (evY (Qmj a l) y) x+evI (evY l a) x
  | []=>by simp [evY,Qmj,evI]
  | [c]=>by simp [evY,Qmj,Xd,Xc,evI]
  |c::b::t=>by
    have h:=Qnn a y x (b::t)
    have e1: ∀z,evI (evY (c::b::t) z) x=evI c x+evI z x*evI (evY (b::t) z) x:=fun z=>by rw[evY,Xd,Xc]
    have e2:evI (evY (Qmj a (c::b::t)) y) x=evI (evY (b::t) a) x+evI y x*evI (evY (Qmj a (b::t)) y) x:=by rw[Qmj,evY,Xd,Xc]
    rw[e1,e1,e2,h]
    grind
def Qrr(l:List (List Int)):Prop:= ∃i c,l=i++[c]∧ ∀x,evI c x=1
theorem Qrr.syn(a:List Int): ∀{l:List (List Int)},Qrr l→2≤l.length→Qrr (Qmj a l)
  | [],h,h2=>by simp at h2
  | [_],h,h2=>by simp at h2
  | [c,b],⟨i,d,e,hd⟩,_=>by
    have hb:b=d:=by
      have :=congrArg List.getLast? e
      simpa using this
    subst hb
    exact⟨[],evY [b] a,rfl,fun x=>by rw[evY,Xd,Xc,hd];simp [evY,evI]⟩
  |c::b::b'::t,⟨i,d,e,hd⟩,_=>by
    have h1:Qrr (b::b'::t):=by
      cases i with
      |nil=>simp at e
      |cons i0 i=>exact⟨i,d,(List.cons.inj e).2,hd⟩
    obtain⟨j,u,hj,hu⟩:=Qrr.syn a h1 (by simp)
    exact⟨evY (b::b'::t) a::j,u,by rw[Qmj,hj];rfl,hu⟩
theorem Qrr.one{l:List (List Int)}(h:Qrr l)(h1:l.length=1)(y:List Int)(x:Int):evI (evY l y) x=1:=by
  obtain⟨i,c,rfl,hc⟩:=h
  obtain rfl:i=[]:=List.eq_nil_of_length_eq_zero (by simpa using h1)
  rw[List.nil_append,evY,Xd,Xc,hc];simp [evY,evI]
def prK(al:Nat→List Int)(y:List Int):Nat→List Int
  |0=>[1]
  |n+1=>Xg (prK al y n) (XD y (al n))
theorem Qij{p:Nat}(hp:Xk p){F:List Int}(c:List Int): ∀l:List Nat,EqF p F (Yx (Qfh c (zl l)) p) (Qfh (Yx c p) (zl l))
  | []=>EqF.ev fun x=>by rw[Xl];simp only[zl,List.map,Qfh,evI];exact Int.zero_pow (by have :=hp.1;omega)
  |k::l=>by
    refine(EqF.cg (Qu6 hp [(k:Int)] _)).trans (EqF.add ?_ ((EqF.ev (Qho _ _ p)).trans ((EqF.refl _).mul (Qij hp c l))))
    obtain⟨z,hz⟩:=Qqi hp k
    exact EqF.cg ⟨[z],fun x=>by rw[Xl,Xj,Xj];grind⟩
theorem EqF.sub_of{p:Nat}{F a b:List Int}(h:EqF p F (XD a b) []):EqF p F a b:=
  ((EqF.ev fun x=>by simp only[Xd,Xh];omega:EqF p F a (Xx (XD a b) b)).trans (h.add (EqF.refl b))).trans (EqF.ev fun x=>by simp only[Xd,evI];omega)
theorem QdI{p:Nat}(hp:Xk p){f:List Nat}(hf:Zw p f)(hw:Whole p f)(c:List Int): ∀n,Dv (p:Int) (zl f) (Yx c n)→Dv (p:Int) (zl f) c
  |0,h=>absurd h (YJ hp.1 hf)
  |n+1,h=>by
    rcases Qp0 hp hf hw (Yx c n) with h1|h1
    · exact ZB h1 h
    · exact QdI hp hf hw c n h1
theorem Qi1{p:Nat}(hp:Xk p){f:List Nat}(hf:Zw p f)(hw:Whole p f):EqF p (zl f) (cj p [0,1] (f.length -1)) [0,1]:=by
  have hp2:=hp.1
  have hpos:=hf.pos
  let al:=cj p [0,1]
  have inj: ∀i k,EqF p (zl f) (al (i+k)) (al i)→EqF p (zl f) (al k) (al 0):=by
    intro i
    induction i with
    |zero=>intro k h;rwa [Nat.zero_add] at h
    |succ i ih=>
      intro k h
      refine ih k (EqF.sub_of (EqF.of_dv (QdI hp hf hw _ p (EqF.dv ?_))))
      have e1:al (i+1+k)=Yx (al (i+k)) p:=by rw[show i+1+k=(i+k)+1 by omega];rfl
      rw[e1] at h
      exact(EqF.cg (Qg6 hp _ _)).trans ((h.sub (EqF.refl (al (i+1)))).trans (EqF.ev fun x=>by simp only[Xh,evI];omega))
  have hr: ∀i,∃r:List Nat,XE p r∧r.length<f.length∧EqF p (zl f) (zl r) (al i):=fun i=>QoI hp hf (al i)
  let r:Nat→List Nat:=fun i=>(hr i).choose
  have hrs: ∀i,XE p (r i)∧(r i).length<f.length∧EqF p (zl f) (zl (r i)) (al i):=fun i=>(hr i).choose_spec
  obtain⟨i,j,hij,_,hc⟩:=Qr0 (p^ (f.length -1)) (fun i=>vb p (r i)) fun i _=>
    Nat.lt_of_lt_of_le (Qmm (r i) (hrs i).1.1) (Nat.pow_le_pow_right (by omega) (by have :=(hrs i).2.1;omega))
  have hrr:r i=r j:=Qsb hp2 _ _ (hrs i).1 (hrs j).1 hc
  have hm0:EqF p (zl f) (al (j -i)) (al 0):=inj i (j -i) (by
    rw[show i+(j -i)=j by omega]
    exact(hrs j).2.2.symm.trans (by rw[←hrr];exact(hrs i).2.2))
  obtain⟨m,hm,hme,hmin⟩:=Qvq (P:=fun m=>EqF p (zl f) (al m) (al 0)) (j -i) (by omega) hm0
  have hdis: ∀a b,a<b→b<m→Cop (p:Int) (zl f) (XD (al b) (al a)):=fun a b h1 h2=>by
    rcases Qp0 hp hf hw (XD (al b) (al a)) with h3|h3
    · exact h3
    · exact absurd (inj a (b -a) (by rw[show a+(b -a)=b by omega];exact EqF.sub_of (EqF.of_dv h3))) (hmin (b -a) (by omega) (by omega))
  have hprc: ∀n b,n≤b→b<m→Cop (p:Int) (zl f) (prK al (al b) n):=by
    intro n
    induction n with
    |zero=>intro b _ _;exact⟨[],[1],CgV.eqv fun x=>by simp only[prK,Xd,Xc,Xj,evI];omega⟩
    |succ n ih=>intro b h1 h2;exact(ih b (by omega) h2).mul (hdis n b (by omega) h2)
  have hroot: ∀i,EqF p (zl f) (Qfh (al i) (zl f)) []:=by
    intro i
    induction i with
    |zero=>exact(EqF.ev fun x=>by rw[Qe7];show evI (zl f) (evI [0,1] x)=_;simp [evI]).trans (EqF.of_dv (Dv.self _))
    |succ i ih=>exact(Qij hp (al i) f).symm.trans ((ih.pow p).trans (EqF.ev fun x=>by rw[Xl];simp only[evI];exact Int.zero_pow (by omega)))
  have key: ∀n,n≤f.length -1→n≤m→ ∃Q:List (List Int),Q.length=f.length -n∧Qrr Q∧ ∀y,EqF p (zl f) (Qfh y (zl f)) (Xg (prK al y n) (evY Q y)):=by
    intro n
    induction n with
    |zero=>
      intro _ _
      refine⟨(zl f).map fun c=>[c],by simp [zl],?_,fun y=>EqF.ev fun x=> ?_⟩
      · obtain⟨g,hg⟩: ∃g,f=g++[1]:=by
          have h1:=hf.one
          have hne:f≠ []:=by intro e;subst e;simp at hpos
          refine⟨f.dropLast,?_⟩
          have e1:=(List.dropLast_concat_getLast hne).symm
          have e2:f.getLast hne=1:=by
            rw[List.getLast_eq_getElem]
            rw[List.getD,List.getElem?_eq_getElem (by omega)] at h1
            exact h1
          rw[e2] at e1;exact e1
        refine⟨(zl g).map fun c=>[c],[1],by rw[hg];simp [zl],fun x=>Xj 1 x⟩
      · have e: ∀l:List Int,evI (Qfh y l) x=evI (evY (l.map fun c=>[c]) y) x:=by
          intro l
          induction l with
          |nil=>rfl
          |cons a t ih=>rw[Qfh,List.map_cons,evY,Xd,Xd,Xc,Xc,ih]
        rw[Xc,e];simp only[prK,Xj];omega
    |succ n ih=>
      intro h1 h2
      obtain⟨Q,hl,hM,he⟩:=ih (by omega) (by omega)
      have hz:EqF p (zl f) (evY Q (al n)) []:=EqF.of_dv (ZB (hprc n n (Nat.le_refl _) (by omega)) (EqF.dv ((he (al n)).symm.trans (hroot n))))
      refine⟨Qmj (al n) Q,by rw[Qll];omega,hM.syn _ (by omega),fun y=>(he y).trans ?_⟩
      refine(((EqF.refl (prK al y n)).mul ((EqF.ev fun x=> ?_:EqF p (zl f) (evY Q y) (Xx (Xg (XD y (al n)) (evY (Qmj (al n) Q) y)) (evY Q (al n)))).trans ((EqF.refl _).add hz)))).trans (EqF.ev fun x=> ?_)
      · rw[Xd,Xc,Xh];exact Qnn _ _ _ _
      · simp only[prK,Xc,Xd,Xh,evI];grind
  have hmk:m≤f.length -1:=by
    rcases Nat.lt_or_ge (f.length -1) m with h1|h1
    · exfalso
      obtain⟨Q,hl,hM,he⟩:=key (f.length -1) (Nat.le_refl _) (by omega)
      have h2:EqF p (zl f) (prK al (al (f.length -1)) (f.length -1)) []:=
        (EqF.ev fun x=>by rw[Xc,hM.one (by omega)];omega:EqF p (zl f) (prK al (al (f.length -1)) (f.length -1)) (Xg (prK al (al (f.length -1)) (f.length -1)) (evY Q (al (f.length -1))))).trans ((he _).symm.trans (hroot _))
      exact YJ hp2 hf (Qe0 (hprc _ _ (Nat.le_refl _) h1) (EqF.dv h2))
    · exact h1
  have h9:=QfI hp hf hw (d:=m) (by omega) hme
  rw[show f.length -1=m by omega]
  exact hme
end Go.Gx
namespace Go.Gx
theorem Qt8(p a:Nat):(p:Int)∣QdX p a -(a:Int):=by
  unfold QdX
  obtain⟨k,hk⟩:=Qce (p:=p) a
  split
  · exact⟨k -1,by rw[Int.mul_sub];omega⟩
  · exact⟨k,hk⟩
theorem QfE(p:Nat):QdX p 0=0:=by unfold QdX;rw[Nat.zero_mod,if_neg (by omega)];rfl
theorem Qsy{F:Nat→Int}(h0:F 0=0)(d:List Nat)(i:Nat):co (d.map F) i=F (d.getD i 0):=by
  simp only[co,List.getD,List.getElem?_map]
  cases d[i]? with
  |none=>exact h0.symm
  |some x=>rfl
theorem QhV(p:Nat)(d:List Nat)(i:Nat):co (Xa (d.map (QdX p))) i=QdX p (d.getD i 0):=by rw[Xo,Qsy (QfE p)]
theorem QgB(p:Nat)(d:List Nat):CgV (p:Int) (Xa (d.map (QdX p))) (zl d):=CgV.of fun i=>by rw[QhV,ZS];exact Qt8 p _
theorem Qrj{p:Nat}(hp:2≤p):QdX p 1=1:=by
  unfold QdX
  rcases Nat.eq_or_lt_of_le hp with h|h
  · subst h;rfl
  · rw[Nat.mod_eq_of_lt (by omega),if_neg (by omega)];rfl
theorem Zw.mon{p:Nat}{d:List Nat}(hp:2≤p)(h:Zw p d):Mon (Xa (d.map (QdX p))) (d.length -1):=by
  refine⟨by rw[QhV,h.one,Qrj hp],fun i hi=> ?_⟩
  have :=h.pos
  rw[QhV,show d.getD i 0=0 by rw[List.getD,List.getElem?_eq_none (by omega)];rfl,QfE]
theorem Qld{p:Nat}(hp2:2≤p): ∀{ds ss:List (List Nat)},ds.length=ss.length→(∀d∈ds,Zw p d)→(∀(i:Nat)(d s:List Nat),ds[i]? =some d→ss[i]? =some s→s.length<d.length)→
    ∃n,MS (Qae p ds) (Qae p ss) n∧ds.length≤n
  | [],[],_,_,_=>⟨0,.nil,Nat.le_refl _⟩
  | [],_::_,h,_,_=>by cases h
  |_::_,[],h,_,_=>by cases h
  |d::ds,s::ss,h,hd,hs=>by
    obtain⟨n,h1,h2⟩:=Qld hp2 (ds:=ds) (ss:=ss) (by simpa using h) (fun x hx=>hd x (List.mem_cons_of_mem _ hx)) fun i a b ha hb=>hs (i+1) a b (by simpa using ha) (by simpa using hb)
    have hm:=hd d (List.mem_cons_self ..)
    have hl:=hs 0 d s rfl rfl
    refine⟨(d.length -1)+n,.cons (hm.mon hp2) (fun i hi=> ?_) h1,by have :=hm.pos;simp;omega⟩
    rw[QhV,show s.getD i 0=0 by rw[List.getD,List.getElem?_eq_none (by omega)];rfl,QfE]
theorem Qdt{p i:Nat}{ds:List (List Nat)}{a:List Int}(h:(Qae p ds)[i]? =some a): ∃d,ds[i]? =some d∧a=Xa (d.map (QdX p)):=by
  unfold Qae at h
  rw[List.getElem?_map] at h
  cases hd:ds[i]? with
  |none=>rw[hd] at h;cases h
  |some d=>rw[hd] at h;exact⟨d,rfl,(Option.some.inj h).symm⟩
theorem Qoj{q:Int}: ∀{as bs:List (List Int)},as.length=bs.length→(∀(i:Nat)(a b:List Int),as[i]? =some a→bs[i]? =some b→CgV q a b)→CgV q (pL as) (pL bs)
  | [],[],_,_=>CgV.refl _ _
  | [],_::_,h,_=>by cases h
  |_::_,[],h,_=>by cases h
  |a::as,b::bs,h,hi=>(hi 0 a b rfl rfl).mul (Qoj (by simpa using h) fun i x y hx hy=>hi (i+1) x y (by simpa using hx) (by simpa using hy))
theorem QeY{p i:Nat}{l:List (List Nat)}{s:List Nat}(h:(Qaq p l)[i]? =some s):i<l.length∧s=Qji p l i:=by
  unfold Qaq at h
  rw[List.getElem?_map] at h
  rcases Nat.lt_or_ge i l.length with h1|h1
  · rw[List.getElem?_range h1] at h;exact⟨h1,(Option.some.inj h).symm⟩
  · rw[List.getElem?_eq_none (by simpa using h1)] at h;cases h
structure Qmt (p:Nat) (f:List Int) (A0 L0 L1:List (List Int)) (e n:Nat):Prop where
  ms:MS L0 L1 n
  pr:CgV ((p^e:Nat):Int) (Xf (pL L0) (ldP f)) f
  cof:0<n→CgV ((p^e:Nat):Int) (tL L0 L1) [1]
  fit:Fit (p:Int) L0 A0
  red: ∀u∈L0,∀i,YY (p^e) (co u i)=co u i
  he:1≤e
theorem QeB{p:Nat}(hp0:0<p): ∀(l:List (List Nat))(a:List Nat),CgV (p:Int) (zl (QcM p a l)) (Xg (zl a) (pL (l.map zl)))
  | [],a=>CgV.eqv fun x=>by simp [QcM,pL,Xc,evI]
  |g::l,a=>by
    have h1:QcM p a (g::l)=QcM p (Qau p a g) l:=by unfold QcM;rw[List.foldl_cons]
    rw[h1]
    have h2:=QeB hp0 l (Qau p a g)
    have h3:=QgQ hp0 a g
    generalize zl (Qau p a g)=X at h2 h3
    exact h2.trans ((h3.mul (CgV.refl _ _)).trans (CgV.eqv fun x=>by simp only[List.map_cons,pL,Xc];grind))
theorem Fit.self{p:Int}: ∀{gs ss:List (List Int)}{n:Nat},MS gs ss n→Fit p gs gs:=fun h=>by
  induction h with
  |nil=>exact .nil
  |cons hg _ _ ih=>exact .cons _ hg hg (CgV.refl _ _) ih
theorem Qo8{p:Nat}(a:Nat):YY p (QdX p a)=QdX p a:=by
  rcases Nat.eq_zero_or_pos p with h|h
  · subst h;unfold YY QdX;simp
  · have h1:=Nat.mod_lt a h
    refine Qb6 ?_ ?_<;>(unfold QdX;split<;>omega)
theorem QnM{p:Nat}(hp0:0<p){P Q:List Int}{ld:Int}(h:CgV (p:Int) P Q):CgV (p:Int) (Xf P ld) (Xg (zl [md p ld]) Q):=by
  obtain⟨k,hk⟩:=QlX hp0 ld
  obtain⟨E,hE⟩:=h
  refine⟨Xx (Xf Q k) (Xf E ld),fun x=> ?_⟩
  have a1:=hE x
  simp only[Xm,Xc,Xd,zl,List.map_cons,List.map_nil,evI] at a1⊢
  rw[a1]
  generalize evI Q x=Q' at *
  generalize evI E x=E' at *
  generalize((md p ld:Nat):Int)=M at *
  subst hk
  grind
theorem QlW{p:Nat}(hp:Xk p){f:List Int}{ds:List (List Nat)}(hd: ∀d∈ds,Zw p d)(hw:Pw (p:Int) (ds.map zl))(hs:XO p (QcM p [md p (ldP f)] ds)=XO p (XR p f)):
    ∃n,Qmt p f (Qae p ds) (Qae p ds) (Qae p (Qaq p ds)) 1 n∧Pw (p:Int) (Qae p ds)∧ds.length≤n:=by
  have hp2:2≤p:=hp.1
  have hp0:0<p:=by omega
  have hlen:ds.length=(Qaq p ds).length:=by simp [Qaq]
  have hz: ∀(i:Nat)(a:List Int)(d:List Nat),(Qae p ds)[i]? =some a→ds[i]? =some d→CgV (p:Int) a (zl d):=fun i a d ha hda=>by
    obtain⟨d',h1,h2⟩:=Qdt ha
    rw[hda] at h1;obtain rfl:=Option.some.inj h1
    rw[h2];exact QgB p d
  obtain⟨n,hms,hn⟩:=Qld hp2 hlen hd fun i d s h1 h2=>by
    obtain⟨_,rfl⟩:=QeY h2
    exact(Qjj hp hd h1 hw).1
  have hpw:Pw (p:Int) (Qae p ds):=Qtx fun i j a b hj ha hb=>by
    obtain⟨d,h1,rfl⟩:=Qdt ha
    obtain⟨d',h2,rfl⟩:=Qdt hb
    exact(hw.at i j (zl d) (zl d') (by omega) (by simp [h1]) (by simp [h2])).cg (QgB p d).symm (QgB p d').symm
  have hprod: ∀i,CgV (p:Int) (pL ((Qae p ds).eraseIdx i)) (pL ((ds.map zl).eraseIdx i)):=fun i=>by
    refine Qoj (by simp [Qae,List.length_eraseIdx]) fun j a b ha hb=> ?_
    rw[List.getElem?_eraseIdx] at ha hb
    split at ha
    · rename_i h1
      rw[if_pos h1] at hb
      rw[List.getElem?_map] at hb
      cases hdj:ds[j]? with
      |none=>rw[hdj] at hb;cases hb
      |some d=>rw[hdj] at hb;obtain rfl:=Option.some.inj hb;exact hz j a d ha hdj
    · rename_i h1
      rw[if_neg h1] at hb
      rw[List.getElem?_map] at hb
      cases hdj:ds[j+1]? with
      |none=>rw[hdj] at hb;cases hb
      |some d=>rw[hdj] at hb;obtain rfl:=Option.some.inj hb;exact hz (j+1) a d ha hdj
  have hall:CgV (p:Int) (pL (Qae p ds)) (pL (ds.map zl)):=Qoj (by simp [Qae]) fun j a b ha hb=>by
    rw[List.getElem?_map] at hb
    cases hdj:ds[j]? with
    |none=>rw[hdj] at hb;cases hb
    |some d=>rw[hdj] at hb;obtain rfl:=Option.some.inj hb;exact hz j a d ha hdj
  refine⟨n,⟨hms,?_,fun hn0=> ?_,Fit.self hms,?_,Nat.le_refl _⟩,hpw,hn⟩
  · rw[Nat.pow_one]
    have h1:CgV (p:Int) (zl (QcM p [md p (ldP f)] ds)) f:=((QbK hp0 _).symm.trans (by rw[hs];exact QbK hp0 _)).trans (YW hp0 f)
    have h2:=(QeB hp0 ds [md p (ldP f)]).symm.trans h1
    have h3:CgV (p:Int) (Xf (pL (Qae p ds)) (ldP f)) (Xg (zl [md p (ldP f)]) (pL (ds.map zl))):=QnM hp0 hall
    exact h3.trans h2
  · rw[Nat.pow_one]
    refine crt hms hn0 hpw fun i g s hg hs'=> ?_
    obtain⟨d,h1,rfl⟩:=Qdt hg
    obtain⟨t,h2,rfl⟩:=Qdt hs'
    obtain⟨_,rfl⟩:=QeY h2
    obtain⟨_,y,hy⟩:=Qjj hp hd h1 hw
    exact⟨y,(((QgB p _).mul (hprod i)).trans hy).trans ((CgV.refl _ _).add ((CgV.refl _ _).mul (QgB p d).symm))⟩
  · rw[Nat.pow_one]
    intro u hu i
    obtain⟨d,_,rfl⟩:=List.mem_map.1 hu
    rw[QhV,Qo8]
theorem Qmt.degf{p:Nat}{f:List Int}{A0 L0 L1:List (List Int)}{e n:Nat}(h:Qmt p f A0 L0 L1 e n)(hl: ¬(p:Int)∣ldP f):co f n=ldP f∧ ∀i,n<i→co f i=0:=by
  have hM:=h.ms.prod
  have hp:(p:Int)∣ ((p^e:Nat):Int):=by
    have :=h.he
    exact_mod_cast Nat.dvd_of_pow_dvd (k:=1) (by omega) (by rw[Nat.pow_one];exact dvd_pow_self_nat (by omega))
  have hc: ∀i,∃k,ldP f*co (pL L0) i=co f i+p*k:=fun i=>by
    obtain⟨k,hk⟩:=(h.pr.dvd hp).cof i
    rw[Xi] at hk
    exact⟨k,by rw[Int.mul_comm];exact hk⟩
  have hne:ldP f≠0:=fun h0=>hl (h0▸Int.dvd_zero _)
  have hpos:0<(Xa f).length:=by
    rcases Nat.eq_zero_or_pos (Xa f).length with h0|h0
    · exfalso;apply hne;unfold ldP;rw[h0,List.eq_nil_of_length_eq_zero h0];rfl
    · exact h0
  have hld:ldP f=co f ((Xa f).length -1):=by
    unfold ldP
    rw[show(((Xa f).length:Int) -1)=(((Xa f).length -1:Nat):Int) by omega,QeV,Xo]
  have h1:(Xa f).length -1=n:=by
    rcases Nat.lt_trichotomy ((Xa f).length -1) n with h2|h2|h2
    · exfalso
      obtain⟨k,hk⟩:=hc n
      have h3:co f n=0:=by rw[←Xo,XX (by omega)]
      rw[hM.1,h3] at hk
      exact hl ⟨k,by omega⟩
    · exact h2
    · exfalso
      obtain⟨k,hk⟩:=hc ((Xa f).length -1)
      rw[hM.2 _ h2,←hld] at hk
      exact hl ⟨-k,by rw[Int.mul_neg];omega⟩
  exact⟨by rw[hld,h1],fun i hi=>by rw[←Xo,XX (by omega)]⟩
where
  dvd_pow_self_nat {p e:Nat} (he:e≠0):p∣p^e:=Nat.dvd_of_pow_dvd (k:=1) (Nat.le_refl _) (by rw[Nat.pow_one];exact⟨p^ (e -1),by rw[←Nat.pow_succ'];congr 1;omega⟩)
theorem Fit.step{p:Int}{q m:Nat}{μ:List Int}(hp:p∣q)(hm2:2≤m)(hq:(q:Int)∣m)(hμ:CgV (q:Int) μ []){gs A:List (List Int)}(h:Fit p gs A): ∀{ss:List (List Int)},gs.length=ss.length→Fit p ((gs.zip ss).map fun x=>QhP m μ x.1 x.2) A:=by
  induction h with
  |nil=>intro ss h;cases ss with
    |nil=>exact .nil
    |cons _ _=>cases h
  | @cons a b as bs d ha hb h t ih=>
    intro ss hl
    match ss,hl with
    |s::ss,hl=>
      refine .cons d ?_ hb (((Qoc hq hμ a s ⟨d,ha⟩).dvd hp).trans h) (ih (by simpa using hl))
      unfold QhP
      refine⟨?_,fun i hi=> ?_⟩
      · rw[Zm,Xo,Xv,ha.1,Qck ha d (Nat.le_refl _),Int.add_zero,Qlj hm2]
      · rw[Zm,Xo,Xv,ha.2 i hi,Qck ha i (by omega),Int.add_zero,Qbr]
theorem QnO{p k:Nat}(hp:Xk p){f:List Int}{A0 L0 L1:List (List Int)}{e n:Nat}{x K:Int}(h:Qmt p f A0 L0 L1 e n)(hn:0<n)(hl: ¬(p:Int)∣ldP f)(he:e<k)(hx:x*ldP f=1+((p^ (e+min e (k -e)):Nat):Int)*K):
    Qmt p f A0 (step0 (p^ (e+min e (k -e))) x f L0 L1) (step1 (p^ (e+min e (k -e))) x f L0 L1) (e+min e (k -e)) n:=by
  have hp2:=hp.1
  have he1:=h.he
  have hq:((p^e:Nat):Int)∣ ((p^ (e+min e (k -e)):Nat):Int):=by exact_mod_cast Nat.pow_dvd_pow p (by omega)
  have hm:((p^ (e+min e (k -e)):Nat):Int)∣ ((p^e:Nat):Int)*((p^e:Nat):Int):=by
    rw[←Int.natCast_mul,←Nat.pow_add]
    exact_mod_cast Nat.pow_dvd_pow p (by omega)
  have hm2:2≤p^ (e+min e (k -e)):=by
    calc 2≤p:=hp2
      _=p^1:=(Nat.pow_one p).symm
      _≤_:=Nat.pow_le_pow_right (by omega) (by omega)
  have hpq:(p:Int)∣ ((p^e:Nat):Int):=by
    have :p^1∣p^e:=Nat.pow_dvd_pow p he1
    rw[Nat.pow_one] at this
    exact_mod_cast this
  have hxd:((p^ (e+min e (k -e)):Nat):Int)∣x*ldP f -1:=⟨K,by omega⟩
  have hf:=h.degf hl
  obtain⟨s1,s2,s3⟩:=step_ok hm2 hq hm h.ms hn hxd hf h.pr (h.cof hn)
  have hμ:=(QvX hm2 hq hm h.ms hxd hf h.pr (h.cof hn) (QnV (f:=f) hx (Qj2 (m:=p^ (e+min e (k -e))) h.ms.len).2)).1
  refine⟨s1,s2,fun _=>s3,h.fit.step hpq hm2 hq hμ h.ms.len,fun u hu i=> ?_,by omega⟩
  obtain⟨y,_,rfl⟩:=List.mem_map.1 hu
  unfold QhP
  rw[Zm,Qdu (by omega)]
theorem Ql5{p:Nat}{f:List Int}{A0 L0 L1:List (List Int)}{e:Nat}(h:Qmt p f A0 L0 L1 e 0)(h0:L0=[])(hl: ¬(p:Int)∣ldP f):QfU f L0:=by
  subst h0
  have hf:=h.degf hl
  unfold QfU Qba
  refine YP fun i=> ?_
  cases i with
  |zero=>rw[hf.1];rfl
  |succ i=>rw[hf.2 _ (by omega),List.foldl_nil,XX (by simp)]
theorem QoG{p k:Nat}(hp:Xk p){f:List Int}{A0 A1 L0 L1:List (List Int)}{e n:Nat}(h0:Qmt p f A0 A0 A1 1 n)(hn:A0.length≤n∧(A0.length=0→n=0))(hl: ¬(p:Int)∣ldP f)(h:LReach p k f A0 A1 L0 L1 e):Qmt p f A0 L0 L1 e n:=by
  induction h with
  |start=>exact h0
  | @next L0 L1 e x K h he hnf hx hs ih=>
    rcases Nat.eq_zero_or_pos A0.length with h1|h1
    · exfalso
      have hn0:=hn.2 h1
      subst hn0
      have h2:L0=[]:=by
        have h3:=ih.fit
        rw[List.eq_nil_of_length_eq_zero h1] at h3
        cases h3;rfl
      exact hnf (Ql5 ih h2 hl)
    · exact QnO hp ih (by omega) hl he hx
end Go.Gx
namespace Go.Gx
structure Mn (p:Nat) (d:List Nat):Prop where
  can:XE p d
  pos:1≤d.length
  one:d.getD (d.length -1) 0=1
theorem Mn.mz{p:Nat}{f:List Nat}(h:Mn p f):Mon (zl f) (f.length -1):=⟨by rw[ZS,h.one];rfl,fun i hi=>by have :=h.pos;exact XX (by rw[Zl];omega)⟩
theorem Mn.monN{p:Nat}{f:List Nat}(h:Mn p f)(h2:2≤f.length):Zw p f:=⟨h.can,h2,h.one⟩
theorem Zw.mn{p:Nat}{f:List Nat}(h:Zw p f):Mn p f:=⟨h.can,by have :=h.pos;omega,h.one⟩
def SqF(p:Nat)(f:List Nat):Prop:=Cop (p:Int) (zl f) (Xn (zl f))
theorem Qdr{p:Int}{F w G:List Int}(hs:Cop p F (Xn F))(h:CgV p F (Xg w G)):Cop p G (Xn G):=by
  obtain⟨a,ha⟩:=Qep h
  obtain⟨u,v,k,hk⟩:=hs
  obtain⟨b,hb⟩:=h
  refine⟨Xx (Xg u w) (Xg v (Xn w)),Xg v w,XD k (Xx (Xg u b) (Xg v a)),fun x=> ?_⟩
  have h1:=ha x;have h2:=hb x;have h3:=hk x
  rw[Qc5] at h1
  simp only[Xd,Xh,Xc,Xj] at *
  rw[h1,h2] at h3
  grind
theorem CgV.comm{p:Int}(a b:List Int):CgV p (Xg a b) (Xg b a):=CgV.eqv fun x=>by simp only[Xc];grind
theorem QnZ{p c a b:Nat}{F M:List Int}(hp:2≤p)(hc:0<c)(hcp:c<p)(hF:Mon F a)(hM:Mon M b)(h:CgV (p:Int) F (Xf M c)):a=b∧c=1:=by
  have key: ∀z:Int,(p:Int)∣z→0<z→z<p→False:=fun z h1 h2 h3=>by have :=Int.le_of_dvd h2 h1;omega
  rcases Nat.lt_trichotomy a b with h1|h1|h1
  · exfalso
    obtain⟨k,hk⟩:=h.cof b
    rw[hF.2 b h1,Xi,hM.1] at hk
    exact key c ⟨-k,by grind⟩ (by omega) (by omega)
  · subst h1
    refine⟨rfl,?_⟩
    obtain⟨k,hk⟩:=h.cof a
    rw[hF.1,Xi,hM.1] at hk
    rcases Nat.lt_or_ge 1 c with h2|h2
    · exfalso;exact key ((c:Int) -1) ⟨-k,by grind⟩ (by omega) (by omega)
    · omega
  · exfalso
    obtain⟨k,hk⟩:=h.cof a
    rw[hF.1,Xi,hM.2 a h1] at hk
    exact key 1 ⟨k,by grind⟩ (by omega) (by omega)
theorem QjD{p:Nat}(hp:Xk p){q:List Nat}(hq:XE p q)(h0:0<q.length):Mn p (XS p q)∧(XS p q).length=q.length∧CgV (p:Int) (zl q) (Xf (zl (XS p q)) (XW q:Nat)):=by
  have hl:=Qam hp hq
  have h1:=Qgo hp hq h0
  refine⟨⟨QdC (by have :=hp.1;omega) _,by omega,by rw[hl];exact h1⟩,hl,?_⟩
  have hla:=hq.last h0
  have hm:XS p q=Qbp p q (ZL p (XW q)):=by unfold XS;rw[if_neg (by omega)]
  obtain⟨a,ha⟩:=Qen (p:=p) q (ZL p (XW q))
  obtain⟨k,hk⟩:=Qce (p:=p) (XW q*ZL p (XW q))
  rw[show XW q*ZL p (XW q) % p=1 from(Qak hp hla.1 hla.2).2,Int.natCast_mul] at hk
  rw[hm]
  refine⟨Xf (Xx (Xf (zl q) k) (Xf a (-(XW q:Int)))) 1,fun x=> ?_⟩
  have a1:=ha x
  simp only[Xd,Xc,Xm,evI] at a1⊢
  rw[a1]
  simp only[Int.natCast_one] at hk
  grind
theorem QaM{p:Nat}(hp:Xk p){f g q r:List Nat}(hf:Mn p f)(hg:Zw p g)(hd:Dv (p:Int) (zl g) (zl f))(h:XH p f g=(q,r)):
    Mn p q∧CgV (p:Int) (zl f) (Xg (zl q) (zl g))∧q.length+g.length=f.length+1:=by
  have hp0:0<p:=by have :=hp.1;omega
  have hgp:=hg.pos
  obtain⟨w,hw⟩:=hd
  have h1:=QbP hp0 h
  have hr:r.length<g.length:=by
    have h2:=Qa0 (f:=f) hp (by omega) (by rw[hg.one];omega) hg.can.1 hf.can.1
    rw[h] at h2;exact h2
  have hq:XE p q:=by have :=(QaB hp0 hf.can (g:=g)).1;rw[h] at this;exact this
  have h3:CgV (p:Int) (Xg (zl g) (XD w (zl q))) (zl r):=by
    obtain⟨a,ha⟩:=h1;obtain⟨b,hb⟩:=hw
    exact⟨Xf (Xx a b) (-1),fun x=>by have :=ha x;have :=hb x;simp only[Xd,Xc,Xh,Xm] at *;grind⟩
  have h4:=YM hg.mz h3 fun i hi=>by rw[XX (by rw[Zl];omega)];exact Int.dvd_zero _
  have h5:CgV (p:Int) (zl f) (Xg (zl q) (zl g)):=by
    obtain⟨a,ha⟩:=h4;obtain⟨b,hb⟩:=hw
    exact⟨Xx b (Xg a (zl g)),fun x=>by have :=ha x;have :=hb x;simp only[Xd,Xc,Xh,evI] at *;grind⟩
  have hq0:0<q.length:=by
    rcases Nat.eq_zero_or_pos q.length with e|e
    · exfalso
      rw[List.eq_nil_of_length_eq_zero e] at h5
      obtain⟨k,hk⟩:=h5.cof (f.length -1)
      rw[hf.mz.1,Xp] at hk
      have h6:conv (zl []) (zl g) (f.length -1)=0:=XQ fun i _=>by show co [] i*_=0;simp [co]
      rw[h6] at hk
      have h7:(p:Int)∣1:=⟨k,by omega⟩
      have :=Int.le_of_dvd (by omega) h7
      have :=hp.1
      omega
    · exact e
  obtain⟨hm,hml,hmc⟩:=QjD hp hq hq0
  have hla:=hq.last hq0
  have h6:CgV (p:Int) (zl f) (Xf (Xg (zl (XS p q)) (zl g)) (XW q:Nat)):=h5.trans ((hmc.mul (CgV.refl _ _)).trans (CgV.eqv fun x=>by simp only[Xc,Xm];grind))
  have h7:=QnZ hp.1 hla.1 hla.2 hf.mz (hm.mz.mul hg.mz) h6
  have :=hf.pos
  refine⟨⟨hq,hq0,h7.2⟩,h5,by omega⟩
theorem QmY{p:Nat}{a a' b:List Int}(h:Cop (p:Int) a b)(e:EqF p b a a'):Cop (p:Int) a' b:=by
  obtain⟨u,v,k,hk⟩:=h;obtain⟨w,l,e⟩:=e
  refine⟨u,Xx v (Xg u w),XD k (Xg u l),fun x=> ?_⟩
  have h1:=hk x;have h2:=e x
  simp only[Xd,Xh,Xc,Xj] at *
  rw[h2] at h1;grind
theorem QbB{p:Int}{a F q:List Int}(h:Cop p a F)(hd:Dv p q F):Cop p a q:=by
  obtain⟨u,v,k,hk⟩:=h;obtain⟨w,l,hd⟩:=hd
  refine⟨u,Xg v w,XD k (Xg v l),fun x=> ?_⟩
  have h1:=hk x;have h2:=hd x
  simp only[Xd,Xh,Xc,Xj] at *
  rw[h2] at h1;grind
theorem QqZ{p:Nat}(hp:Xk p){u f q r:List Nat}(hu:XE p u)(hf:Mn p f)(hs:SqF p f)(h2:2≤(XN p u f).length)(h:XH p f (XN p u f)=(q,r)):Cop (p:Int) (zl u) (zl q):=by
  have hpos:=hf.pos
  have hl:0<u.length+f.length:=by omega
  have hD:=Qac hp hu hf.can hl h2
  obtain⟨d1,d2⟩:=QbS hp f.length u f hu hf.can (Nat.le_refl _) hl
  change Dv (p:Int) (zl (XN p u f)) (zl u) at d1
  change Dv (p:Int) (zl (XN p u f)) (zl f) at d2
  obtain⟨hq,hqc,hql⟩:=QaM hp hf hD d2 h
  have hqp:=hq.pos
  have hl2:0<u.length+q.length:=by omega
  rcases Nat.lt_or_ge 1 (XN p u q).length with h3|h3
  · exfalso
    have hE:=Qac hp hu hq.can hl2 h3
    obtain⟨e1,e2⟩:=QbS hp q.length u q hu hq.can (Nat.le_refl _) hl2
    change Dv (p:Int) (zl (XN p u q)) (zl u) at e1
    change Dv (p:Int) (zl (XN p u q)) (zl q) at e2
    have e3:Dv (p:Int) (zl q) (zl f):=⟨zl (XN p u f),hqc.trans (CgV.comm _ _)⟩
    obtain⟨y,hy⟩:=QmP hp (F:=zl u) (G:=zl f) f.length u f [1] [] hu hf.can (Nat.le_refl _) hl Qdc.1 Qdc.2
    have e4:EqF p (zl (XN p u q)) (zl (XN p u f)) []:=(EqF.cg hy).trans ((((EqF.refl _).mul (EqF.of_dv e1)).add ((EqF.refl y).mul (EqF.of_dv (e2.trans e3)))).trans (EqF.ev fun x=>by simp only[Xd,Xc,evI];omega))
    obtain⟨s,t,hc⟩:=QhE hs hqc
    refine YJ hp.1 hE (EqF.dv ((EqF.cg hc.symm).trans ((((EqF.refl s).mul (EqF.of_dv e2)).add ((EqF.refl t).mul e4)).trans (EqF.ev fun x=>by simp only[Xd,Xc,evI];omega))))
  · exact ZC hp hu hq.can hl2 h3
end Go.Gx
