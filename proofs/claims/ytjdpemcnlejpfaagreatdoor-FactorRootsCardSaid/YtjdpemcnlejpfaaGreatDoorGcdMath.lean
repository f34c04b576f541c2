/-
  GcdMath, GcdPreds, ModWalk, HenMath, ValMath, SqfMath, QuoMath, YunMath, RefPreds, FacPreds, PolysPreds, HenPreds, StepMath, LiftMath
-/
import Derived.Test.YtjdpemcnlejpfaaGreatDoorModDiv
import Derived.Test.YtjdpemcnlejpfaaGreatDoorNatMath
import Derived.Test.YtjdpemcnlejpfaaGreatDoorDivMath2
import Derived.Laws.AppendOwn
set_option linter.all false
namespace Go.Gx
def InI(F G h:QP):Prop:= ∃u v,h=u*F+v*G
theorem InI.left(F G:QP):InI F G F:=⟨1,0,QP.eq fun x=>by simp only[Zy,Xq,v_1,v_0];grind⟩
theorem InI.right(F G:QP):InI F G G:=⟨0,1,QP.eq fun x=>by simp only[Zy,Xq,v_1,v_0];grind⟩
theorem InI.lin{F G a b:QP}(ha:InI F G a)(hb:InI F G b)(u v:QP):InI F G (u*a+v*b):=by
  obtain⟨u1,v1,rfl⟩:=ha
  obtain⟨u2,v2,rfl⟩:=hb
  exact⟨u*u1+v*u2,u*v1+v*v2,QP.eq fun x=>by simp only[Zy,Xq];grind⟩
def Qcv(F G g:QP):Prop:=g∣F∧g∣G∧InI F G g
theorem Qcv.dvd{F G g h:QP}(H:Qcv F G g)(hF:h∣F)(hG:h∣G):h∣g:=by
  obtain⟨_,_,u,v,rfl⟩:=H
  exact Qa7 (XJ _ hF) (XJ _ hG)
theorem Qcv.symm{F G g:QP}(H:Qcv F G g):Qcv G F g:=by
  obtain⟨h1,h2,u,v,rfl⟩:=H
  exact⟨h2,h1,v,u,QP.eq fun x=>by simp only[Zy,Xq];grind⟩
theorem Qcv.scale{F G g:QP}{a b c:Rat}(H:Qcv F G g)(ha:a≠0)(hb:b≠0)(hc:c≠0):Qcv (K a*F) (K b*G) (K c*g):=by
  obtain⟨h1,h2,u,v,h3⟩:=H
  refine⟨(Qdz hc).2 (XJ _ h1),(Qdz hc).2 (XJ _ h2),K (c/a)*u,K (c/b)*v,QP.eq fun x=> ?_⟩
  have :=qat h3 x
  simp only[Zy,Xq,v_K] at this⊢
  rw[this];grind
theorem Qcv.zero(F:QP):Qcv F 0 F:=⟨XL _,Qb0 _,InI.left _ _⟩
def Com(F G a b:QP):Prop:= ∀h:QP,h∣a→h∣b→h∣F∧h∣G
structure QcU (a0 b0 a b:List Int) (l s D:Int):Prop where
  sub:Qmw a0 b0 ((Xa a0).length -1) ((Xa b0).length -1) a b ((Xa a).length -1) ((Xa b).length -1) l s
  hD:D.natAbs=l.natAbs*s.natAbs^ ((Xa a).length -(Xa b).length)
  pa:1≤(Xa a).length
  pb:1≤(Xa b).length
  ia:InI (P a0) (P b0) (P a)
  ib:InI (P a0) (P b0) (P b)
  cm:Com (P a0) (P b0) (P a) (P b)
theorem QcL(x:Int)(n:Nat):(x^n).natAbs=x.natAbs^n:=Int.natAbs_pow x n
theorem QcU.start{a b:List Int}{D:Int}(h1:(Xa b).length≤(Xa a).length)(h2:1≤(Xa b).length)(hD:D=(-1)^ ((Xa a).length -(Xa b).length+1)):QcU a b a b 1 (-1) D:=by
  have⟨x1,x2⟩:=XA a
  have⟨y1,y2⟩:=XA b
  refine⟨Qmw.start (by omega) (y2.resolve_left (by omega)) (fun x hx=>y1 x (by omega)) (fun x hx=>x1 x (by omega)) rfl rfl,?_,by omega,h2,InI.left _ _,InI.right _ _,fun h ha hb=>⟨ha,hb⟩⟩
  rw[hD,QcL,show(-1:Int).natAbs=1 from rfl,show(1:Int).natAbs=1 from rfl];simp
section
variable{a0 b0 a b q R r:List Int}{l s D:Int}
theorem QcU.D0(h:QcU a0 b0 a b l s D):D≠0:=by
  have h1:=h.sub.l0
  have h2:=h.sub.s0
  have h3:=h.hD
  have :0<l.natAbs*s.natAbs^ ((Xa a).length -(Xa b).length):=Nat.mul_pos (by omega) (Nat.pow_pos (by omega))
  omega
theorem QcU.ldb(h:QcU a0 b0 a b l s D):ldP b=co b ((Xa b).length -1)∧ldP b≠0:=by
  obtain⟨d,hd⟩: ∃d,(Xa b).length=d+1:=⟨(Xa b).length -1,by have :=h.pb;omega⟩
  have⟨h1,_,h3⟩:=Zj hd
  exact⟨by rw[hd,Nat.add_sub_cancel,h1],h3⟩
structure Psd (a b q R:List Int):Prop where
  id: ∀x:Rat,evQ a x*((ldP b:Int):Rat)^ ((Xa a).length -((Xa b).length -1))=evQ q x*evQ b x+evQ R x
  lt:R.length+1≤(Xa b).length
  tr:Xa R=R
theorem Psd.poly(h:Psd a b q R):K (((ldP b:Int):Rat)^ ((Xa a).length -((Xa b).length -1)))*P a=P q*P b+P R:=QP.eq fun x=>by
  have :=h.id x
  simp only[Xq,v_K,Zy,v_P];grind
theorem QcU.coid(h:QcU a0 b0 a b l s D)(p:Psd a b q R):(∀x,co b ((Xa b).length -1)^ ((Xa a).length -1 -((Xa b).length -1)+1)*co a x=co (Xg q b) x+co R x)∧(∀u,(Xa a).length -1 -((Xa b).length -1)<u→co q u=0)∧ ∀x,(Xa b).length -1≤x→co R x=0:=by
  have h1:=h.pa
  have h2:=h.pb
  have h3:=h.sub.le
  have⟨e1,e2⟩:=h.ldb
  have hp:=p.poly
  have hlt:=p.lt
  refine⟨fun x=> ?_,fun u hu=> ?_,fun x hx=>XX (by omega)⟩
  · have :P (Xf a (ldP b^ ((Xa a).length -((Xa b).length -1))))=P (Xx (Xg q b) R):=by rw[YF,QgO,Quy,Zb];exact hp
    have :=QgE this x
    rw[Xi,Xv] at this
    rw[←e1,show(Xa a).length -1 -((Xa b).length -1)+1=(Xa a).length -((Xa b).length -1) by omega,Int.mul_comm]
    exact this
  · by_cases hq:P q=0
    · rw[QgE (hq.trans QdA.symm) u];simp [co]
    · have hb:P b≠0:=XF.2 (by rw[Yj];omega)
      have d1:=Zd hq hb
      have d2:P q*P b=K (((ldP b:Int):Rat)^ ((Xa a).length -((Xa b).length -1)))*P a -P R:=by rw[hp];exact QP.eq fun x=>by simp only[Zy,Qcs];grind
      have d3:=Qm4 (K (((ldP b:Int):Rat)^ ((Xa a).length -((Xa b).length -1)))*P a) (P R)
      rw[←d2,Qar (Qiw (XC e2) _),Yj,Yj R,p.tr] at d3
      rw[Yj,Yj] at d1
      exact(XA q).1 u (by omega)
theorem QcU.exact(h:QcU a0 b0 a b l s D)(p:Psd a b q R)(j:Nat):D∣co R j:=by
  have⟨h1,h2,h3⟩:=h.coid p
  have h4:=h.sub.le
  have h5:=h.pb
  refine h.sub.exact h3 h2 h1 (h.hD.trans ?_) j
  rw[show(Xa a).length -1 -((Xa b).length -1)=(Xa a).length -(Xa b).length by omega]
theorem QcU.quo(h:QcU a0 b0 a b l s D)(p:Psd a b q R)(hr:r=(Xa R).map fun x=>x.tdiv D):(∀x,co R x=D*co r x)∧(Xa r).length=R.length∧r.length=R.length∧P R=K D*P r:=by
  have h1: ∀x,co R x=D*co r x:=fun x=>by rw[hr,QmN,Xo];exact(Int.mul_tdiv_cancel' (h.exact p x)).symm
  have h2:P R=K D*P r:=by rw[←YF];exact QaJ fun i=>by rw[Xi,h1 i,Int.mul_comm]
  have h3:dg (P R)=dg (P r):=by rw[h2,Qar (XC h.D0)]
  rw[Yj,Yj,p.tr] at h3
  exact⟨h1,h3.symm,by rw[hr,p.tr];simp,h2⟩
theorem QcU.done(h:QcU a0 b0 a b l s D)(p:Psd a b q R)(h0:R.length=0):Qcv (P a0) (P b0) (P b):=by
  have hR:R=[]:=List.eq_nil_of_length_eq_zero h0
  have hp:=p.poly
  have⟨_,e2⟩:=h.ldb
  have hd:P b∣P a:=by
    refine(Qjo (Qiw (XC e2) ((Xa a).length -((Xa b).length -1)))).1 ⟨P q,?_⟩
    rw[hp,hR,QdA];exact QP.eq fun x=>by simp only[Zy,v_0];grind
  have :=h.cm _ hd (XL _)
  exact⟨this.1,this.2,h.ib⟩
theorem QhW{f:QP}{l:List Int}(h:(Xa l).length=1):P l∣f:=by
  have hl:P l≠0:=XF.2 (by rw[Yj];omega)
  obtain⟨c,hc⟩:=Qm3 (f:=P l) (by rw[Yj];omega)
  have hc0:c≠0:=fun e=>hl (by rw[hc,e];rfl)
  exact⟨K (1/c)*f,QP.eq fun x=>by rw[hc];simp only[Xq,v_K];grind⟩
theorem Qfg{F G:QP}{l:List Int}(h:(Xa l).length=1)(hi:InI F G (P l)):Qcv F G (P l):=⟨QhW h,QhW h,hi⟩
theorem QcU.inr(h:QcU a0 b0 a b l s D)(p:Psd a b q R)(hr:r=(Xa R).map fun x=>x.tdiv D):InI (P a0) (P b0) (P r):=by
  have⟨_,_,_,e⟩:=h.quo p hr
  have hp:=p.poly
  have :=h.ia.lin h.ib (K (((ldP b:Int):Rat)^ ((Xa a).length -((Xa b).length -1))/ (D:Rat))) (K (-1/ (D:Rat))*P q)
  have e2:K (((ldP b:Int):Rat)^ ((Xa a).length -((Xa b).length -1))/ (D:Rat))*P a+K (-1/ (D:Rat))*P q*P b=P r:=QP.eq fun x=>by
    have h1:=qat hp x
    have h2:=qat e x
    have h3:=XC h.D0
    simp only[Zy,Xq,v_K] at h1 h2⊢
    grind
  rwa [e2] at this
theorem QcU.next{s' D':Int}(h:QcU a0 b0 a b l s D)(p:Psd a b q R)(hr:r=(Xa R).map fun x=>x.tdiv D)(hR:R.length≠0)
    (hs:((Xa a).length=(Xa b).length∧s'=s)∨((Xa b).length<(Xa a).length∧s'=((-ldP b)^ ((Xa a).length -(Xa b).length)).tdiv (s^ ((Xa a).length -(Xa b).length -1))))
    (hD':D'= -ldP b*s'^ ((Xa b).length -(Xa r).length)):QcU a0 b0 b r (-ldP b) s' D':=by
  have⟨h1,h2,h3⟩:=h.coid p
  have⟨q1,q2,q3,q4⟩:=h.quo p hr
  have⟨e1,e2⟩:=h.ldb
  have hle:=h.sub.le
  have hpa:=h.pa
  have hpb:=h.pb
  have hlt:=p.lt
  have⟨z1,z2⟩:=XA r
  have hreg:((Xa b).length<(Xa a).length)→s'.natAbs*s.natAbs^ ((Xa a).length -1 -((Xa b).length -1) -1)=(co b ((Xa b).length -1)).natAbs^ ((Xa a).length -1 -((Xa b).length -1)):=fun hlt'=>by
    have hd:=h.sub.reg (by omega)
    rcases hs with⟨hs,_⟩| ⟨_,hs⟩
    · omega
    · rw[hs,Int.natAbs_tdiv,QcL,QcL,Int.natAbs_neg,e1,show(Xa a).length -1 -((Xa b).length -1)=(Xa a).length -(Xa b).length by omega] at *
      exact Nat.div_mul_cancel hd
  refine⟨h.sub.next (D:=D) (nr:=(Xa r).length -1) h2 (fun x=>by rw[←q1 x];exact h1 x) ?_ (z2.resolve_left (by omega)) (fun x hx=>z1 x (by omega)) (by omega) (by rw[Int.natAbs_neg,e1]) ?_,?_,hpb,by omega,h.ib,h.inr p hr,fun x hx1 hx2=> ?_⟩
  · rw[h.hD,show(Xa a).length -1 -((Xa b).length -1)=(Xa a).length -(Xa b).length by omega]
  · rcases hs with⟨hs,e⟩| ⟨hs,e⟩
    · exact .inl ⟨by omega,e⟩
    · exact .inr ⟨by omega,hreg hs⟩
  · rw[hD',Int.natAbs_mul,QcL]
  · have hxa:x∣P a:=by
      refine(Qjo (Qiw (XC e2) ((Xa a).length -((Xa b).length -1)))).1 ?_
      rw[p.poly,q4]
      exact Qa7 (XJ _ hx1) (XJ _ hx2)
    exact h.cm x hxa hx1
theorem QcU.size(h:QcU a0 b0 a b l s D)(p:Psd a b q R)(hr:r=(Xa R).map fun x=>x.tdiv D){H N:Nat}(ha: ∀i,(co a0 i).natAbs≤H)(hb: ∀i,(co b0 i).natAbs≤H)(hH:1≤H)(hN:(Xa a0).length+(Xa b0).length≤N)(h0:(Xa b).length≤(Xa b0).length)(h00:(Xa b0).length≤(Xa a0).length)(j:Nat):(co r j).natAbs≤(N*H)^N:=by
  have⟨h1,h2,h3⟩:=h.coid p
  have⟨q1,_,_,_⟩:=h.quo p hr
  have hle:=h.sub.le
  have hpb:=h.pb
  rcases Nat.lt_or_ge j ((Xa b).length -1) with hj|hj
  · have e1:=Qle (n:=(Xa a).length -1) (m:=(Xa b).length -1) (d:=(Xa a).length -1 -((Xa b).length -1)) (j:=j) rfl h.sub.top h.sub.hb h3 h2 h1 (by omega) (by omega)
    have e2:=h.sub.sr ((Xa b).length -1 -1) j (by omega) (by omega)
    rw[e1,show(Xa b).length -1 -((Xa b).length -1 -1)=1 by omega,show(Xa a).length -1 -((Xa b).length -1 -1) -1=(Xa a).length -(Xa b).length by omega,Nat.pow_one,←h.hD,q1,Int.natAbs_mul] at e2
    have e3:=Nat.eq_of_mul_eq_mul_left (by have :=h.D0;omega) e2
    rw[e3]
    exact Qsl ha hb hH (by omega) (by omega) (by omega)
  · have :D*co r j=0:=by rw[←q1];exact h3 j hj
    rcases Int.mul_eq_zero.1 this with e|e
    · exact absurd e h.D0
    · rw[e];simp
theorem QcU.sizeS{s':Int}(h:QcU a0 b0 a b l s D)(hlt:(Xa b).length<(Xa a).length)(hs:s'=((-ldP b)^ ((Xa a).length -(Xa b).length)).tdiv (s^ ((Xa a).length -(Xa b).length -1))){H N:Nat}(ha: ∀i,(co a0 i).natAbs≤H)(hb: ∀i,(co b0 i).natAbs≤H)(hH:1≤H)(hN:(Xa a0).length+(Xa b0).length≤N)(h0:(Xa b).length≤(Xa b0).length)(h00:(Xa b).length<(Xa a0).length)(h01:1≤(Xa b0).length):s'.natAbs≤(N*H)^N:=by
  have hpb:=h.pb
  have⟨e1,_⟩:=h.ldb
  have hd:=h.sub.reg (by omega)
  have e2:=h.sub.sr ((Xa b).length -1) ((Xa b).length -1) (Nat.le_refl _) (by omega)
  rw[Qj0 rfl h.sub.hb (by omega),QcL,Nat.sub_self,Nat.pow_zero,Nat.one_mul] at e2
  have hp:0<s.natAbs^ ((Xa a).length -(Xa b).length -1):=Nat.pow_pos (by have :=h.sub.s0;omega)
  have e3:s'.natAbs=(Sr ((Xa b).length -1) a0 b0 ((Xa a0).length -1) ((Xa b0).length -1) ((Xa b).length -1)).natAbs:=by
    rw[hs,Int.natAbs_tdiv,QcL,QcL,Int.natAbs_neg,e1]
    rw[show(Xa a).length -1 -((Xa b).length -1)=(Xa a).length -(Xa b).length by omega] at e2
    rw[e2]
    exact Nat.mul_div_cancel_left _ hp
  rw[e3]
  exact Qsl ha hb hH (by omega) (by omega) (by omega)
end
end Go.Gx
namespace Go.Gx
theorem Qo4(K:Nat):1≤BS^K:=Nat.pow_pos (by decide)
theorem QiX{A F:List Int}(e:A=Xa F):(Xa A).length=A.length∧(Xa A).length=(Xa F).length∧P A=P F:=by
  have h:Xa A=A:=by rw[e];exact Xs ZM F
  exact⟨by rw[h],by rw[h,e],by rw[e,Yf]⟩
theorem Qev{A B F G g:List Int}(ha:P A=P F)(hb:P B=P G)(h:Qcv (P A) (P B) (P g)):Qcv (P F) (P G) (P g):=by rw[←ha,←hb];exact h
theorem QaA{F:List Int}(h:1≤(Xa F).length):P F≠0:=XF.2 (by rw[Yj];exact h)
structure QfN (F G R:List Int):Prop where
  q:Qcv (P F) (P G) (P R)
  c:Xy R=Nat.gcd (Xy F) (Xy G)
  s:0≤ldP R
  t:Xa R=R
def Ql8(F:List Int):List Int:=if ldP F<0 then Xf F (-1) else F
theorem QeZ{F G:List Int}(h: ∀i,co F i=co G i):Xy F=Xy G:=
  Nat.dvd_antisymm (Zs fun i=>by rw[←h];exact Qab F i) (Zs fun i=>by rw[h];exact Qab G i)
theorem QaF(F:List Int):Xy (Xa F)=Xy F:=QeZ fun i=>Xo F i
theorem Qbz(F:List Int)(c:Int):Xy (Xf F c)=c.natAbs*Xy F:=by
  refine Nat.dvd_antisymm ?_ (Zs fun i=> ?_)
  · by_cases hc:c=0
    · subst hc;simp
    · have h1:c.natAbs∣Xy (Xf F c):=Zs fun i=>by rw[Xi];exact Int.dvd_trans (Int.natAbs_dvd.2 (Int.dvd_refl c)) (Int.dvd_mul_left _ _)
      obtain⟨k,hk⟩:=h1
      rw[hk]
      refine Nat.mul_dvd_mul_left _ (Zs fun i=> ?_)
      have h2:=Qab (Xf F c) i
      rw[hk,Xi,Int.ofNat_dvd_left,Int.natAbs_mul,Nat.mul_comm (co F i).natAbs] at h2
      rw[Int.ofNat_dvd_left]
      exact Nat.dvd_of_mul_dvd_mul_left (by omega) h2
  · rw[Xi,Int.ofNat_dvd_left,Int.natAbs_mul,Nat.mul_comm]
    exact Nat.mul_dvd_mul (Int.ofNat_dvd_left.1 (Qab F i)) (Nat.dvd_refl _)
theorem Qda(F:List Int)(c:Int):ldP (Xf F c)=c*ldP F:=by
  by_cases h:ldP F=0
  · rw[h,Int.mul_zero]
    have h1:=(Zf F).1 h
    refine(Zf _).2 ?_
    rw[YF,h1];exact QP.eq fun x=>by simp only[Xq,v_0];grind
  · by_cases hc:c=0
    · subst hc
      rw[Int.zero_mul]
      refine(Zf _).2 ?_
      rw[YF];exact QP.eq fun x=>by simp only[Xq,v_K,v_0];rw[QfJ];grind
    · obtain⟨d,hd⟩:=Qa5 h
      have⟨h1,_,_⟩:=Zj hd
      have⟨h2,_,_⟩:=Zj (G:=Xf F c) (d:=d) (by rw[Qcm F hc,hd])
      rw[←h1,←h2,Xi,Int.mul_comm]
theorem QjB(F:List Int):ldP (Xa F)=ldP F:=by unfold ldP;rw[show Xa (Xa F)=Xa F from Xs ZM F]
theorem XV(F:List Int):Xa (Xa F)=Xa F:=Xs ZM F
theorem Qwe(F:List Int): ∃c:Rat,c≠0∧P (Ql8 F)=K c*P F:=by
  unfold Ql8
  split
  · exact⟨((-1:Int):Rat),by decide,YF F (-1)⟩
  · exact⟨1,by decide,QP.eq fun x=>by simp only[Xq,v_K];grind⟩
theorem Qik{F G R:List Int}(hG:(Xa G).length=0)(e:R=Xa (Ql8 F)):QfN F G R:=by
  have hg:P G=0:=Ya.1 (by rw[Yj];exact hG)
  have hc:Xy G=0:=by rw[←QaF,List.eq_nil_of_length_eq_zero hG];rfl
  obtain⟨c,hc0,hp⟩:=Qwe F
  refine⟨?_,?_,?_,by rw[e,XV]⟩
  · rw[e,Yf,hp,hg]
    refine⟨(Qdz hc0).2 (XL _),Qb0 _,K c,0,QP.eq fun x=>by simp only[Zy,Xq,v_0];grind⟩
  · rw[e,QaF,hc,Nat.gcd_zero_right]
    unfold Ql8;split
    · rw[Qbz];simp
    · rfl
  · rw[e,QjB]
    unfold Ql8;split
    · rw[Qda];omega
    · omega
theorem QfN.symm{F G R:List Int}(h:QfN F G R):QfN G F R:=⟨h.q.symm,by rw[h.c,Nat.gcd_comm],h.s,h.t⟩
theorem Qgm{F G A B L R:List Int}{c:Int}(hF:ldP F≠0)(hG:ldP G≠0)(hA:A=Xr F)(hB:B=Xr G)(hL:Qcv (P A) (P B) (P L))(h0:P L≠0)(hc:c=(Nat.gcd (Xy F) (Xy G):Int))(e:R=Xa (Xf (Xr L) c)):QfN F G R:=by
  have hc0:0<c:=by rw[hc];have :=Nat.gcd_pos_of_pos_left (Xy G) (Qc2 hF);omega
  have hl:=(Xz L).2 h0
  have hp:=QnK hl
  refine⟨?_,?_,?_,by rw[e,XV]⟩
  · rw[e,Yf,YF,QaK hl]
    have h1:=hL.scale (XC (Yi hF)) (XC (Yi hG)) (c:=(c:Rat)*(1/ (Yc L:Rat))) (by have :=XC (Yi hl);have :=XC (show c≠0 by omega);grind)
    rw[hA,hB,←QbJ,←QbJ] at h1
    have e2:K ((c:Rat)*(1/ (Yc L:Rat)))*P L=K (c:Rat)*(K (1/ (Yc L:Rat))*P L):=QP.eq fun x=>by simp only[Xq,v_K];grind
    rwa [e2] at h1
  · rw[e,QaF,Qbz,QhY hl,hc];simp
  · rw[e,QjB,Qda]
    exact Int.le_of_lt (Int.mul_pos hc0 hp)
end Go.Gx
namespace Go.Gx
def Qem(f g:QP):Prop:=InI f g 1
theorem QsC{F G R:List Int}{x:Int}(h:QfN F G R)(hx:x=((Xa R).length:Int) -1):x=0↔Qem (P F) (P G):=by
  constructor
  · intro h0
    obtain⟨c,hc⟩:=Qm3 (f:=P R) (by rw[Yj];omega)
    have hc0:c≠0:=fun e=>by
      have :P R=0:=by rw[hc,e];rfl
      have :=Qwd this
      omega
    obtain⟨_,_,u,v,e⟩:=h.q
    refine⟨K (1/c)*u,K (1/c)*v,QP.eq fun y=> ?_⟩
    have :=qat e y
    rw[hc] at this
    simp only[Zy,Xq,v_K,v_1] at this⊢
    grind
  · intro h1
    have hd:P R∣ (1:QP):=by
      obtain⟨u,v,e⟩:=h1
      rw[e]
      exact Qa7 (XJ _ h.q.1) (XJ _ h.q.2.1)
    have h10:(1:QP)≠0:=Qpv (by decide)
    have :=Qaj hd h10
    rw[show(1:QP)=K 1 from rfl,QuM (by decide),Yj] at this
    have h2:P R≠0:=fun e=>by
      rw[e] at hd
      exact h10 (Qca hd)
    have :=XF.1 h2
    rw[Yj] at this
    omega
end Go.Gx
namespace Go.Gx
theorem Qin{F:Nat→Nat}{d L:List Nat}{k x:Nat}(h:L=(d.take k).map F)(hk:k<d.length)(hx:x=F (d.getD k 0)):L++[x]=(d.take (k+1)).map F:=by
  rw[h,hx,List.take_add_one,List.getElem?_eq_getElem hk,List.map_append]
  simp [List.getD,List.getElem?_eq_getElem hk]
theorem QjN{F:Nat→Nat}{L:List Nat}{k x:Nat}(h:L=(List.range k).map F)(hx:x=F k):L++[x]=(List.range (k+1)).map F:=by
  rw[h,hx,List.range_succ,List.map_append];rfl
theorem QqV{p:Nat}{l:List Int}{n:Nat}(hn:l.length=n):(List.range n).map (fun i=>md p (co l i))=l.map (md p):=by
  refine QcJ (by simp [hn]) fun i=> ?_
  rcases Nat.lt_or_ge i n with h|h
  · rw[List.getD,List.getElem?_map,List.getElem?_range h,ZK _ _ (Yb p)];rfl
  · rw[List.getD,List.getElem?_eq_none (by simpa using h),ZK _ _ (Yb p),XX (by omega),Yb];rfl
theorem Qa3(d:List Nat)(m i:Nat):(d.map (· % m)).getD i 0=d.getD i 0 % m:=by
  simp only[List.getD,List.getElem?_map]
  cases d[i]? <;>simp
theorem QpV{d:List Nat}{k m:Nat}(h: ∀j,k≤j→(d.map (· % m)).getD j 0=0)(h1:d.getD (k -1) 0 % m=0): ∀j,k -1≤j→(d.map (· % m)).getD j 0=0:=
  Qd1 h (by rw[Qa3];exact h1)
theorem Qm0{d:List Nat}{k m:Nat}(hk:k≤d.length)(h: ∀j,k≤j→(d.map (· % m)).getD j 0=0)(hl:k=0∨d.getD (k -1) 0 % m≠0):(XO m d).length=k:=by
  have h1:=Qcn (ds:=d.map (· % m)) (k:=k) (by simpa using hk) h (hl.imp id fun hh=>by rw[Qa3];exact hh)
  unfold XO
  rw[←h1]
  simp;omega
theorem QtK{F G:List Nat}:Qbv (zl F) (zl G)=0↔F=G:=by
  rw[Qag]
  constructor
  · intro h
    refine QcJ (by have :=congrArg List.length h;simpa [Zl] using this) fun i=> ?_
    have :=congrArg (fun l=>co l i) h
    simp only[ZS] at this
    omega
  · intro h;rw[h]
theorem QkF{L X:List Nat}{k v:Nat}(hL:L.length=k)(hk:k<X.length):(L++X.drop k).set k v=(L++[v])++X.drop (k+1):=by
  rw[List.set_append_right _ _ (by omega),hL,Nat.sub_self,List.drop_eq_getElem_cons hk,List.set_cons_zero,List.append_assoc]
  rfl
theorem QkE{L X:List Nat}{k:Nat}(hL:L.length=k):(L++X.drop k).getD k 0=X.getD k 0:=by
  simp only[List.getD]
  rw[List.getElem?_append_right (by omega),hL,Nat.sub_self,List.getElem?_drop]
  simp
theorem Qol(d:List Nat)(n i:Nat):(d++List.replicate n 0).getD i 0=d.getD i 0:=by
  simp only[List.getD]
  rcases Nat.lt_or_ge i d.length with h|h
  · rw[List.getElem?_append_left h]
  · rw[List.getElem?_append_right h,List.getElem?_eq_none h,List.getElem?_replicate]
    split<;>rfl
theorem Qri{p n N:Nat}{f g L X:List Nat}(hp:0<p)(hX: ∀i,X.getD i 0=f.getD i 0)(hXl:X.length=N)(hN:N=max f.length g.length)(hL:L.length=g.length)(h: ∀i,i<g.length→L.getD i 0=md p (((f.getD i 0:Nat):Int) -(g.getD i 0:Nat))):XO p (L++X.drop g.length)=QhQ p f g:=by
  unfold XO QhQ XR
  congr 1
  refine QcJ ?_ fun i=> ?_
  · simp [XD,Zl,hL,hXl];omega
  · rw[Qa3,ZK _ _ (Yb p),ZG,ZS,ZS]
    rcases Nat.lt_or_ge i g.length with h1|h1
    · have e:(L++X.drop g.length).getD i 0=L.getD i 0:=by simp only[List.getD];rw[List.getElem?_append_left (by omega)]
      rw[e,h i h1,Nat.mod_eq_of_lt (Qej hp _)]
    · have e:(L++X.drop g.length).getD i 0=f.getD i 0:=by
        rw[←hX]
        simp only[List.getD]
        rw[List.getElem?_append_right (by omega),List.getElem?_drop,hL,show g.length+(i -g.length)=i by omega]
      have e2:g.getD i 0=0:=by rw[List.getD,List.getElem?_eq_none h1];rfl
      rw[e,e2,show((f.getD i 0:Nat):Int) -((0:Nat):Int)=(f.getD i 0:Nat) by omega,Qgn hp]
theorem Qmx{p n N:Nat}{f g L X:List Nat}(hp:0<p)(hX: ∀i,X.getD i 0=f.getD i 0)(hXl:X.length=N)(hN:N=max f.length g.length)(hL:L.length=g.length)(h: ∀i,i<g.length→L.getD i 0=md p (((f.getD i 0:Nat):Int)+(g.getD i 0:Nat))):XO p (L++X.drop g.length)=Qpr p f g:=by
  unfold XO Qpr XR
  congr 1
  refine QcJ ?_ fun i=> ?_
  · simp [Xx,Zl,hL,hXl];omega
  · rw[Qa3,ZK _ _ (Yb p),Xv,ZS,ZS]
    rcases Nat.lt_or_ge i g.length with h1|h1
    · have e:(L++X.drop g.length).getD i 0=L.getD i 0:=by simp only[List.getD];rw[List.getElem?_append_left (by omega)]
      rw[e,h i h1,Nat.mod_eq_of_lt (Qej hp _)]
    · have e:(L++X.drop g.length).getD i 0=f.getD i 0:=by
        rw[←hX]
        simp only[List.getD]
        rw[List.getElem?_append_right (by omega),List.getElem?_drop,hL,show g.length+(i -g.length)=i by omega]
      have e2:g.getD i 0=0:=by rw[List.getD,List.getElem?_eq_none h1];rfl
      rw[e,e2,show((f.getD i 0:Nat):Int)+((0:Nat):Int)=(f.getD i 0:Nat) by omega,Qgn hp]
theorem Qic{F:Nat→Nat}{L:List Nat}{k x:Nat}(hL:L.length=k)(h: ∀i,i<k→L.getD i 0=F i)(hx:x=F k): ∀i,i<k+1→(L++[x]).getD i 0=F i:=fun i hi=>by
  simp only[List.getD]
  rcases Nat.lt_or_ge i k with h1|h1
  · rw[List.getElem?_append_left (by omega)];exact h i h1
  · obtain rfl:i=k:=by omega
    rw[List.getElem?_append_right (by omega),hL,Nat.sub_self];exact hx
theorem Qqx{p:Nat}{f g F G:List Nat}(hF:F=XO p f)(hG:G=XO p g)(h:F.length=0∨G.length=0):[]=Qau p f g:=by
  unfold Qau
  rw[←hF,←hG]
  have :Xg (zl F) (zl G)=[]:=by unfold Xg;rw[if_pos (by simpa [Zl] using h)]
  rw[this];rfl
theorem QkH{p:Nat}{d:List Nat}(hp:Xk p)(hc:XE p d)(hn:0<d.length):Nat.gcd (d.getD (d.length -1) 0) p=1:=hp.2 _ (hc.last hn).1 (hc.last hn).2
theorem Qtf{p:Nat}{l:List Nat}(hp:p<4294967296)(h: ∀d∈l,d<p): ∀d∈l,d<BS:=fun d hd=>by have :=h d hd;simp only[BS];omega
theorem Qhg{p:Nat}{l:List Nat}{v:Nat}(h: ∀d∈l,d<p)(hv:v<p): ∀d∈l++[v],d<p:=fun d hd=>by
  rcases List.mem_append.1 hd with h1|h1
  · exact h d h1
  · simp at h1;omega
theorem QnQ{p:Nat}{l:List Nat}{i v:Nat}(h: ∀d∈l,d<p)(hv:v<p): ∀d∈l.set i v,d<p:=fun d hd=>by
  rcases List.mem_or_eq_of_mem_set hd with h1|h1
  · exact h d h1
  · omega
end Go.Gx
namespace Go.Gx
end Go.Gx
namespace Go.Gx
def Quv(p B k:Nat):Prop:=1≤k∧2*B<p^k∧ ∀j,1≤j→j<k→p^j≤2*B
theorem Qnp{p B k:Nat}(h: ∀j,1≤j→j<k→p^j≤2*B)(hk:p^k≤2*B): ∀j,1≤j→j<k+1→p^j≤2*B:=fun j h1 h2=>by
  rcases Nat.lt_or_ge j k with h3|h3
  · exact h j h1 h3
  · obtain rfl:j=k:=by omega
    exact hk
end Go.Gx
namespace Go.Gx
theorem Qgw: ∀(n:Nat)(f g:QP),dg g≤n→ ∃d,Qcv f g d
  |0,f,g,h=>by
    obtain rfl:g=0:=Ya.1 (by omega)
    exact⟨f,Qcv.zero f⟩
  |n+1,f,g,h=>by
    by_cases hg:g=0
    · subst hg;exact⟨f,Qcv.zero f⟩
    · obtain⟨q,r,e,hr⟩:=QoE hg f
      obtain⟨d,h1,h2,u,v,h3⟩:=Qgw n g r (by omega)
      refine⟨d,?_,h1,v,u -v*q,?_⟩
      · rw[e];exact Qa7 (XJ _ h1) h2
      · rw[h3,e];exact QP.eq fun x=>by simp only[Zy,Xq,Qcs];grind
theorem QiH(f g:QP): ∃d,Qcv f g d:=Qgw _ f g (Nat.le_refl _)
def Irr(π:QP):Prop:=2≤dg π∧ ∀a b:QP,π=a*b→dg a=1∨dg b=1
theorem Irr.ne{π:QP}(h:Irr π):π≠0:=XF.2 (by have :=h.1;omega)
theorem Ys(f:QP):f*0=0:=QP.eq fun x=>by simp only[Xq,v_0];grind
theorem XG(f:QP):0*f=0:=QP.eq fun x=>by simp only[Xq,v_0];grind
theorem QaE(f:QP):f*1=f:=QP.eq fun x=>by simp only[Xq,v_1];grind
theorem QbD(f:QP):1*f=f:=QP.eq fun x=>by simp only[Xq,v_1];grind
theorem Qwi:dg (1:QP)=1:=QuM (by decide)
theorem QkP:(1:QP)≠0:=Qpv (by decide)
theorem QrO: ∀(n:Nat)(f:QP),dg f≤n→2≤dg f→ ∃π,Irr π∧π∣f
  |0,f,h,h2=>by omega
  |n+1,f,h,h2=>by
    by_cases hi:Irr f
    · exact⟨f,hi,XL f⟩
    · have : ∃a b:QP,f=a*b∧dg a≠1∧dg b≠1:=by
        apply Classical.byContradiction
        intro hn
        refine hi ⟨h2,fun a b e=> ?_⟩
        apply Classical.byContradiction
        intro hc
        exact hn ⟨a,b,e,fun h=>hc (.inl h),fun h=>hc (.inr h)⟩
      obtain⟨a,b,rfl,ha,hb⟩:=this
      have hab:a*b≠0:=XF.2 (by omega)
      have ha0:a≠0:=fun e=>hab (by rw[e,XG])
      have hb0:b≠0:=fun e=>hab (by rw[e,Ys])
      have h3:=Zd ha0 hb0
      have h4:=XF.1 ha0
      have h5:=XF.1 hb0
      obtain⟨π,hπ,hd⟩:=QrO n a (by omega) (by omega)
      exact⟨π,hπ,Qdl _ hd⟩
theorem Qbl{f:QP}(h:2≤dg f): ∃π,Irr π∧π∣f:=QrO _ f (Nat.le_refl _) h
theorem Qbj{a:QP}(h:dg a=1): ∃r:Rat,r≠0∧a=K r:=by
  obtain⟨r,e⟩:=Qm3 (f:=a) (by omega)
  exact⟨r,fun e'=>by rw[e,e',show K 0=0 from rfl,Ya.2 rfl] at h;omega,e⟩
theorem Qc8{π a b:QP}(h:Irr π)(hd:π∣a*b):π∣a∨π∣b:=by
  obtain⟨d,⟨q,e⟩,hda,u,v,e3⟩:=QiH π a
  rcases h.2 q d e with h1|h1
  · left
    obtain⟨r,hr,rfl⟩:=Qbj h1
    rw[e]
    exact(Qdz hr).2 hda
  · right
    obtain⟨r,hr,rfl⟩:=Qbj h1
    have :b=K (1/r)*(u*b*π+v*(a*b)):=QP.eq fun x=>by
      have :=qat e3 x
      simp only[Zy,Xq,v_K] at this⊢
      grind
    rw[this]
    exact XJ _ (Qa7 (XJ _ (XL π)) (XJ _ hd))
theorem Qfj{π:QP}(h:Irr π): ¬π∣1:=fun hd=>by
  have :=Qaj hd QkP
  rw[Qwi] at this
  have :=h.1
  omega
theorem QrV{π:QP}(hπ:2≤dg π): ∀(n:Nat)(f:QP),dg f≤n→f≠0→ ∃k,Qsh f π k
  |0,f,h,h0=>by have :=XF.1 h0;omega
  |n+1,f,h,h0=>by
    by_cases hd:π∣f
    · obtain⟨q,rfl⟩:=hd
      have hq:q≠0:=fun e=>h0 (by rw[e,XG])
      have :=Zd hq (XF.2 (by omega):π≠0)
      obtain⟨k,r,e,hr⟩:=QrV hπ n q (by omega) hq
      exact⟨k+1,r,by rw[XP,←XI,←e],hr⟩
    · exact⟨0,f,by rw[YO,QaE],hd⟩
noncomputable def va (π f:QP):Nat:= @dite _ (∃k,Qsh f π k) (Classical.propDecidable _) (fun h=>Classical.choose h) (fun _=>0)
theorem QbE{π f:QP}(hπ:Irr π)(hf:f≠0):Qsh f π (va π f):=by
  have h:=QrV hπ.1 _ f (Nat.le_refl _) hf
  unfold va
  rw[dif_pos h]
  exact Classical.choose_spec h
theorem Qui{π f:QP}{k:Nat}(hπ:Irr π)(hf:f≠0)(h:Qsh f π k):va π f=k:=Ql2 hπ.ne (QbE hπ hf) h
theorem QaW{π f:QP}(hπ:Irr π)(hf:f≠0)(m:Nat):π^m∣f↔m≤va π f:=Qio hπ.ne (QbE hπ hf)
theorem Qcj(f:QP):f^1=f:=by rw[XP,YO,QbD]
theorem XM{π f:QP}(hπ:Irr π)(hf:f≠0):π∣f↔1≤va π f:=by rw[←QaW hπ hf,Qcj]
theorem Qaz{π f g:QP}(hπ:Irr π)(hf:f≠0)(hg:g≠0):va π (f*g)=va π f+va π g:=by
  obtain⟨r,e,hr⟩:=QbE hπ hf
  obtain⟨s,e',hs⟩:=QbE hπ hg
  refine Qui hπ (QaT hf hg) ⟨r*s,?_,fun hd=>(Qc8 hπ hd).elim hr hs⟩
  rw[QdS]
  refine QP.eq fun x=> ?_
  have h1:=qat e x
  have h2:=qat e' x
  simp only[Xq] at h1 h2⊢
  grind
theorem Qv2{π:QP}{r:Rat}(hπ:Irr π)(hr:r≠0):va π (K r)=0:=Qui hπ (Qpv hr) ⟨K r,by rw[YO,QaE],fun hd=>by
  have :=Qaj hd (Qpv hr)
  rw[QuM hr] at this
  have :=hπ.1
  omega⟩
theorem QgC{π f:QP}(hπ:Irr π)(hf:f≠0): ∀n,va π (f^n)=n*va π f
  |0=>by rw[YO,Nat.zero_mul];exact Qv2 hπ (by decide)
  |n+1=>by rw[XP,Qaz hπ (ZP hf n) hf,QgC hπ hf n,Nat.succ_mul]
theorem Qj4{π f:QP}{r:Rat}(hπ:Irr π)(hr:r≠0)(hf:f≠0):va π (K r*f)=va π f:=by rw[Qaz hπ (Qpv hr) hf,Qv2 hπ hr,Nat.zero_add]
theorem Qgg: ∀(n:Nat)(f g:QP),dg f≤n→f≠0→g≠0→(∀π,Irr π→va π f≤va π g)→f∣g
  |0,f,g,h,hf,_,_=>by have :=XF.1 hf;omega
  |n+1,f,g,h,hf,hg,hv=>by
    rcases Nat.lt_or_ge (dg f) 2 with h1|h1
    · obtain⟨r,hr,rfl⟩:=Qbj (a:=f) (by have :=XF.1 hf;omega)
      exact⟨K (1/r)*g,QP.eq fun x=>by simp only[Xq,v_K];grind⟩
    · obtain⟨π,hπ,q,rfl⟩:=Qbl h1
      have hq:q≠0:=fun e=>hf (by rw[e,XG])
      have h2:1≤va π (q*π):=(XM hπ hf).1 ⟨q,rfl⟩
      obtain⟨s,rfl⟩:=(XM hπ hg).2 (Nat.le_trans h2 (hv π hπ))
      have hs:s≠0:=fun e=>hg (by rw[e,XG])
      have h3:=Zd hq hπ.ne
      have h4:=hπ.1
      refine Qk2 (Qgg n q s (by omega) hq hs fun ρ hρ=> ?_) (XL π)
      have h5:=hv ρ hρ
      rw[Qaz hρ hq hπ.ne,Qaz hρ hs hπ.ne] at h5
      omega
theorem QaN{f g:QP}(hf:f≠0)(hg:g≠0)(h: ∀π,Irr π→va π f≤va π g):f∣g:=Qgg _ f g (Nat.le_refl _) hf hg h
theorem Qa8{π f g:QP}(hπ:Irr π)(hf:f≠0)(hg:g≠0)(h:f∣g):va π f≤va π g:=by
  obtain⟨q,rfl⟩:=h
  have hq:q≠0:=fun e=>hg (by rw[e,XG])
  rw[Qaz hπ hq hf];omega
theorem Qv3{π f g d:QP}(hπ:Irr π)(hf:f≠0)(hg:g≠0)(hd:d≠0)(h:Qcv f g d):va π d=min (va π f) (va π g):=by
  have h1:=Qa8 hπ hd hf h.1
  have h2:=Qa8 hπ hd hg h.2.1
  have h3:=(QaW hπ hd (min (va π f) (va π g))).1 (h.dvd ((QaW hπ hf _).2 (by omega)) ((QaW hπ hg _).2 (by omega)))
  omega
theorem QfZ{π f:QP}(hπ:Irr π)(hf:f≠0):va π f+1≤dg f:=by
  have h1:=Qaj ((QaW hπ hf _).2 (Nat.le_refl _)) hf
  have h2:=Qh2 hπ.1 (va π f)
  omega
theorem QdH{f g:QP}:InI f g 1↔ ∀π,Irr π→π∣f→ ¬π∣g:=by
  constructor
  · rintro⟨u,v,e⟩ π hπ h1 h2
    exact Qfj hπ (by rw[e];exact Qa7 (XJ _ h1) (XJ _ h2))
  · intro h
    obtain⟨d,h1,h2,u,v,e⟩:=QiH f g
    rcases Nat.lt_or_ge (dg d) 2 with h3|h3
    · by_cases hd:d=0
      · exfalso
        subst hd
        obtain⟨π,hπ,_⟩:=Qbl (f:=P [0,1]) (by rw[Yj];decide)
        have hf:=Qca h1
        have hg:=Qca h2
        exact h π hπ (by rw[hf];exact Qb0 _) (by rw[hg];exact Qb0 _)
      · obtain⟨r,hr,rfl⟩:=Qbj (a:=d) (by have :=XF.1 hd;omega)
        exact⟨K (1/r)*u,K (1/r)*v,QP.eq fun x=>by have :=qat e x;simp only[Zy,Xq,v_K,v_1] at this⊢;grind⟩
    · exfalso
      obtain⟨π,hπ,hd⟩:=Qbl h3
      exact h π hπ (Yq hd h1) (Yq hd h2)
theorem QgF{l m:List Int}{c d:Rat}(h:K c*P l=K d*P m):K c*P (Xn l)=K d*P (Xn m):=by
  have hc:=Qm1 c
  have hd:=Qm1 d
  have e:P (Xf l (c.num*d.den))=P (Xf m (d.num*c.den)):=by
    rw[YF,YF]
    refine QP.eq fun x=> ?_
    have :=qat h x
    have h1:=QcD c
    have h2:=QcD d
    simp only[Xq,v_K,Rat.intCast_mul] at this⊢
    rw[←h1,←h2];grind
  have e2:P (Xf (Xn l) (c.num*d.den))=P (Xf (Xn m) (d.num*c.den)):=QaJ fun i=>by
    have :=QgE e (i+1)
    rw[Xi,Xi] at this
    rw[Xi,Xi,XZ,XZ,Int.mul_right_comm,this,Int.mul_right_comm]
  rw[YF,YF] at e2
  refine QP.eq fun x=> ?_
  have :=qat e2 x
  have h1:=QcD c
  have h2:=QcD d
  simp only[Xq,v_K,Rat.intCast_mul] at this⊢
  rw[←h1,←h2] at this
  grind
noncomputable def der (f:QP):QP:=K (1/ ((Classical.choose f.p:Int):Rat))*P (Xn (Classical.choose (Classical.choose_spec f.p)))
theorem Qgc{f:QP}{r:Rat}{l:List Int}(h:f=K r*P l):der f=K r*P (Xn l):=by
  have h2:=Classical.choose_spec (Classical.choose_spec f.p)
  revert h2
  unfold der
  generalize Classical.choose (Classical.choose_spec f.p)=m
  generalize Classical.choose f.p=d
  intro⟨hd,h2⟩
  refine QgF ?_
  rw[←h]
  refine QP.eq fun x=> ?_
  have :=h2 x
  have :=XC hd
  simp only[Xq,v_K,v_P]
  grind
theorem QgV(l:List Int):der (P l)=P (Xn l):=by
  have :=Qgc (f:=P l) (r:=1) (l:=l) (QP.eq fun x=>by simp only[Xq,v_K];grind)
  rw[this];exact QP.eq fun x=>by simp only[Xq,v_K];grind
theorem Qgx(f:QP): ∃(r:Rat)(l:List Int),r≠0∧f=K r*P l:=by
  obtain⟨c,l,hc,h,_⟩:=QbO f
  have :=XC hc
  refine⟨1/ (c:Rat),l,by grind,QP.eq fun x=> ?_⟩
  have :=qat h x
  simp only[Xq,v_K] at this⊢
  grind
theorem Qe2(f g:QP):der (f*g)=der f*g+f*der g:=by
  obtain⟨r,l,_,e⟩:=Qgx f
  obtain⟨s,m,_,e'⟩:=Qgx g
  have h1:f*g=K (r*s)*P (Xg l m):=by rw[Zb];refine QP.eq fun x=> ?_;have :=qat e x;have :=qat e' x;simp only[Xq,v_K] at *;grind
  have h2:P (Xn (Xg l m))=P (Xn l)*P m+P l*P (Xn m):=by
    rw[←Zb,←Zb,←Quy];exact QaJ fun i=>Qed l m i
  rw[Qgc h1,Qgc e,Qgc e',h2]
  refine QP.eq fun x=> ?_
  have h3:=qat e x
  have h4:=qat e' x
  simp only[Zy,Xq,v_K] at h3 h4⊢
  rw[h3,h4];grind
theorem Qjn(f:QP): ∀n:Nat,der (f^ (n+1))=K ((n+1:Nat):Int)*(f^n*der f)
  |0=>by rw[XP,YO,QbD,QbD];exact QP.eq fun x=>by simp only[Xq,v_K];rw[show(((0+1:Nat):Int):Rat)=1 from rfl];grind
  |n+1=>by
    rw[XP,Qe2,Qjn f n,XP]
    refine QP.eq fun x=> ?_
    simp only[Zy,Xq,v_K]
    have :(((n+1+1:Nat):Int):Rat)=(((n+1:Nat):Int):Rat)+1:=by rw[show((n+1+1:Nat):Int)=((n+1:Nat):Int)+1 from rfl,Rat.intCast_add,Yt]
    rw[this];grind
theorem Qh1(f:QP):dg (der f)=dg f -1:=by
  obtain⟨r,l,hr,e⟩:=Qgx f
  rw[Qgc e,Qar hr,Yj,←Qge,Qgd]
  have :dg f=(Xa l).length:=by rw[e,Qar hr,Yj]
  rw[this]
theorem QrC{f:QP}(h:2≤dg f):der f≠0:=XF.2 (by rw[Qh1];omega)
theorem Qlt{π f:QP}(hπ:Irr π)(hf:f≠0)(h1:π∣f):der f≠0∧va π (der f)+1=va π f:=by
  have hv:=(XM hπ hf).1 h1
  have h2:=QfZ hπ hf
  have hd:der f≠0:=QrC (by omega)
  refine⟨hd,?_⟩
  obtain⟨r,e,hr⟩:=QbE hπ hf
  obtain⟨k,hk⟩: ∃k,va π f=k+1:=⟨va π f -1,by omega⟩
  rw[hk] at e⊢
  congr 1
  refine Qui hπ hd ⟨der r*π+K ((k+1:Nat):Int)*(r*der π),?_,fun hx=> ?_⟩
  · have e2:der f=der (r*π^ (k+1)):=by rw[←e]
    rw[e2,Qe2,Qjn,XP]
    exact QP.eq fun x=>by simp only[Zy,Xq,v_K];grind
  · have h3:π∣K ((k+1:Nat):Int)*(r*der π):=by
      have :K ((k+1:Nat):Int)*(r*der π)=(der r*π+K ((k+1:Nat):Int)*(r*der π)) -der r*π:=QP.eq fun x=>by simp only[Zy,Qcs];grind
      rw[this]
      exact Qk1 hx (XJ _ (XL π))
    have h4:=(Qjo (XC (show((k+1:Nat):Int)≠0 by omega))).1 h3
    rcases Qc8 hπ h4 with h5|h5
    · exact hr h5
    · have h6:=Qaj h5 (QrC hπ.1)
      rw[Qh1] at h6
      have :=hπ.1
      omega
end Go.Gx
namespace Go.Gx
theorem Qcg{F G:List Int}(h:P F=P G):ldP F=ldP G:=by unfold ldP;rw[QfO h]
theorem Qcd{F G:List Int}(h:P F=P G):Xy F=Xy G:=QeZ (QgE h)
theorem QnJ(F G:List Int):ldP (Xg F G)=ldP F*ldP G:=by
  by_cases hF:ldP F=0
  · rw[hF,Int.zero_mul]
    refine(Zf _).2 ?_
    rw[Zb,(Zf F).1 hF,XG]
  · by_cases hG:ldP G=0
    · rw[hG,Int.mul_zero]
      refine(Zf _).2 ?_
      rw[Zb,(Zf G).1 hG,Ys]
    · obtain⟨a,ha⟩:=Qa5 hF
      obtain⟨b,hb⟩:=Qa5 hG
      have⟨x1,x2,_⟩:=Zj ha
      have⟨y1,y2,_⟩:=Zj hb
      have h:=Qlp (f:=F) (g:=G) (by omega) (by omega)
      have⟨z1,_,_⟩:=Zj (G:=Xg F G) (d:=a+b) (by omega)
      rw[←z1,(Qf8 x2 y2).1,x1,y1]
theorem QhX(F G:List Int):Xy F∣Xy (Xg F G):=Zs fun i=>by
  rw[Xp]
  have : ∀n,(Xy F:Int)∣Ye (fun j=>co F j*co G (i -j)) n:=fun n=>by
    induction n with
    |zero=>exact Int.dvd_zero _
    |succ n ih=>rw[YA];exact Int.dvd_add ih (Int.dvd_trans (Qab F n) (Int.dvd_mul_right _ _))
  exact this _
structure Nrm (R:List Int):Prop where
  c:Xy R=1
  s:0<ldP R
  t:Xa R=R
theorem Nrm.ne{R:List Int}(h:Nrm R):P R≠0:=(Xz R).1 (by have :=h.s;omega)
theorem YD{F:List Int}(h:P F≠0):Nrm (Xr F):=⟨QhY ((Xz F).2 h),QnK ((Xz F).2 h),QaS F⟩
theorem Nrm.self{R:List Int}(h:Nrm R):Xr R=R:=by
  have e:Yc R=1:=by unfold Yc;rw[if_neg (by have :=h.s;omega),h.c];rfl
  unfold Xr;rw[e,h.t];simp
theorem Nrm.eq{R S:List Int}(hR:Nrm R)(hS:Nrm S)(h1:P R∣P S)(h2:P S∣P R):R=S:=by
  obtain⟨W,e⟩:=QbR hR.c h1
  have hW:P W≠0:=fun e'=>hS.ne (by rw[e,e',XG])
  have d1:=Zd hW hR.ne
  rw[←e] at d1
  have d2:=Qaj h2 hR.ne
  have d3:=XF.1 hW
  obtain⟨c,hc⟩: ∃c:Int,P W=P [c]:=⟨co W 0,QaJ fun i=>by
    cases i with
    |zero=>simp [co]
    |succ i=>rw[(XA W).1 (i+1) (by rw[←Yj];omega)];simp [co]⟩
  have e2:P S=P (Xf R c):=by
    rw[e,hc,YF];exact QP.eq fun x=>by simp only[Xq,v_P,v_K,evQ];grind
  have h3:=Qcd e2
  rw[Qbz,hS.c,hR.c] at h3
  have h4:=Qcg e2
  rw[Qda] at h4
  have h5:=hS.s
  have h6:=hR.s
  have hc1:c=1:=by
    have :c.natAbs=1:=by omega
    rcases Int.natAbs_eq c with h|h
    · omega
    · rw[h,this] at h4
      exfalso
      have :ldP S= -ldP R:=by rw[h4];simp
      omega
  rw[hc1] at e2
  have e3:P S=P R:=by rw[e2];exact QaJ fun i=>by rw[Xi];omega
  have :=QfO e3
  rw[hS.t,hR.t] at this
  exact this.symm
theorem Nrm.eq_va{R S:List Int}(hR:Nrm R)(hS:Nrm S)(h: ∀π,Irr π→va π (P R)=va π (P S)):R=S:=
  hR.eq hS (QaN hR.ne hS.ne fun π hπ=>by rw[h π hπ];exact Nat.le_refl _) (QaN hS.ne hR.ne fun π hπ=>by rw[h π hπ];exact Nat.le_refl _)
theorem Nrm.quo{p r g:List Int}(hp:Nrm p)(hg:0<ldP g)(e:P p=P r*P g)(ht:Xa r=r):Nrm r:=by
  rw[←Zb] at e
  refine⟨?_,?_,ht⟩
  · have h1:=QhX r g
    rw[←Qcd e,hp.c] at h1
    exact Nat.dvd_one.1 h1
  · have h1:=Qcg e
    rw[QnJ] at h1
    have h2:=hp.s
    rw[h1] at h2
    exact Int.pos_of_mul_pos_left h2 hg
theorem QcP{π:QP}{F:List Int}(hπ:Irr π)(h:P F≠0):va π (P (Xr F))=va π (P F):=by
  have :=Qj4 hπ (XC (Yi ((Xz F).2 h))) (YD h).ne
  rw[←QbJ] at this
  exact this.symm
theorem Qg8{p d g:List Int}(hp:Nrm p)(h:QfN p d g):Nrm g:=by
  have hg:P g≠0:=fun e=>hp.ne (Qca (by rw[←e];exact h.q.1))
  refine⟨by rw[h.c,hp.c];simp,?_,h.t⟩
  have :=(Xz g).2 hg
  have :=h.s
  omega
structure PartOf (F R:List Int):Prop where
  n:Nrm R
  v: ∀π,Irr π→va π (P R)=min 1 (va π (P F))
theorem Qd0{π p:QP}{g:QP}(hπ:Irr π)(hp:p≠0)(hg:Qcv p (der p) g)(hg0:g≠0):va π g=va π p -1:=by
  by_cases h:π∣p
  · have⟨h1,h2⟩:=Qlt hπ hp h
    rw[Qv3 hπ hp h1 hg0 hg];omega
  · have h1: ¬1≤va π p:=fun h'=>h ((XM hπ hp).2 h')
    have h2:=Qa8 hπ hg0 hp hg.1
    omega
theorem Qon{F p d g r:List Int}(hF:P F≠0)(hp:p=Xr F)(hd:d=Xa (Xn p))(hg:QfN p d g)(e:P p=P r*P g)(ht:Xa r=r):PartOf F r:=by
  have hn:Nrm p:=by rw[hp];exact YD hF
  have hgn:=Qg8 hn hg
  have hr:P r≠0:=fun e'=>hn.ne (by rw[e,e',XG])
  refine⟨hn.quo hgn.s e ht,fun π hπ=> ?_⟩
  have hq:=hg.q
  rw[hd,Yf,←QgV] at hq
  have h1:=Qd0 hπ hn.ne hq hgn.ne
  have h2:=Qaz hπ hr hgn.ne
  rw[←e] at h2
  rw[←QcP hπ hF,←hp]
  omega
theorem Qav{f:QP}(hf:f≠0):InI f (der f) 1↔ ∀π,Irr π→va π f≤1:=by
  rw[QdH]
  constructor
  · intro h π hπ
    apply Classical.byContradiction
    intro hn
    have hd:π∣f:=(XM hπ hf).2 (by omega)
    have⟨h1,h2⟩:=Qlt hπ hf hd
    exact h π hπ hd ((XM hπ h1).2 (by omega))
  · intro h π hπ hd hd'
    have⟨h1,h2⟩:=Qlt hπ hf hd
    have h3:=(XM hπ h1).1 hd'
    have :=h π hπ
    omega
theorem PartOf.sqf{F R:List Int}(h:PartOf F R):InI (P R) (der (P R)) 1:=(Qav h.n.ne).2 fun π hπ=>by rw[h.v π hπ];omega
theorem PartOf.dvd{F R:List Int}(h:PartOf F R)(hF:P F≠0):P R∣P F:=QaN h.n.ne hF fun π hπ=>by rw[h.v π hπ];omega
theorem PartOf.pow{F R:List Int}(h:PartOf F R)(hF:P F≠0){n:Nat}(hn:(Xa F).length≤n+1):P F∣P R^n:=QaN hF (ZP h.n.ne n) fun π hπ=>by
  rw[QgC hπ h.n.ne,h.v π hπ]
  have :=QfZ hπ hF
  rw[Yj] at this
  rcases Nat.eq_zero_or_pos (va π (P F)) with h0|h0
  · omega
  · rw[show min 1 (va π (P F))=1 by omega];omega
theorem PartOf.deg{F R:List Int}(h:PartOf F R)(hF:P F≠0):InI (P F) (der (P F)) 1↔(Xa R).length=(Xa F).length:=by
  rw[Qav hF,←Yj,←Yj]
  have hd:=h.dvd hF
  constructor
  · intro hv
    have h2:P F∣P R:=QaN hF h.n.ne fun π hπ=>by rw[h.v π hπ];have :=hv π hπ;omega
    have :=Qaj hd hF
    have :=Qaj h2 h.n.ne
    omega
  · intro he π hπ
    obtain⟨q,e⟩:=hd
    have hq:q≠0:=fun e'=>hF (by rw[e,e',XG])
    have d1:=Zd hq h.n.ne
    rw[←e] at d1
    have d3:=XF.1 h.n.ne
    obtain⟨r,hr,rfl⟩:=Qbj (a:=q) (by omega)
    have :=Qj4 hπ hr h.n.ne
    rw[←e,h.v π hπ] at this
    omega
end Go.Gx
namespace Go.Gx
theorem Qdm{f r g:List Int}(e:P f=P r*P g)(h0:P f≠0)(hl:r.length=(Xa f).length -((Xa g).length -1)):Xa r=r:=by
  have hr:P r≠0:=fun e'=>h0 (by rw[e,e',XG])
  have hg:P g≠0:=fun e'=>h0 (by rw[e,e',Ys])
  have h1:=Zd hr hg
  rw[←e,Yj,Yj,Yj] at h1
  have h2:=XF.1 hg
  rw[Yj] at h2
  refine ZF ?_
  rcases(XA r).2 with h3|h3
  · exact absurd (Ya.1 ((Yj r).trans h3)) hr
  · right;rwa [show r.length=(Xa r).length by omega]
end Go.Gx
namespace Go.Gx
structure Yun (p:QP) (k:Nat) (rest other U:QP):Prop where
  p0:p≠0
  r0:rest≠0
  vr: ∀π,Irr π→va π rest=if k≤va π p then 1 else 0
  vo: ∀π,Irr π→π∣rest→π∣other -K (((va π p:Int) -(k:Int):Int):Rat)*der rest
  dgo:dg other≤dg rest -1
  u0:U≠0
  vu: ∀π,Irr π→va π U=va π p+1 -k
theorem Qpi{π f q g:QP}(hπ:Irr π)(hf:f≠0)(e:f=q*g):va π f=va π q+va π g:=by
  have hq:q≠0:=fun e'=>hf (by rw[e,e',XG])
  have hg:g≠0:=fun e'=>hf (by rw[e,e',Ys])
  rw[e];exact Qaz hπ hq hg
theorem Qh3{f q g:QP}(hf:f≠0)(e:f=q*g):dg f+1=dg q+dg g:=by
  have hq:q≠0:=fun e'=>hf (by rw[e,e',XG])
  have hg:g≠0:=fun e'=>hf (by rw[e,e',Ys])
  rw[e];exact Zd hq hg
theorem Qm2{p rest common o π:QP}(hπ:Irr π)(hp:p≠0)(e1:p=rest*common)(e2:der p=o*common)(hr:π∣rest)(hv:va π common+1=va π p):π∣o -K ((va π p:Int):Rat)*der rest:=by
  obtain⟨s,es,_⟩:=QbE hπ hp
  obtain⟨r,er⟩:=hr
  have hc0:common≠0:=fun e'=>hp (by rw[e1,e',Ys])
  obtain⟨c,ec,_⟩:=QbE hπ hc0
  obtain⟨k,hk⟩: ∃k,va π p=k+1:=⟨va π common,hv.symm⟩
  have hk':va π common=k:=by omega
  rw[hk] at es⊢
  rw[hk'] at ec
  have hrc:r*common=s*π^k:=by
    refine QiI hπ.ne ?_
    have :r*common*π=p:=by rw[e1,er];exact QP.eq fun x=>by simp only[Xq];grind
    rw[this,es,XP];exact QP.eq fun x=>by simp only[Xq];grind
  have hX:(o -K (((k+1:Nat):Int):Rat)*der rest)*common=(der s -K (((k+1:Nat):Int):Rat)*der r*c)*π^ (k+1):=by
    have d1:der p=der s*π^ (k+1)+s*(K (((k+1:Nat):Int):Rat)*(π^k*der π)):=by
      have :der p=der (s*π^ (k+1)):=by rw[←es]
      rw[this,Qe2,Qjn]
    have d2:der rest=der r*π+r*der π:=by rw[er,Qe2]
    rw[XP] at *
    refine QP.eq fun x=> ?_
    have h1:=qat e2 x
    have h2:=qat d1 x
    have h3:=qat d2 x
    have h4:=qat hrc x
    have h5:=qat ec x
    simp only[Xq,Qcs,v_K,Zy] at h1 h2 h3 h4 h5⊢
    rw[h3]
    generalize(((k+1:Nat):Int):Rat)=n at *
    generalize(π^k).v x=z at *
    grind
  by_cases hz:o -K (((k+1:Nat):Int):Rat)*der rest=0
  · rw[hz];exact Qb0 _
  · have h1:=(QaW hπ (QaT hz hc0) (k+1)).1 ⟨_,hX⟩
    rw[Qaz hπ hz hc0] at h1
    exact(XM hπ hz).2 (by omega)
theorem Yun.start{p common rest o other:QP}(hp:p≠0)(hg:Qcv p (der p) common)(e1:p=rest*common)(e2:der p=o*common)(e3:other=o -der rest):Yun p 1 rest other p:=by
  have hr:rest≠0:=fun e'=>hp (by rw[e1,e',XG])
  have hc:common≠0:=fun e'=>hp (by rw[e1,e',Ys])
  have vr: ∀π,Irr π→va π rest=if 1≤va π p then 1 else 0:=fun π hπ=>by
    have h1:=Qd0 hπ hp hg hc
    have h2:=Qpi hπ hp e1
    split<;>omega
  have dr:dg (o -der rest)≤dg rest -1:=by
    have h1:=Qm4 o (der rest)
    rw[Qh1] at h1
    have h2:=Qh3 hp e1
    have h4:=XF.1 hr
    have h5:=XF.1 hc
    have h3:dg o≤dg rest -1:=by
      by_cases ho:der p=0
      · have :o=0:=by
          rw[ho] at e2
          exact(Qk3 e2.symm).resolve_right hc
        rw[this,Ya.2 rfl];omega
      · have :=Qh3 ho e2
        rw[Qh1] at this
        omega
    omega
  refine⟨hp,hr,vr,fun π hπ hd=> ?_,by rw[e3];exact dr,hp,fun π hπ=>by omega⟩
  have hv1:=(XM hπ hr).1 hd
  rw[vr π hπ] at hv1
  have hv2:1≤va π p:=by
    apply Classical.byContradiction;intro hn;rw[if_neg hn] at hv1;omega
  have h1:=Qd0 hπ hp hg hc
  have :=Qm2 hπ hp e1 e2 hd (by omega)
  have e4:other -K (((va π p:Int) -((1:Nat):Int):Int):Rat)*der rest=o -K ((va π p:Int):Rat)*der rest:=by
    rw[e3,Rat.intCast_sub]
    refine QP.eq fun x=> ?_
    simp only[Qcs,Xq,v_K]
    rw[show((((1:Nat):Int):Int):Rat)=1 from rfl];grind
  rw[e4];exact this
section
variable{p rest other U g r1 o1:QP}{k:Nat}
theorem Yun.gcd(h:Yun p k rest other U)(hg:Qcv rest other g):g≠0∧ ∀π,Irr π→va π g=if va π p=k then 1 else 0:=by
  have hg0:g≠0:=fun e=>h.r0 (Qca (by rw[←e];exact hg.1))
  refine⟨hg0,fun π hπ=> ?_⟩
  have h1:=Qa8 hπ hg0 h.r0 hg.1
  have h2:=h.vr π hπ
  by_cases hk:k≤va π p
  · rw[if_pos hk] at h2
    have hd:π∣rest:=(XM hπ h.r0).2 (by omega)
    have h3:=h.vo π hπ hd
    by_cases he:va π p=k
    · rw[if_pos he]
      have h4:π∣other:=by
        rw[he] at h3
        have :other=other -K (((k:Int) -(k:Int):Int):Rat)*der rest:=QP.eq fun x=>by simp only[Qcs,Xq,v_K];rw[Int.sub_self,QfJ];grind
        rw[this];exact h3
      have :=(XM hπ hg0).1 (hg.dvd hd h4)
      omega
    · rw[if_neg he]
      apply Classical.byContradiction
      intro hn
      have h4:π∣g:=(XM hπ hg0).2 (by omega)
      have h5:π∣other:=Yq h4 hg.2.1
      have h6:π∣K (((va π p:Int) -(k:Int):Int):Rat)*der rest:=by
        have :K (((va π p:Int) -(k:Int):Int):Rat)*der rest=other -(other -K (((va π p:Int) -(k:Int):Int):Rat)*der rest):=QP.eq fun x=>by simp only[Qcs];grind
        rw[this];exact Qk1 h5 h3
      have h7:=(Qjo (XC (show((va π p:Int) -(k:Int))≠0 by omega))).1 h6
      have⟨d0,d1⟩:=Qlt hπ h.r0 hd
      have :=(XM hπ d0).1 h7
      omega
  · rw[if_neg hk] at h2
    rw[if_neg (by omega)]
    omega
theorem Yun.next(h:Yun p k rest other U)(hg:Qcv rest other g)(e1:rest=r1*g)(e2:other=o1*g){other':QP}(e3:other'=o1 -der r1): ∃U',Yun p (k+1) r1 other' U'∧dg U'+dg rest=dg U+1:=by
  have⟨hg0,vg⟩:=h.gcd hg
  have hr1:r1≠0:=fun e'=>h.r0 (by rw[e1,e',XG])
  have vr1: ∀π,Irr π→va π r1=if k+1≤va π p then 1 else 0:=fun π hπ=>by
    have h1:=Qpi hπ h.r0 e1
    have h2:=h.vr π hπ
    have h3:=vg π hπ
    by_cases a:k≤va π p
    · rw[if_pos a] at h2
      by_cases b:va π p=k
      · rw[if_pos b] at h3;rw[if_neg (by omega)];omega
      · rw[if_neg b] at h3;rw[if_pos (by omega)];omega
    · rw[if_neg a] at h2;rw[if_neg (by omega)];omega
  have hU:rest∣U:=QaN h.r0 h.u0 fun π hπ=>by
    rw[h.vr π hπ,h.vu π hπ];split<;>omega
  obtain⟨U',eU⟩:=hU
  have hU':U'≠0:=fun e'=>h.u0 (by rw[eU,e',XG])
  have dU:=Qh3 h.u0 eU
  have dr:=Qh3 h.r0 e1
  have p1:=XF.1 hr1
  have p2:=XF.1 hg0
  refine⟨U',⟨h.p0,hr1,vr1,fun π hπ hd=> ?_,?_,hU',fun π hπ=> ?_⟩,by omega⟩
  · have hv:=(XM hπ hr1).1 hd
    rw[vr1 π hπ] at hv
    have hk:k+1≤va π p:=by apply Classical.byContradiction;intro hn;rw[if_neg hn] at hv;omega
    have hng: ¬π∣g:=fun hx=>by
      have :=(XM hπ hg0).1 hx
      rw[vg π hπ,if_neg (by omega)] at this
      omega
    have h1:=h.vo π hπ (by rw[e1];exact Qdl _ hd)
    have key:(other' -K (((va π p:Int) -((k+1:Nat):Int):Int):Rat)*der r1)*g=(other -K (((va π p:Int) -(k:Int):Int):Rat)*der rest)+K (((va π p:Int) -(k:Int):Int):Rat)*(der g*r1):=by
      have d1:der rest=der r1*g+r1*der g:=by rw[e1,Qe2]
      have d2:(((va π p:Int) -((k+1:Nat):Int):Int):Rat)=(((va π p:Int) -(k:Int):Int):Rat) -1:=by
        rw[show((va π p:Int) -((k+1:Nat):Int):Int)=((va π p:Int) -(k:Int)) -1 by omega,Rat.intCast_sub ((va π p:Int) -(k:Int)),Yt]
      rw[d1,d2,e3,e2]
      refine QP.eq fun x=> ?_
      simp only[Qcs,Xq,v_K,Zy]
      generalize(((va π p:Int) -(k:Int):Int):Rat)=n
      grind
    have h2:π∣ (other' -K (((va π p:Int) -((k+1:Nat):Int):Int):Rat)*der r1)*g:=by
      rw[key];exact Qa7 h1 (XJ _ (XJ _ hd))
    exact(Qc8 hπ h2).resolve_right hng
  · have h1:=Qm4 o1 (der r1)
    rw[Qh1] at h1
    have h3:dg o1≤dg r1 -1:=by
      by_cases ho:other=0
      · have :o1=0:=by
          rw[ho] at e2
          exact(Qk3 e2.symm).resolve_right hg0
        rw[this,Ya.2 rfl];omega
      · have h4:=Qh3 ho e2
        have :=h.dgo
        have :=XF.1 ho
        omega
    rw[e3];omega
  · have h1:=Qpi hπ h.u0 eU
    rw[h.vu π hπ,h.vr π hπ] at h1
    split at h1<;>omega
theorem Yun.done(h:Yun p k rest other U)(hd:dg rest≤1): ∀π,Irr π→va π p<k:=fun π hπ=>by
  have h1:=h.vr π hπ
  have h2:=QfZ hπ h.r0
  apply Classical.byContradiction
  intro hn
  rw[if_pos (by omega)] at h1
  omega
end
theorem Nrm.mul{a b:List Int}(ha:Nrm a)(hb:Nrm b):Nrm (Xa (Xg a b)):=by
  refine⟨?_,?_,XV _⟩
  · rw[QaF]
    apply Classical.byContradiction
    intro hn
    have h0:Xy (Xg a b)≠0:=fun e=>by
      have :=QdG e
      have h1:P (Xg a b)=0:=by rw[←QdA];exact QaJ fun i=>by rw[this i];simp [co]
      rw[Zb] at h1
      exact QaT ha.ne hb.ne h1
    obtain⟨q,q2,qd,qp⟩:=Qiy (n:=Xy (Xg a b)) (by omega)
    have hj: ∃j,¬(q:Int)∣co b j:=by
      apply Classical.byContradiction
      intro hn'
      have :q∣Xy b:=Zs fun i=>Classical.byContradiction fun h=>hn' ⟨i,h⟩
      rw[hb.c] at this
      have :=Nat.le_of_dvd (by omega) this
      omega
    have :=Qff qp (l:=a) (d:=b) (fun i=>Int.dvd_trans (Int.ofNat_dvd.2 qd) (Qab _ i)) hj
    have :q∣Xy a:=Zs this
    rw[ha.c] at this
    have :=Nat.le_of_dvd (by omega) this
    omega
  · rw[QjB,QnJ];exact Int.mul_pos ha.s hb.s
theorem Nrm.one:Nrm [1]:=⟨by decide,by decide,by decide⟩
theorem Nrm.pow{a:List Int}(ha:Nrm a): ∀n:Nat,∃b,Nrm b∧P b=P a^n
  |0=>⟨[1],Nrm.one,by rw[YO];exact QP.eq fun x=>by simp only[v_P,v_1,evQ];rw[Yt];grind⟩
  |n+1=>by
    obtain⟨b,hb,e⟩:=Nrm.pow ha n
    exact⟨Xa (Xg b a),hb.mul ha,by rw[Yf,Zb,e,XP]⟩
end Go.Gx
namespace Go.Gx
open Go.RowKit
variable{dfs:List Deferred}
def QwD(d:Nat):Value:= .int .i64 (d:Int)
def Qbu(b:Nat)(w:World)(S:Nat→Prop)(A:Option Addr)(n c:Nat)(ds:List Nat):Prop:=Rd w S A n c 1 (ds.map QwD)∧ ∀d∈ds,d<b
section
variable{b:Nat}{w w':World}{S S' G:Nat→Prop}{A:Option Addr}{n c:Nat}{ds:List Nat}
theorem Qbu.frm(h:Qbu b w S A n c ds)(f:Frm G w w')(hd: ∀b,S b→ ¬G b):Qbu b w' S A n c ds:=⟨h.1.frm f hd,h.2⟩
theorem Qbu.frmB(h:Qbu b w S A n c ds)(f:Frm G w w')(hd: ∀b,b<w.heap.size→S b→ ¬G b):Qbu b w' S A n c ds:=⟨h.1.frmB f hd,h.2⟩
theorem Qbu.t(h:Qbu b w S A n c ds)(f:Frm G w w':=by exact zrd)(hd: ∀b,b<w.heap.size→S b→ ¬G b:=by exact zq6):Qbu b w' S A n c ds:=h.frmB f hd
theorem Qbu.ext(h:Qbu b w S A n c ds)(f:Ext w w'):Qbu b w' S A n c ds:=⟨h.1.ext f,h.2⟩
theorem Qbu.sub(h:Qbu b w S A n c ds)(hs: ∀b,b<w.heap.size→S b→S' b):Qbu b w S' A n c ds:=⟨h.1.sub hs,h.2⟩
theorem Qbu.low(h:Qbu b w S A n c ds):Qbu b w (· <w.heap.size) A n c ds:=⟨h.1.low,h.2⟩
theorem Qbu.nil:Qbu b w S none 0 0 []:=⟨Rd.nil,by simp⟩
theorem Qbu.len(h:Qbu b w S A n c ds):ds.length=n:=by have :=h.1.1;simpa using this
theorem Qbu.cap(h:Qbu b w S A n c ds):n≤c:=h.1.2.1
theorem Qbu.max(h:Qbu b w S A n c ds):c≤9223372036854775807:=h.1.2.2.1
theorem Qbu.base(h:Qbu b w S A n c ds)(hn:0<n): ∃b off,A=some ⟨b,off,none⟩:=h.1.base hn
theorem Qbu.lt(h:Qbu b w S A n c ds)(i:Nat):ds.getD i 0≤b -1:=by
  rcases Nat.lt_or_ge i ds.length with hi|hi
  · simp only[List.getD,List.getElem?_eq_getElem hi,Option.getD_some];have :=h.2 _ (List.getElem_mem hi);omega
  · simp [List.getD,List.getElem?_eq_none hi]
theorem Qbu.cell{g off:Nat}(h:Qbu b w S (some ⟨g,off,none⟩) n c ds){i:Nat}(hi:i<n):w.cell? ⟨g,off+i,none⟩=some (.int .i64 ((ds.getD i 0:Nat):Int)):=by
  refine h.1.cell ?_
  have hl:i<ds.length:=by rw[h.len];exact hi
  simp [List.getElem?_map,List.getElem?_eq_getElem hl,QwD]
theorem Qbu.take{m:Nat}(h:Qbu b w S A n c ds)(hm:m≤n):Qbu b w S A m c (ds.take m):=by
  refine⟨?_,fun d hd=>h.2 d (List.mem_of_mem_take hd)⟩
  have :=h.1.take hm
  rw[Nat.mul_one,←List.map_take] at this
  exact this
theorem Qbu.of_blk{g:Nat}{t:TypeId}(h:Blk w g t (ds.map QwD))(hS:S g)(hd: ∀d∈ds,d<b)(hl:ds.length=n)(hc:n≤c)(hm:c≤Qax):Qbu b w S (some ⟨g,0,none⟩) n c ds:=
  ⟨Rd.of_blk h hS (by simpa using hl) hc hm,hd⟩
end
def Own(w:World)(B:Nat)(e:TypeId)(k:Nat)(A:Option Addr)(n c:Nat)(cs:List Value):Prop:=w.ownsRow B e k (.slice A n c) n cs
def Qiq(A:Option Addr)(b:Nat):Prop:= ∀a,A=some a→a.block≠b
section
variable{w w':World}{B:Nat}{e:TypeId}{k:Nat}{A:Option Addr}{n c:Nat}{cs:List Value}
theorem Own.nil:Own w B e k none 0 0 []:=World.ownsRow_nil w B e k
theorem Own.lt(h:Own w B e k A n c cs): ∀a,A=some a→B≤a.block∧a.block<w.heap.size:=fun a ha=>by
  subst ha
  exact World.ownsRow.lt h a.block rfl
theorem Own.ext(h:Own w B e k A n c cs)(f:Ext w w'):Own w' B e k A n c cs:=
  World.ownsRow.kept (row:=none) h ⟨f.os,f.tape,f.output,f.size,fun i hi _=>f.block i hi fun g=>g⟩ (by cases(Value.slice A n c).ownBlock<;>simp)
theorem Own.t(h:Own w B e k A n c cs)(f:Ext w w':=by exact zrd):Own w' B e k A n c cs:=h.ext f
theorem Own.rd(h:Own w B e k A n c cs):Rd w (fun b=>B≤b) A n c k cs:=by
  refine⟨h.1,?_⟩
  rcases h.2 with⟨hv,rfl⟩| ⟨g,cap,cur,hv,hb,hg,hnc,hm,_,_⟩
  · injection hv with h1 h2 h3
    subst h3
    exact⟨Nat.le_refl _,Nat.zero_le _,fun h0=>absurd h0 (by omega)⟩
  · injection hv with h1 h2 h3
    subst h1 h3
    refine⟨hnc,by simp only[maxLen,Qax] at hm⊢;omega,fun _=>⟨g,0,rfl,hb,(Array.getElem?_eq_some_iff.1 hg).1,fun j v hj=> ?_⟩⟩
    have :=World.ownsRow.cells h (g:=g) rfl j v hj
    rw[addr_add] at this
    exact this
theorem Own.len(h:Own w B e k A n c cs):cs.length=n*k:=h.1
theorem Own.cap(h:Own w B e k A n c cs):n≤c:=h.rd.2.1
theorem Own.max(h:Own w B e k A n c cs):c≤9223372036854775807:=h.rd.2.2.1
theorem Own.low{B':Nat}(h:Own w B e k A n c cs)(hB:B'≤B):Own w B' e k A n c cs:=by
  refine⟨h.1,?_⟩
  rcases h.2 with h1| ⟨g,cap,cur,hv,hb,rest⟩
  · exact .inl h1
  · exact .inr ⟨g,cap,cur,hv,Nat.le_trans hB hb,rest⟩
theorem Own.close{g:Nat}{sp:List Value}(hb:B≤g)(h:Blk w g e (cs++sp))(hl:(cs++sp).length=c)(hn:cs.length=n)(hm:c≤Qax):Own w B e 1 (some ⟨g,0,none⟩) n c cs:=by
  have hnc:n≤c:=by rw[←hl,←hn];simp
  refine⟨by simpa using hn,.inr ⟨g,c,(cs++sp).toArray,rfl,hb,h,hnc,?_,by simpa using hl,?_⟩⟩
  · simp only[maxLen,Qax] at hm⊢;omega
  · simp [←hn]
theorem Own.whole{g:Nat}(hb:B≤g)(h:Blk w g e cs)(hn:cs.length=n)(hm:n≤Qax):Own w B e 1 (some ⟨g,0,none⟩) n n cs:=
  Own.close (sp:=[]) hb (by rwa [List.append_nil]) (by simpa using hn) hn hm
end
section
variable{P:Program}{n:Nat}{e:Nat→Value}{w:World}{K:Act→World→Prop}{Q:Exit→Act→World→Prop}{ty:TypeId}{pos:String}{af:Array Edge}{gd:Option (Nat×Bool)}
end
end Go.Gx
namespace Go.Gx
variable{dfs:List Deferred}
end Go.Gx
namespace Go.Gx
variable{dfs:List Deferred}
section
variable{P:Program}{n:Nat}{e:Nat→Value}{w:World}{ty:TypeId}{pos:String}{af:Array Edge}{gd:Option (Nat×Bool)}
end
end Go.Gx
namespace Go.Gx
open Go.RowKit
structure FE where
  A:Option Addr
  n:Nat
  c:Nat
  l:List RI
  k:Int
def FE.cells(f:FE):List Value:=[.slice f.A f.n f.c,.int .i64 f.k]
def QcY(l:List FE):List Value:=l.flatMap FE.cells
theorem Qf2(l:List FE):(QcY l).length=l.length*2:=by
  induction l with
  |nil=>rfl
  |cons r l ih=>simp only[QcY,List.flatMap_cons,List.length_append,List.length_cons] at ih⊢;rw[ih];simp [FE.cells];omega
theorem Qjc(r:FE)(l:List FE):QcY (r::l)= .slice r.A r.n r.c:: .int .i64 r.k::QcY l:=by simp [QcY,FE.cells]
theorem QlD{l:List FE}: ∀{i:Nat}{r:FE},l[i]? =some r→(QcY l)[i*2]? =some (.slice r.A r.n r.c)∧(QcY l)[i*2+1]? =some (.int .i64 r.k):=by
  induction l with
  |nil=>intro i r h;simp at h
  |cons x l ih=>
    intro i r h
    rw[Qjc]
    cases i with
    |zero=>simp at h;subst h;simp
    |succ i=>
      simp at h
      have :=ih h
      rw[show(i+1)*2=i*2+1+1 by omega]
      simpa using this
def QwW(w:World)(S:Nat→Prop)(M:Nat)(l:List FE):Prop:= ∀f∈l,Yk w S f.A f.n f.c f.l M
def QaI(w:World)(S:Nat→Prop)(A:Option Addr)(n c:Nat)(l:List FE)(M:Nat):Prop:=Rd w S A n c 2 (QcY l)∧QwW w S M l
section
variable{w w':World}{S S' G:Nat→Prop}{A:Option Addr}{n c M:Nat}{l:List FE}
theorem QaI.frmB(h:QaI w S A n c l M)(f:Frm G w w')(hd: ∀b,b<w.heap.size→S b→ ¬G b):QaI w' S A n c l M:=⟨h.1.frmB f hd,fun x hx=>(h.2 x hx).frmB f hd⟩
theorem QaI.t(h:QaI w S A n c l M)(f:Frm G w w':=by exact zrd)(hd: ∀b,b<w.heap.size→S b→ ¬G b:=by exact zq6):QaI w' S A n c l M:=h.frmB f hd
theorem QaI.ext(h:QaI w S A n c l M)(f:Ext w w'):QaI w' S A n c l M:=⟨h.1.ext f,fun x hx=>(h.2 x hx).ext f⟩
theorem QaI.sub(h:QaI w S A n c l M)(hs: ∀b,b<w.heap.size→S b→S' b):QaI w S' A n c l M:=⟨h.1.sub hs,fun x hx=>(h.2 x hx).sub hs⟩
theorem QaI.low(h:QaI w S A n c l M):QaI w (· <w.heap.size) A n c l M:=h.sub fun _ hb _=>hb
theorem QaI.nil:QaI w S none 0 0 [] M:=⟨Rd.nil,fun f hf=>by cases hf⟩
theorem QaI.len(h:QaI w S A n c l M):l.length=n:=by have :=h.1.1;rw[Qf2] at this;omega
theorem QaI.base(h:QaI w S A n c l M)(hn:0<n): ∃b off,A=some ⟨b,off,none⟩:=h.1.base hn
theorem QaI.at_{b off i:Nat}(h:QaI w S (some ⟨b,off,none⟩) n c l M)(hi:i<n):
    ∃f,l[i]? =some f∧w.cell? ⟨b,off+i*2,none⟩=some (.slice f.A f.n f.c)∧w.cell? ⟨b,off+i*2+1,none⟩=some (.int .i64 f.k)∧Yk w S f.A f.n f.c f.l M∧S b∧b<w.heap.size:=by
  have hl:i<l.length:=by rw[h.len];exact hi
  obtain⟨b',off',e,hS,hb,_⟩:=h.1.2.2.2 (by omega)
  injection e with e
  injection e with e1 e2
  subst e1 e2
  obtain⟨r,hr⟩: ∃r,l[i]? =some r:=⟨_,List.getElem?_eq_getElem hl⟩
  have hc:=QlD hr
  exact⟨r,hr,h.1.cell hc.1,h.1.cell hc.2,h.2 _ (List.mem_of_getElem? hr),hS,hb⟩
end
def Qlw(w:World)(B:Nat)(el:TypeId)(A:Option Addr)(n c:Nat)(l:List FE)(M:Nat):Prop:=Own w B el 2 A n c (QcY l)∧QwW w (fun b=>Qiq A b∧B≤b) M l
section
variable{w w':World}{B:Nat}{el:TypeId}{A:Option Addr}{n c M:Nat}{l:List FE}
theorem Qlw.nil:Qlw w B el none 0 0 [] M:=⟨Own.nil,fun f hf=>by cases hf⟩
theorem Qlw.ext(h:Qlw w B el A n c l M)(k:Ext w w'):Qlw w' B el A n c l M:=⟨h.1.ext k,fun f hf=>(h.2 f hf).ext k⟩
theorem Own.frmG{k:Nat}{cs:List Value}{G:Nat→Prop}(h:Own w B el k A n c cs)(f:Frm G w w')(hd: ∀b,b<w.heap.size→B≤b→ ¬G b):Own w' B el k A n c cs:=by
  refine⟨h.1,?_⟩
  rcases h.2 with h1| ⟨g,cap,cur,hv,hb,hg,rest⟩
  · exact .inl h1
  · have hlt:=(Array.getElem?_eq_some_iff.1 hg).1
    exact .inr ⟨g,cap,cur,hv,hb,(f.block g hlt (hd g hlt hb)).trans hg,rest⟩
theorem Qlw.frmB{G:Nat→Prop}(h:Qlw w B el A n c l M)(f:Frm G w w')(hd: ∀b,b<w.heap.size→B≤b→ ¬G b):Qlw w' B el A n c l M:=⟨h.1.frmG f hd,fun x hx=>(h.2 x hx).frmB f fun b hb hs=>hd b hb hs.2⟩
theorem Qlw.t{G:Nat→Prop}(h:Qlw w B el A n c l M)(f:Frm G w w':=by exact zrd)(hd: ∀b,b<w.heap.size→B≤b→ ¬G b:=by exact zq6):Qlw w' B el A n c l M:=h.frmB f hd
theorem Qlw.len(h:Qlw w B el A n c l M):l.length=n:=by have :=h.1.1;rw[Qf2] at this;omega
end
section
variable{dfs:List Deferred}{P:Program}{n:Nat}{e:Nat→Value}{w:World}{K:Act→World→Prop}{Q:Exit→Act→World→Prop}{ty:TypeId}{pos:String}{af:Array Edge}{gd:Option (Nat×Bool)}
end
end Go.Gx
namespace Go.Gx
structure Qrq (p:QP) (f:FE):Prop where
  n:Nrm (zs f.l)
  d:2≤f.n
  k1:1≤f.k∧f.k≤10
  ln:f.n≤11
  hn:f.l.length=f.n
  v: ∀π,Irr π→va π (P (zs f.l))=if(va π p:Int)=f.k then 1 else 0
structure Qdy (p:QP) (k:Nat) (fs:List FE):Prop where
  e: ∀f∈fs,Qrq p f
  lt: ∀f∈fs,f.k<k
  asc:fs.Pairwise fun a b=>a.k<b.k
  all: ∀π,Irr π→1≤va π p→va π p<k→ ∃f∈fs,f.k=(va π p:Int)
theorem Qdy.nil{p:QP}:Qdy p 1 []:=⟨by simp,by simp,List.Pairwise.nil,fun π hπ h1 h2=>by omega⟩
theorem Qdy.skip{p g:QP}{k:Nat}{fs:List FE}(h:Qdy p k fs)(hg:dg g≤1)(g0:g≠0)(vg: ∀π,Irr π→va π g=if va π p=k then 1 else 0):Qdy p (k+1) fs:=by
  refine⟨h.e,fun f hf=>by have :=h.lt f hf;omega,h.asc,fun π hπ h1 h2=> ?_⟩
  by_cases hk:va π p=k
  · have h3:=vg π hπ
    rw[if_pos hk] at h3
    have :=QfZ hπ g0
    omega
  · exact h.all π hπ h1 (by omega)
theorem Qdy.more{p:QP}{k:Nat}{fs:List FE}{f:FE}(h:Qdy p k fs)(hf:Qrq p f)(hk:f.k=(k:Int)):Qdy p (k+1) (fs++[f]):=by
  refine⟨fun x hx=> ?_,fun x hx=> ?_,?_,fun π hπ h1 h2=> ?_⟩
  · rcases List.mem_append.1 hx with h3|h3
    · exact h.e x h3
    · simp at h3;subst h3;exact hf
  · rcases List.mem_append.1 hx with h3|h3
    · have :=h.lt x h3;omega
    · simp at h3;subst h3;omega
  · refine List.pairwise_append.2 ⟨h.asc,List.pairwise_singleton _ _,fun a ha b hb=> ?_⟩
    simp at hb;subst hb;rw[hk];exact h.lt a ha
  · by_cases h3:va π p=k
    · exact⟨f,by simp,by rw[hk,h3]⟩
    · obtain⟨x,hx,e⟩:=h.all π hπ h1 (by omega)
      exact⟨x,List.mem_append_left _ hx,e⟩
noncomputable def QfW:List FE→QP
  | []=>1
  |f::fs=>P (zs f.l)^f.k.toNat*QfW fs
theorem Qhq: ∀fs:List FE,(∀f∈fs,Nrm (zs f.l))→ ∃b,Nrm b∧P b=QfW fs
  | [],_=>⟨[1],Nrm.one,QP.eq fun x=>by simp only[QfW,v_P,v_1,evQ];rw[Yt];grind⟩
  |f::fs,h=>by
    obtain⟨b,hb,e⟩:=Qhq fs fun x hx=>h x (by simp [hx])
    obtain⟨a,ha,e'⟩:=(h f (by simp)).pow f.k.toNat
    exact⟨Xa (Xg a b),ha.mul hb,by rw[Yf,Zb,e,e'];rfl⟩
theorem Qph{p π:QP}(hπ:Irr π): ∀fs:List FE,(∀f∈fs,Qrq p f)→fs.Pairwise (fun a b=>a.k<b.k)→((∃f∈fs,f.k=(va π p:Int))→va π (QfW fs)=va π p)∧((∀f∈fs,f.k≠ (va π p:Int))→va π (QfW fs)=0)
  | [],_,_=>⟨fun⟨f,hf,_⟩=>absurd hf (by simp),fun _=>Qv2 hπ (by decide)⟩
  |f::fs,h,ha=>by
    have⟨ih1,ih2⟩:=Qph hπ fs (fun x hx=>h x (by simp [hx])) (List.pairwise_cons.1 ha).2
    have hf:=h f (by simp)
    obtain⟨b,hb,e⟩:=Qhq fs fun x hx=>(h x (by simp [hx])).n
    have hm:va π (QfW (f::fs))=f.k.toNat*va π (P (zs f.l))+va π (QfW fs):=by
      show va π (P (zs f.l)^f.k.toNat*QfW fs)=_
      rw[Qaz hπ (ZP hf.n.ne _) (by rw[←e];exact hb.ne),QgC hπ hf.n.ne]
    have hv:=hf.v π hπ
    constructor
    · rintro⟨x,hx,ex⟩
      rcases List.mem_cons.1 hx with h1|h1
      · subst h1
        rw[if_pos ex.symm] at hv
        rw[hm,hv,ih2 fun y hy=>by have :=(List.pairwise_cons.1 ha).1 y hy;omega]
        omega
      · have :f.k≠ (va π p:Int):=by have :=(List.pairwise_cons.1 ha).1 x h1;omega
        rw[if_neg fun e'=>this e'.symm] at hv
        rw[hm,hv,ih1 ⟨x,h1,ex⟩];omega
    · intro hn
      rw[if_neg fun e'=>hn f (by simp) e'.symm] at hv
      rw[hm,hv,ih2 fun y hy=>hn y (by simp [hy])];omega
theorem Qdy.prod{p:List Int}{k:Nat}{fs:List FE}(h:Qdy (P p) k fs)(hp:Nrm p)(hd: ∀π,Irr π→va π (P p)<k):QfW fs=P p:=by
  obtain⟨b,hb,e⟩:=Qhq fs fun x hx=>(h.e x hx).n
  have :b=p:=hb.eq_va hp fun π hπ=>by
    have⟨h1,h2⟩:=Qph hπ fs h.e h.asc
    rw[e]
    rcases Nat.eq_zero_or_pos (va π (P p)) with h0|h0
    · rw[h2 fun f hf=>by have :=(h.e f hf).k1;omega,h0]
    · exact h1 (h.all π hπ h0 (hd π hπ))
  rw[←e,this]
theorem Qrq.sqf{p:QP}{f:FE}(h:Qrq p f):InI (P (zs f.l)) (der (P (zs f.l))) 1:=(Qav h.n.ne).2 fun π hπ=>by rw[h.v π hπ];split<;>omega
theorem Qrq.cop{p:QP}{f g:FE}(h:Qrq p f)(h':Qrq p g)(hk:f.k≠g.k):InI (P (zs f.l)) (P (zs g.l)) 1:=QdH.2 fun π hπ h1 h2=>by
  have a:=(XM hπ h.n.ne).1 h1
  have b:=(XM hπ h'.n.ne).1 h2
  rw[h.v π hπ] at a
  rw[h'.v π hπ] at b
  by_cases x:(va π p:Int)=f.k
  · by_cases y:(va π p:Int)=g.k
    · omega
    · rw[if_neg y] at b;omega
  · rw[if_neg x] at a;omega
def Dec(F:List Int)(u:Int)(fs:List FE):Prop:=(P F=0∧u=0∧fs=[])∨(P F≠0∧u=Yc F∧(∃k,Qdy (P (Xr F)) k fs)∧QfW fs=P (Xr F))
theorem Dec.each{F:List Int}{u:Int}{fs:List FE}(h:Dec F u fs): ∃p k,Qdy p k fs:=by
  rcases h with⟨_,_,h3⟩| ⟨_,_,⟨k,h⟩,_⟩
  · exact⟨1,1,by rw[h3];exact Qdy.nil⟩
  · exact⟨_,k,h⟩
end Go.Gx
namespace Go.Gx
open Go.RowKit
structure PE where
  A:Option Addr
  n:Nat
  c:Nat
  l:List RI
def PE.v(f:PE):Value:= .slice f.A f.n f.c
def Qd6(l:List PE):List Value:=l.map PE.v
theorem Qf4(l:List PE):(Qd6 l).length=l.length:=by simp [Qd6]
def Qsc(w:World)(S:Nat→Prop)(M:Nat)(l:List PE):Prop:= ∀f∈l,Yk w S f.A f.n f.c f.l M
def Yl(w:World)(S:Nat→Prop)(A:Option Addr)(n c:Nat)(l:List PE)(M:Nat):Prop:=Rd w S A n c 1 (Qd6 l)∧Qsc w S M l
section
variable{w w':World}{S S' G:Nat→Prop}{A:Option Addr}{n c M M':Nat}{l:List PE}
theorem Yl.frmB(h:Yl w S A n c l M)(f:Frm G w w')(hd: ∀b,b<w.heap.size→S b→ ¬G b):Yl w' S A n c l M:=⟨h.1.frmB f hd,fun x hx=>(h.2 x hx).frmB f hd⟩
theorem Yl.t(h:Yl w S A n c l M)(f:Frm G w w':=by exact zrd)(hd: ∀b,b<w.heap.size→S b→ ¬G b:=by exact zq6):Yl w' S A n c l M:=h.frmB f hd
theorem Yl.ext(h:Yl w S A n c l M)(f:Ext w w'):Yl w' S A n c l M:=⟨h.1.ext f,fun x hx=>(h.2 x hx).ext f⟩
theorem Yl.sub(h:Yl w S A n c l M)(hs: ∀b,b<w.heap.size→S b→S' b):Yl w S' A n c l M:=⟨h.1.sub hs,fun x hx=>(h.2 x hx).sub hs⟩
theorem Yl.low(h:Yl w S A n c l M):Yl w (· <w.heap.size) A n c l M:=h.sub fun _ hb _=>hb
theorem Yl.le(h:Yl w S A n c l M)(hm:M≤M'):Yl w S A n c l M':=⟨h.1,fun x hx=>(h.2 x hx).le hm⟩
theorem Yl.nil:Yl w S none 0 0 [] M:=⟨Rd.nil,fun f hf=>by cases hf⟩
theorem Yl.len(h:Yl w S A n c l M):l.length=n:=by have :=h.1.1;rw[Qf4] at this;omega
theorem Yl.base(h:Yl w S A n c l M)(hn:0<n): ∃b off,A=some ⟨b,off,none⟩:=h.1.base hn
theorem Yl.take{m:Nat}(h:Yl w S A n c l M)(hm:m≤n):Yl w S A m c (l.take m) M:=by
  refine⟨?_,fun x hx=>h.2 x (List.mem_of_mem_take hx)⟩
  have :=h.1.take hm
  rw[Nat.mul_one] at this
  unfold Qd6 at this⊢
  rw[List.map_take]
  exact this
theorem Yl.at_{b off i:Nat}(h:Yl w S (some ⟨b,off,none⟩) n c l M)(hi:i<n):
    ∃f,l[i]? =some f∧w.cell? ⟨b,off+i,none⟩=some (.slice f.A f.n f.c)∧Yk w S f.A f.n f.c f.l M∧S b∧b<w.heap.size:=by
  have hl:i<l.length:=by rw[h.len];exact hi
  obtain⟨b',off',e,hS,hb,_⟩:=h.1.2.2.2 (by omega)
  injection e with e
  injection e with e1 e2
  subst e1 e2
  obtain⟨r,hr⟩: ∃r,l[i]? =some r:=⟨_,List.getElem?_eq_getElem hl⟩
  have hc:(Qd6 l)[i]? =some (.slice r.A r.n r.c):=by simp [Qd6,hr,PE.v]
  exact⟨r,hr,h.1.cell hc,h.2 _ (List.mem_of_getElem? hr),hS,hb⟩
theorem Yl.two{g:Nat}{t:TypeId}{S1 S2:Nat→Prop}{A1 A2:Option Addr}{n1 c1 n2 c2 M1 M2:Nat}{l1 l2:List RI}(hb:Blk w g t [.slice A1 n1 c1,.slice A2 n2 c2])(h1:Yk w S1 A1 n1 c1 l1 M1)(h2:Yk w S2 A2 n2 c2 l2 M2)(m1:M1≤M)(m2:M2≤M):
    Yl w (fun _=>True) (some ⟨g,0,none⟩) 2 2 [⟨A1,n1,c1,l1⟩,⟨A2,n2,c2,l2⟩] M:=by
  refine⟨Rd.of_blk (cs:=Qd6 [⟨A1,n1,c1,l1⟩,⟨A2,n2,c2,l2⟩]) hb trivial rfl (by omega) (by decide),fun x hx=> ?_⟩
  simp at hx
  rcases hx with rfl|rfl
  · exact(h1.sub fun _ _ _=>trivial).le m1
  · exact(h2.sub fun _ _ _=>trivial).le m2
theorem Qsc.nil:Qsc w S M []:=fun f hf=>by cases hf
theorem Qsc.cons{S1:Nat→Prop}{A1:Option Addr}{n1 c1 M1:Nat}{l1:List RI}(h1:Yk w S1 A1 n1 c1 l1 M1)(hM:M1≤M)(h:Qsc w (fun _=>True) M l):Qsc w (fun _=>True) M (⟨A1,n1,c1,l1⟩::l):=fun f hf=>by
  rcases List.mem_cons.1 hf with h2|h2
  · subst h2;exact(h1.sub fun _ _ _=>trivial).le hM
  · exact h f h2
theorem Yl.lit{g:Nat}{t:TypeId}(hb:Blk w g t (Qd6 l))(ha:Qsc w (fun _=>True) M l)(hl:l.length=n)(hn:n≤Qax):Yl w (fun _=>True) (some ⟨g,0,none⟩) n n l M:=
  ⟨Rd.of_blk hb trivial (by rw[Qf4,hl,Nat.mul_one]) (Nat.le_refl _) hn,ha⟩
end
section
variable{P:Program}{n:Nat}{e:Nat→Value}{w:World}{ty:TypeId}{pos:String}{af:Array Edge}{gd:Option (Nat×Bool)}
end
end Go.Gx
namespace Go.Gx
open Go.RowKit
theorem Yk.one{w:World}{S S':Nat→Prop}{g:Nat}{t:TypeId}{b:Bool}{A:Option Addr}{n c M:Nat}{d:List Nat}(hb:Blk w g t [.bool b,.slice A n c])(h:Qay w S A n c d)(hS: ∀b,b<w.heap.size→S b→S' b)(hg:S' g)(hM:n≤M):Yk w S' (some ⟨g,0,none⟩) 1 1 [⟨b,A,n,c,d⟩] M:=
  Yk.of_blk (l:=[⟨b,A,n,c,d⟩]) hb (fun r hr=>by simp at hr;subst hr;exact⟨h.sub hS,hM⟩) hg rfl (Nat.le_refl _) (by decide)
theorem Qhp{p:Nat}{n:Nat}:Xa (Zk (Xa [(p:Int)]) n)=Xa (Zk [(p:Int)] n):=YP fun i=>Qci (fun j=>Xo _ j) n i
def Qba(p:List Int)(gs:List (List Int)):List Int:=gs.foldl (fun p g=>Xa (Xg p g)) p
def Qaw(m:Nat)(x:List Int×List Int)(y:List Int×List Int):List Int×List Int:=
  (Zg m (Xa (Xx (Xa (Xg x.1 y.1)) (Xa (Xg y.2 x.2)))),Zg m (Xa (Xg x.2 y.1)))
def QfM(m:Nat)(gs ss:List (List Int)):List Int×List Int:=(gs.zip ss).foldl (Qaw m) ([],Xa [1])
def QcO(R G:List Int)(n k:Nat)(c:Int):List Int:=(List.range R.length).map fun t=>if n≤t∧t -n<k then co R t -c*co G (t -n) else co R t
theorem Qb4{R G:List Int}{n k:Nat}{c:Int}:(QcO R G n k c).length=R.length:=by simp [QcO]
theorem Qc0{R G:List Int}{n k:Nat}{c:Int}{t:Nat}(h:t<R.length):co (QcO R G n k c) t=if n≤t∧t -n<k then co R t -c*co G (t -n) else co R t:=by
  simp only[QcO]
  rw[ZA,if_pos h]
theorem Qrv{a b:List Int}(hl:a.length=b.length)(h: ∀i,i<a.length→co a i=co b i):a=b:=by
  apply List.ext_getElem hl
  intro i h1 h2
  have :=h i h1
  simpa [co,List.getD,List.getElem?_eq_getElem h1,List.getElem?_eq_getElem h2] using this
theorem Qmh{R G:List Int}{n:Nat}{c:Int}:R=QcO R G n 0 c:=by
  refine Qrv Qb4.symm fun t ht=> ?_
  rw[Qc0 ht,if_neg (by omega)]
theorem Qmg{R G L:List Int}{n k:Nat}{c v:Int}(h:L=QcO R G n k c)(hk:n+k<R.length)(hv:v=co L (n+k) -c*co G k):L.set (n+k) v=QcO R G n (k+1) c:=by
  have hl:L.length=R.length:=by rw[h,Qb4]
  refine Qrv (by simp [hl,Qb4]) fun t ht=> ?_
  simp only[List.length_set] at ht
  rw[QcB (by omega),Qc0 (by omega)]
  by_cases hi:t=n+k
  · subst hi
    rw[if_pos rfl,if_pos (by omega),hv,h,Qc0 hk,if_neg (by omega),show n+k -n=k by omega]
  · rw[if_neg hi,h,Qc0 (by omega)]
    by_cases h1:n≤t∧t -n<k
    · rw[if_pos h1,if_pos (by omega)]
    · rw[if_neg h1,if_neg (by omega)]
def Qb1(m:Nat)(G:List Int)(d:Nat):Nat→List Int→List Int
  |0,R=>R
  |n+1,R=>Qb1 m G d n (if YY m (co R (n+d))=0 then R else QcO R G n d (YY m (co R (n+d))))
def QfL(m:Nat)(F G:List Int):List Int:=
  Zg m ((Qb1 m G ((Xa G).length -1) ((Zg m F).length -((Xa G).length -1)) (Zg m F)).take (min (Zg m F).length ((Xa G).length -1)))
theorem QoH{m n u d:Nat}{G R X:List Int}(h:Qb1 m G d n R=X)(hn:n=u -1 -d+1)(hu:d<u)(h0:YY m (co R (u -1))=0):Qb1 m G d (u -1 -d) R=X:=by
  subst hn
  rw[Qb1,show u -1 -d+d=u -1 by omega,if_pos h0] at h
  exact h
theorem QqX{m n u d j:Nat}{G R L X:List Int}{c:Int}(h:Qb1 m G d n R=X)(hn:n=u -1 -d+1)(hu:d<u)(hc:c=YY m (co R (u -1)))(h0:c≠0)(hL:L=QcO R G (u -1 -d) j c)(hj:j=d):Qb1 m G d (u -1 -d) L=X:=by
  subst hn hj hL hc
  rw[Qb1,show u -1 -j+j=u -1 by omega,if_neg h0] at h
  exact h
theorem QqW{m n d N:Nat}{F G R0 R r:List Int}(hd:(Xa G).length=d+1)(h0:R0=Zg m F)(hN:R0.length=N)(h:Qb1 m G d n R=Qb1 m G d (N -d) R0)(hn:n=0)(hr:r=Zg m (R.take (min N d))):r=QfL m F G:=by
  subst hn h0 hN
  unfold QfL
  rw[hd,Nat.add_sub_cancel,←h,hr]
  rfl
end Go.Gx
namespace Go.Gx
def QlZ(m:Nat)(x:Int)(f:List Int)(lead:Int)(prod:List Int):List Int:=Zg m (Xa (Xf (Zg m (Xa (XD f (Xa (Xf prod lead))))) x))
def QhP(m:Nat)(ms g s:List Int):List Int:=Zg m (Xa (Xx g (QfL m (Xa (Xg s ms)) g)))
def exZ(m:Nat)(one:List Int):List Int:=Zg m (Xa (XD one (Xa [1])))
def QkN(m:Nat)(ex s g:List Int):List Int:=Zg m (Xa (XD s (QfL m (Xa (Xg s ex)) g)))
def step0(m:Nat)(x:Int)(f:List Int)(gs ss:List (List Int)):List (List Int):=(gs.zip ss).map fun p=>QhP m (QlZ m x f (ldP f) (QfM m gs ss).2) p.1 p.2
def step1(m:Nat)(x:Int)(f:List Int)(gs ss:List (List Int)):List (List Int):=(ss.zip (step0 m x f gs ss)).map fun p=>QkN m (exZ m (QfM m (step0 m x f gs ss) ss).1) p.1 p.2
end Go.Gx
namespace Go.Gx
def QfU(f:List Int)(L:List (List Int)):Prop:=Xa f=Xa (Qba [ldP f] L)
instance(f:List Int)(L:List (List Int)):Decidable (QfU f L):=by unfold QfU;infer_instance
def Ql0(p:Nat)(l:List (List Nat)):List (List Nat):=l.map fun d=>XS p (XO p d)
def QcM(p:Nat)(a:List Nat)(l:List (List Nat)):List Nat:=l.foldl (Qau p) a
def Qut(p:Nat)(f:List Int)(ml:List (List Nat)):Prop:=md p (ldP f)=0∨XO p (QcM p [md p (ldP f)] ml)≠XO p (XR p f)
def Qae(p:Nat)(l:List (List Nat)):List (List Int):=l.map fun d=>Xa (d.map (QdX p))
inductive LReach (p k:Nat) (f:List Int) (A0 A1:List (List Int)):List (List Int)→List (List Int)→Nat→Prop
  |start:LReach p k f A0 A1 A0 A1 1
  |next {L0 L1:List (List Int)} {e:Nat} {x K:Int} (h:LReach p k f A0 A1 L0 L1 e) (he:e<k) (hn: ¬QfU f L0) (hx:x*ldP f=1+((p^ (e+min e (k -e)):Nat):Int)*K) (hs:x=YY (p^ (e+min e (k -e))) x):
      LReach p k f A0 A1 (step0 (p^ (e+min e (k -e))) x f L0 L1) (step1 (p^ (e+min e (k -e))) x f L0 L1) (e+min e (k -e))
theorem QgU{p n:Nat}{a:Int}(hp:Xk p)(h:md p a≠0):Int.gcd a ((p^n:Nat):Int)=1:=by
  have h0:0<p:=by have :=hp.1;omega
  have hm:(md p a:Nat)<p:=Qej h0 a
  have h1:Nat.gcd (md p a) p=1:=hp.2 _ (by omega) hm
  have h2:Int.gcd a p=1:=by
    obtain⟨k,hk⟩:=QlX h0 a
    obtain⟨u,v,huv⟩:=bez (md p a) p
    rw[h1] at huv
    have e1:u*a+(v -u*k)*p=1:=by rw[hk];grind
    have h3:((Int.gcd a p:Nat):Int)∣1:=by
      rw[←e1]
      exact Int.dvd_add (Int.dvd_mul_of_dvd_right (Int.gcd_dvd_left ..)) (Int.dvd_mul_of_dvd_right (Int.gcd_dvd_right ..))
    have h4:(Int.gcd a p)∣1:=by exact_mod_cast h3
    exact Nat.dvd_one.1 h4
  rw[Int.gcd] at h2⊢
  rw[Int.natAbs_natCast] at h2⊢
  exact Nat.Coprime.pow_right n h2
theorem Qup{p e:Nat}{u:Int}(h:u=((p^e:Nat):Int)):u.natAbs=p^e:=by rw[h,Int.natAbs_natCast]
def GC(p:Nat)(f g:List Nat):Prop:=(XN p (XO p f) (XO p g)).length≤1
def CoA(p:Nat)(l:List (List Nat)):Prop:= ∀(i j:Nat)(f g:List Nat),j<i→l[i]? =some f→l[j]? =some g→GC p f g
end Go.Gx
