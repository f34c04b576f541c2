/-
  SepMath, FacThy3, FacWalk, BasisMath
-/
import Derived.Test.YtjdpemcnlejpfaaGreatDoorLiftThy5
import Derived.Test.YtjdpemcnlejpfaaGreatDoorNatMath
import Derived.Test.YtjdpemcnlejpfaaGreatDoorGcdMath
set_option linter.all false
namespace Go.Gx
variable{p d:Nat}{F:List Int}
theorem QmR(hp:Xk p)(a:Int):CgV (p:Int) (Yx [a] p) [a]:=by
  have h2:=hp.1
  obtain⟨k,hk⟩: ∃k:Nat,(p:Int)∣a -k:=⟨md p a,by obtain⟨z,hz⟩:=QlX (p:=p) (by omega) a;exact⟨z,by omega⟩⟩
  obtain⟨z,hz⟩:=hk
  obtain⟨y,hy⟩:=Qqi hp k
  obtain⟨h,e⟩:=Qu6 hp [(k:Int)] [(p:Int)*z]
  refine⟨Xx (Xx [y] h) [(p:Int)^ (p -1)*z^p -z],fun x=> ?_⟩
  have e:=e x
  obtain⟨n,rfl⟩: ∃n,p=n+1:=⟨p -1,by omega⟩
  simp only[Xl,Xd,Xj,Nat.add_sub_cancel,Int.mul_pow] at *
  rw[show a=(k:Int)+((n+1:Nat):Int)*z by omega,e,Int.pow_succ ((n+1:Nat):Int) n]
  grind
theorem Qkc(hp:Xk p)(a:Int): ∀i,EqF p F (cj p [a] i) [a]
  |0=>EqF.refl _
  |i+1=>((Qkc hp a i).pow p).trans (EqF.cg (QmR hp a))
theorem QmF(a b:List Int)(x:Int): ∀i,evI (cj p (Xg a b) i) x=evI (cj p a i) x*evI (cj p b i) x
  |0=>Xc a b x
  |i+1=>by simp only[cj,Xl,QmF a b x i,Int.mul_pow]
theorem Qmy(hp:Xk p)(h:EqF p F (cj p [0,1] d) [0,1]): ∀t:List Int,EqF p F (cj p t d) t
  | []=>EqF.ev fun x=>by rw[QeQ (by have :=hp.1;omega)];rfl
  |a::t=>by
    have e: ∀x,evI (a::t) x=evI (Xx [a] (Xg [0,1] t)) x:=fun x=>by rw[Xd,Xc];simp [evI]
    refine((EqF.ev e).cj d).trans ((QmE hp [a] (Xg [0,1] t) d).trans (((Qkc hp a d).add ?_).trans (EqF.ev fun x=>(e x).symm)))
    exact(EqF.ev fun x=>(QmF (p:=p) [0,1] t x d).trans (Xc _ _ x).symm).trans (h.mul (Qmy hp h t))
theorem QiB(a b:List Int)(x:Int): ∀n,evI (Yu p (Xg a b) n) x=evI (Yu p a n) x*evI (Yu p b n) x
  |0=>by simp [Yu,Xj]
  |n+1=>by simp only[Yu,Xc,QiB a b x n,QmF];grind
theorem QiD(t:List Int)(x:Int): ∀n,evI (Yx (Yu p t n) p) x*evI t x=evI (Yu p t n) x*evI (cj p t n) x
  |0=>by simp only[Yu,cj,Xl,Xj,Int.one_pow]
  |n+1=>by
    have h:=QiD t x n
    simp only[Yu,cj,Xl,Xc,Int.mul_pow] at *
    grind
theorem QpT{f:List Nat}(hp:Xk p)(hf:Zw p f)(hw:Whole p f){c:List Int}(h:Cop (p:Int) (zl f) c)(n:Nat):Cop (p:Int) (zl f) (Yx c n):=by
  rcases Qp0 hp hf hw (Yx c n) with h1|h1
  · exact h1
  · exact absurd (Qe0 h (QdI hp hf hw c n h1)) (YJ hp.1 hf)
theorem Qry{f:List Nat}(hp:Xk p)(hf:Zw p f)(hw:Whole p f){c:List Int}(h:Cop (p:Int) (zl f) c): ∀i,Cop (p:Int) (zl f) (cj p c i)
  |0=>h
  |i+1=>QpT hp hf hw (Qry hp hf hw h i) p
theorem QhZ{f:List Nat}(hp:Xk p)(hf:Zw p f)(hw:Whole p f){c:List Int}(h:Cop (p:Int) (zl f) c): ∀n,Cop (p:Int) (zl f) (Yu p c n)
  |0=>⟨[],[1],CgV.eqv fun x=>by simp only[Yu,Xd,Xc,Xj,evI];omega⟩
  |n+1=>(QhZ hp hf hw h n).mul (Qry hp hf hw h n)
theorem QjT{f:List Nat}(hp:Xk p)(h2:p≠2)(hf:Zw p f)(hw:Whole p f)(hx:EqF p (zl f) (cj p [0,1] d) [0,1]){t:List Int}(ht:Cop (p:Int) (zl f) t):
    EqF p (zl f) (Yx (Yu p t d) ((p -1)/2)) [1]∨EqF p (zl f) (Yx (Yu p t d) ((p -1)/2)) [-1]:=by
  have hp2:=hp.1
  have hodd:p % 2=1:=by
    have h3:=hp.2 2 (by omega) (by omega)
    rcases Nat.mod_two_eq_zero_or_one p with h|h
    · exfalso
      have :2∣Nat.gcd 2 p:=Nat.dvd_gcd (Nat.dvd_refl 2) (Nat.dvd_of_mod_eq_zero h)
      rw[h3] at this;omega
    · exact h
  have hN:=QhZ hp hf hw ht d
  have h1:Dv (p:Int) (zl f) (XD (Yx (Yu p t d) p) (Yu p t d)):=by
    refine ZB ht (EqF.dv ?_)
    refine(EqF.ev fun x=> ?_:EqF p (zl f) _ (XD (Xg (Yu p t d) (cj p t d)) (Xg (Yu p t d) t))).trans ((((EqF.refl _).mul (Qmy hp hx t)).sub (EqF.refl _)).trans (EqF.ev fun x=>by simp only[Xh,Xc,evI];omega))
    have h:=QiD (p:=p) t x d
    simp only[Xh,Xc] at *
    grind
  have h3:Dv (p:Int) (zl f) (XD (Yx (Yu p t d) (p -1)) [1]):=by
    refine ZB hN (h1.cg (CgV.eqv fun x=> ?_))
    obtain⟨n,rfl⟩: ∃n,p=n+1:=⟨p -1,by omega⟩
    simp only[Xh,Xc,Xl,Xj,Nat.add_sub_cancel,Int.pow_succ]
    grind
  have h4:Dv (p:Int) (zl f) (Xg (XD (Yx (Yu p t d) ((p -1)/2)) [1]) (Xx (Yx (Yu p t d) ((p -1)/2)) [1])):=by
    refine h3.cg (CgV.eqv fun x=> ?_)
    obtain⟨e,he⟩: ∃e,p -1=e+e:=⟨(p -1)/2,by omega⟩
    have he2:(p -1)/2=e:=by omega
    rw[he2,he]
    simp only[Xh,Xd,Xc,Xl,Xj,Int.pow_add]
    grind
  rcases Qp0 hp hf hw (XD (Yx (Yu p t d) ((p -1)/2)) [1]) with h5|h5
  · right
    have h6:=ZB h5 h4
    exact((EqF.ev fun x=>by simp only[Xh,Xd,Xj];omega:EqF p (zl f) _ (XD (Xx (Yx (Yu p t d) ((p -1)/2)) [1]) [1])).trans ((EqF.of_dv h6).sub (EqF.refl [1]))).trans (EqF.ev fun x=>by simp only[Xh,evI];omega)
  · exact .inl (EqF.sub_of (EqF.of_dv h5))
theorem ZE(hp:Xk p): ∀(n:Nat)(f:List Nat),f.length≤n→Zw p f→ ∃G,Zw p G∧Whole p G∧Dv (p:Int) (zl G) (zl f)
  |0,f,h,hf=>absurd hf.pos (by omega)
  |n+1,f,h,hf=>by
    rcases Classical.em (Whole p f) with hw|hw
    · exact⟨f,hf,hw,Dv.self _⟩
    · obtain⟨G,w,hG,hlt,hw⟩:=QbX hp.1 hf hw
      obtain⟨H,h1,h2,h3⟩:=ZE hp n G (by omega) hG
      exact⟨H,h1,h2,h3.trans ⟨w,hw⟩⟩
structure EdW (p d:Nat) (f:List Nat):Prop where
  mon:Zw p f
  sq:Cop (p:Int) (zl f) (Xn (zl f))
  fix:EqF p (zl f) (cj p [0,1] d) [0,1]
  low: ∀k,1≤k→k<d→Cop (p:Int) (XD (cj p [0,1] k) [0,1]) (zl f)
theorem EdW.deg{f G:List Nat}(hp:Xk p)(hd:1≤d)(h:EdW p d f)(hG:Zw p G)(hw:Whole p G)(hdv:Dv (p:Int) (zl G) (zl f)):G.length=d+1:=by
  have h1:=QfI hp hG hw hd (h.fix.low hdv)
  have hpos:=hG.pos
  rcases Nat.lt_or_ge (G.length -1) d with h2|h2
  · exfalso
    have h3:=(Qi1 hp hG hw).dvs
    have h4:=QbB (h.low (G.length -1) (by omega) h2) hdv
    obtain⟨s,t,k,hk⟩:=h4
    refine YJ hp.1 hG (Qe0 (a:=XD (cj p [0,1] (G.length -1)) [0,1]) ⟨t,s,k,fun x=> ?_⟩ h3)
    have :=hk x
    simp only[Xd,Xc] at *
    grind
  · omega
theorem QoC{f g1 g2 s:List Nat}(hp:Xk p)(hf:Zw p f)(hs:XE p s)(hg1:Zw p g1)(e1:Dv (p:Int) (zl g1) (zl f))(e2:Dv (p:Int) (zl g2) (zl f))(z:Dv (p:Int) (zl g1) (zl s))(nz: ¬Dv (p:Int) (zl g2) (zl s)):
    2≤(XN p s f).length∧(XN p s f).length<f.length:=by
  have hpos:=hf.pos
  have hl:0<s.length+f.length:=by omega
  obtain⟨d1,d2⟩:=QbS hp f.length s f hs hf.can (Nat.le_refl _) hl
  change Dv (p:Int) (zl (XN p s f)) (zl s) at d1
  change Dv (p:Int) (zl (XN p s f)) (zl f) at d2
  have h2:2≤(XN p s f).length:=by
    rcases Nat.lt_or_ge 1 (XN p s f).length with h2|h2
    · exact h2
    · exfalso
      obtain⟨u,v,hu⟩:=ZC hp hs hf.can hl h2
      have h3:EqF p (zl g1) [1] []:=(EqF.cg hu.symm).trans ((((EqF.refl u).mul (EqF.of_dv z)).add ((EqF.refl v).mul (EqF.of_dv e1))).trans (EqF.ev fun x=>by simp only[Xd,Xc,evI];omega))
      exact YJ hp.1 hg1 (EqF.dv h3)
  have hD:=Qac hp hs hf.can hl h2
  refine⟨h2,?_⟩
  have h3:=Qa1 hp.1 hD.mz hf.mz d2
  rcases Nat.lt_or_ge (XN p s f).length f.length with h4|h4
  · exact h4
  · have hle:(XN p s f).length=f.length:=by omega
    have he:=Qg2 hf.mz (by rw[←hle];exact hD.mz) d2
    exact absurd ((e2.cg he.symm).trans d1) nz
theorem QjS{g:List Nat}{t:List Int}(h:EqF p (zl g) (Yx (Yu p t d) ((p -1)/2)) [1]):EqF p (zl g) (QoP p t d) []:=
  (h.sub (EqF.refl [1])).trans (EqF.ev fun x=>by simp only[Xh,evI];omega)
theorem QoS{g s:List Nat}{t:List Int}(hp:Xk p)(h2:p≠2)(hg:Zw p g)(h:EqF p (zl g) (Yx (Yu p t d) ((p -1)/2)) [-1])(hs:EqF p (zl g) (zl s) (QoP p t d)): ¬Dv (p:Int) (zl g) (zl s):=fun hd=>by
  have hp2:=hp.1
  have h1:EqF p (zl g) [-2] []:=((EqF.ev fun x=>by simp only[Xh,Xj];omega:EqF p (zl g) [-2] (XD [-1] [1])).trans (h.symm.sub (EqF.refl [1]))).trans (hs.symm.trans (EqF.of_dv hd))
  obtain⟨k,hk⟩:=Qes hg (EqF.dv h1)
  rcases Int.lt_trichotomy k 0 with hk0|hk0|hk0
  · have :(p:Int)*k≤(p:Int)*(-1):=Int.mul_le_mul_of_nonneg_left (by omega) (by omega)
    omega
  · subst hk0;omega
  · have :(p:Int)*0≤(p:Int)*k:=Int.mul_le_mul_of_nonneg_left (by omega) (by omega)
    omega
theorem QtN{g s:List Nat}{t:List Int}(hp:Xk p)(h2:p≠2)(hd:1≤d)(hg:Zw p g)(h:EqF p (zl g) t [])(hs:EqF p (zl g) (zl s) (QoP p t d)): ¬Dv (p:Int) (zl g) (zl s):=fun hv=>by
  have hp2:=hp.1
  have h1:EqF p (zl g) [-1] []:=(EqF.ev fun x=>by rw[QoQ (by omega) hd,Xj]:EqF p (zl g) [-1] (QoP p [] d)).trans ((h.symm.sepO d).trans (hs.symm.trans (EqF.of_dv hv)))
  obtain⟨k,hk⟩:=Qes hg (EqF.dv h1)
  rcases Int.lt_trichotomy k 0 with hk0|hk0|hk0
  · have :(p:Int)*k≤(p:Int)*(-1):=Int.mul_le_mul_of_nonneg_left (by omega) (by omega)
    omega
  · subst hk0;omega
  · have :(p:Int)*0≤(p:Int)*k:=Int.mul_le_mul_of_nonneg_left (by omega) (by omega)
    omega
theorem EdW.two{f:List Nat}(hp:Xk p)(hd:1≤d)(h:EdW p d f)(hn: ¬Whole p f): ∃g1 g2:List Nat,Zw p g1∧Whole p g1∧Zw p g2∧Whole p g2∧Dv (p:Int) (zl g1) (zl f)∧Dv (p:Int) (zl g2) (zl f)∧
    Cop (p:Int) (zl g1) (zl g2)∧g1.length=d+1∧g2.length=d+1:=by
  obtain⟨G,w,hG,hlt,hw⟩:=QbX hp.1 h.mon hn
  obtain⟨g1,m1,w1,e1⟩:=ZE hp _ G (Nat.le_refl _) hG
  have e1f:Dv (p:Int) (zl g1) (zl f):=e1.trans ⟨w,hw⟩
  rcases hq:XH p f g1 with⟨q,r⟩
  obtain⟨k1,k2,k3⟩:=QaM hp h.mon.mn m1 e1f hq
  have l1:=Qa1 hp.1 m1.mz hG.mz e1
  have a1:=m1.pos;have a2:=hG.pos
  have mq:=k1.monN (by omega)
  obtain⟨g2,m2,w2,e2⟩:=ZE hp _ q (Nat.le_refl _) mq
  have k4:=k2.trans (CgV.comm (zl q) (zl g1))
  have e2f:Dv (p:Int) (zl g2) (zl f):=e2.trans ⟨zl g1,k4⟩
  exact⟨g1,g2,m1,w1,m2,w2,e1f,e2f,QbB (QhE h.sq k4) e2,h.deg hp hd m1 w1 e1f,h.deg hp hd m2 w2 e2f⟩
theorem Qfu(a:Int): ∀i,∃V:Int,∀x,evI (Yu p [a] i) x=V∧ ∃U:Int,∀x,evI (cj p [a] i) x=U
  |0=>⟨1,fun x=>⟨Xj 1 x,a,fun x=>Xj a x⟩⟩
  |i+1=>by
    obtain⟨V,hV⟩:=Qfu a i
    obtain⟨_,U,hU⟩:=hV 0
    exact⟨V*U,fun x=>⟨by rw[Yu,Xc,(hV x).1,hU],U^p,fun x=>by rw[cj,Xl,hU]⟩⟩
theorem QoR{g1 g2 t:List Nat}(hp:Xk p)(h2:p≠2)(m1:Zw p g1)(m2:Zw p g2)(ht:t.length≤1)
    (A:EqF p (zl g1) (Yx (Yu p (zl t) d) ((p -1)/2)) [1])(B:EqF p (zl g2) (Yx (Yu p (zl t) d) ((p -1)/2)) [-1]):False:=by
  have hp2:=hp.1
  have e: ∀x,evI (zl t) x=evI [((t.getD 0 0:Nat):Int)] x:=fun x=>by
    match t,ht with
    | [],_=>simp [zl,evI]
    | [a],_=>simp [zl]
    |_::_::_,h=>simp at h
  obtain⟨V,hV⟩:=Qfu (p:=p) ((t.getD 0 0:Nat):Int) d
  have ev: ∀F:List Int,EqF p F (Yx (Yu p (zl t) d) ((p -1)/2)) [V^ ((p -1)/2)]:=fun F=>(((EqF.ev e).prodJ d).pow _).trans (EqF.ev fun x=>by rw[Xl,(hV x).1,Xj])
  obtain⟨k,hk⟩:=Qes m1 (EqF.dv ((EqF.ev fun x=>by simp only[Xh,Xj]:EqF p (zl g1) [V^ ((p -1)/2) -1] (XD [V^ ((p -1)/2)] [1])).trans ((((ev _).symm.trans A).sub (EqF.refl [1])).trans (EqF.ev fun x=>by simp only[Xh,evI];omega))))
  obtain⟨l,hl⟩:=Qes m2 (EqF.dv ((EqF.ev fun x=>by simp only[Xh,Xj];omega:EqF p (zl g2) [V^ ((p -1)/2)+1] (XD [V^ ((p -1)/2)] [-1])).trans ((((ev _).symm.trans B).sub (EqF.refl [-1])).trans (EqF.ev fun x=>by simp only[Xh,evI];omega))))
  have h3:(p:Int)*(l -k)=2:=by rw[Int.mul_sub];omega
  rcases Int.lt_trichotomy (l -k) 0 with hk0|hk0|hk0
  · have :(p:Int)*(l -k)≤(p:Int)*(-1):=Int.mul_le_mul_of_nonneg_left (by omega) (by omega)
    omega
  · rw[hk0] at h3;omega
  · have :(p:Int)*1≤(p:Int)*(l -k):=Int.mul_le_mul_of_nonneg_left (by omega) (by omega)
    omega
def QwZ(p d:Nat)(f t:List Nat):Prop:=XE p t∧2≤t.length∧t.length≤d+1∧ ∀s,XE p s→EqF p (zl f) (zl s) (QoP p (zl t) d)→2≤(XN p s f).length∧(XN p s f).length<f.length
theorem Qhz{f g1 g2 t:List Nat}(hp:Xk p)(h2:p≠2)(hf:Zw p f)(m1:Zw p g1)(m2:Zw p g2)(e1:Dv (p:Int) (zl g1) (zl f))(e2:Dv (p:Int) (zl g2) (zl f))(hc:XE p t)(hl:t.length≤d+1)
    (A:EqF p (zl g1) (Yx (Yu p (zl t) d) ((p -1)/2)) [1])(B:EqF p (zl g2) (Yx (Yu p (zl t) d) ((p -1)/2)) [-1]):QwZ p d f t:=by
  refine⟨hc,?_,hl,fun s hs he=>QoC hp hf hs m1 e1 e2 (EqF.dv ((he.low e1).trans (QjS A))) (QoS hp h2 m2 B (he.low e2))⟩
  rcases Nat.lt_or_ge 1 t.length with h|h
  · exact h
  · exact(QoR hp h2 m1 m2 h A B).elim
theorem Zh(l:List Nat):(YK l).length≤l.length:=by
  exact QaV _ l
theorem Qdj(f g:List Int):(Xx f g).length=max f.length g.length:=by simp [Xx]
theorem QtO{f:List Nat}(hp:Xk p)(h2:p≠2)(hd:1≤d)(h:EdW p d f)(hn: ¬Whole p f): ∃t,QwZ p d f t:=by
  have hp2:=hp.1
  have hp0:0<p:=by omega
  obtain⟨g1,g2,m1,w1,m2,w2,e1,e2,c12,l1,l2⟩:=h.two hp hd hn
  rcases QjT hp h2 m1 w1 (h.fix.low e1) c12 with hA|hB
  · exact⟨g2,m2.can,by omega,by omega,fun s hs he=>QoC hp h.mon hs m1 e1 e2 (EqF.dv ((he.low e1).trans (QjS hA))) (QtN hp h2 hd m2 (EqF.of_dv (Dv.self _)) (he.low e2))⟩
  have cY:Cop (p:Int) (zl g1) (XD (zl g2) [1]):=by
    rcases Qp0 hp m1 w1 (XD (zl g2) [1]) with h3|h3
    · exact h3
    · exfalso
      have h4:EqF p (zl g1) (zl g2) [1]:=EqF.sub_of (EqF.of_dv h3)
      have h5:EqF p (zl g1) (Yx (Yu p (zl g2) d) ((p -1)/2)) [1]:=((h4.prodJ d).pow _).trans (EqF.ev fun x=>by rw[Xl,QiC,Int.one_pow,Xj])
      exact QoS (s:=[]) hp h2 m1 hB (QjS h5).symm (EqF.dv (EqF.refl _))
  obtain⟨u,v,k,hk⟩:=cY
  obtain⟨r,hrc,hrl,hre⟩:=QoI hp m1 (Xg v (zl g2))
  have hrg:EqF p (zl g1) (Xg (zl r) (XD (zl g2) [1])) (zl g2):=by
    refine(hre.mul (EqF.refl _)).trans ⟨Xf (Xg u (zl g2)) (-1),Xg k (zl g2),fun x=> ?_⟩
    have :=hk x
    simp only[Xd,Xc,Xh,Xm,Xj] at *
    have h3:(evI u x*evI (zl g1) x+evI v x*(evI (zl g2) x -1))*evI (zl g2) x=(1+p*evI k x)*evI (zl g2) x:=by rw[this]
    grind
  have cr1:Cop (p:Int) (zl g1) (zl r):=by
    rcases Qp0 hp m1 w1 (zl r) with h3|h3
    · exact h3
    · exfalso
      have h4:EqF p (zl g1) (zl g2) []:=hrg.symm.trans (((EqF.of_dv h3).mul (EqF.refl _)).trans (EqF.ev fun x=>by simp only[Xc,evI];omega))
      exact YJ hp2 m1 (Qe0 c12 (EqF.dv h4))
  have cr2:Cop (p:Int) (zl g2) (zl r):=by
    rcases Qp0 hp m2 w2 (zl r) with h3| ⟨w,hw⟩
    · exact h3
    · exfalso
      have hz:CgV (p:Int) w []:=YM m2.mz ((CgV.comm (zl g2) w).trans hw.symm) fun i hi=>by
        rw[XX (by rw[Zl];omega)];exact⟨0,by simp⟩
      exact YJ hp2 m1 (Qe0 cr1 (EqF.dv (EqF.cg (hw.trans (CgV.nil_mul hz)))))
  have t2c:=XK hp0 (Xx (zl r) (zl g2))
  have t2e:=YW hp0 (Xx (zl r) (zl g2))
  have t2l:(XR p (Xx (zl r) (zl g2))).length≤d+1:=by
    refine Nat.le_trans (Zh _) ?_
    rw[List.length_map,Qdj,Zl,Zl];omega
  have v1:=QjT hp h2 m1 w1 (h.fix.low e1) cr1
  have v2:=QjT hp h2 m2 w2 (h.fix.low e2) cr2
  have s2:EqF p (zl g2) (Yx (Yu p (zl (XR p (Xx (zl r) (zl g2)))) d) ((p -1)/2)) (Yx (Yu p (zl r) d) ((p -1)/2)):=by
    refine(EqF.prodJ ?_ d).pow _
    exact(EqF.cg t2e).trans (((EqF.refl (zl r)).add (EqF.of_dv (Dv.self _))).trans (EqF.ev fun x=>by simp only[Xd,evI];omega))
  have s1:EqF p (zl g1) (Yx (Yu p (zl (XR p (Xx (zl r) (zl g2)))) d) ((p -1)/2)) (Xg (Yx (Yu p (zl r) d) ((p -1)/2)) [-1]):=by
    have h3:EqF p (zl g1) (zl (XR p (Xx (zl r) (zl g2)))) (Xg (zl r) (zl g2)):=
      (EqF.cg t2e).trans (((EqF.refl (zl r)).add hrg.symm).trans (EqF.ev fun x=>by simp only[Xd,Xc,Xh,Xj];grind))
    refine(((h3.prodJ d).pow _).trans (EqF.ev fun x=> ?_)).trans ((EqF.refl _).mul hB)
    rw[Xl,Xc,Xl,Xl,←Int.mul_pow,QiB]
  rcases v1 with v1|v1<;>rcases v2 with v2|v2
  · exact⟨_,Qhz hp h2 h.mon m2 m1 e2 e1 t2c t2l (s2.trans v2) (s1.trans ((v1.mul (EqF.refl _)).trans (EqF.ev fun x=>by simp only[Xc,Xj];omega)))⟩
  · exact⟨_,Qhz hp h2 h.mon m1 m2 e1 e2 hrc (by omega) v1 v2⟩
  · exact⟨_,Qhz hp h2 h.mon m2 m1 e2 e1 hrc (by omega) v2 v1⟩
  · exact⟨_,Qhz hp h2 h.mon m1 m2 e1 e2 t2c t2l (s1.trans ((v1.mul (EqF.refl _)).trans (EqF.ev fun x=>by simp only[Xc,Xj];omega))) (s2.trans v2)⟩
def sgN(c s:Nat→List Int)(m:Nat):Nat→List Int
  |0=>[]
  |n+1=>Xx (sgN c s m n) (Xg (c n) (Yx (s n) m))
theorem Qla(c s:Nat→List Int)(t:List Int)(m:Nat)(x:Int): ∀n,evI (sgN (fun i=>Xg (c i) (XD (s i) t)) s m n) x=evI (sgN c s (m+1) n) x -evI t x*evI (sgN c s m n) x
  |0=>by simp only[sgN,evI];omega
  |n+1=>by
    have h:=Qla c s t m x n
    simp only[sgN,Xd,Xc,Xh,Xl] at *
    rw[h,Int.pow_succ];grind
theorem Qvf{p:Nat}{F:List Int}(s:Nat→List Int): ∀(n:Nat)(c:Nat→List Int),(∀m,EqF p F (sgN c s m (n+1)) [])→(∀i,1≤i→i≤n→Cop (p:Int) F (XD (s 0) (s i)))→EqF p F (c 0) []
  |0,c,h,_=>(EqF.ev fun x=>by simp only[sgN,Xd,Xc,Xl,evI];grind).trans (h 0)
  |n+1,c,h,hc=>by
    have h1: ∀m,EqF p F (sgN (fun i=>Xg (c i) (XD (s i) (s (n+1)))) s m (n+1)) []:=fun m=>by
      refine(EqF.ev fun x=> ?_).trans (((h (m+1)).sub ((EqF.refl (s (n+1))).mul (h m))).trans (EqF.ev fun x=>by simp only[Xh,Xc,evI];omega))
      have e: ∀m,evI (sgN c s m (n+1+1)) x=evI (sgN c s m (n+1)) x+evI (c (n+1)) x*evI (s (n+1)) x^m:=fun m=>by rw[sgN,Xd,Xc,Xl]
      rw[Qla,Xh,Xc,e,e,Int.pow_succ];grind
    have h2:=Qvf s n _ h1 fun i a b=>hc i a (by omega)
    exact EqF.of_dv (ZB (hc (n+1) (by omega) (Nat.le_refl _)) (EqF.dv ((EqF.ev fun x=>by simp only[Xc];grind).trans h2)))
theorem QtP{d:Nat}{f:List Nat}(hd:1≤d)(h0:EdW 2 d f)(h: ¬Whole 2 f):
    ∃k,2*k+2≤f.length∧ ∀s,XE 2 s→EqF 2 (zl f) (zl s) (QbH 2 (Yx [0,1] (2*k+1)) d)→2≤(XN 2 s f).length∧(XN 2 s f).length<f.length:=by
  have hf:=h0.mon
  have hs:=h0.sq
  have hx:=h0.fix
  have hpr:=QqI.pr
  obtain⟨G,w,e,S⟩:=Qrd (Nat.le_refl 2) hf hs h
  have hpos:=hf.pos
  rcases Classical.em (∃k,2*k+2≤f.length∧ ∀s,XE 2 s→EqF 2 (zl f) (zl s) (QbH 2 (Yx [0,1] (2*k+1)) d)→2≤(XN 2 s f).length∧(XN 2 s f).length<f.length) with h1|h1
  · exact h1
  exfalso
  have hodd: ∀k,2*k+2≤f.length→Kd (zl f) (Yx [0,1] (2*k+1)) d:=by
    intro k hk
    rcases Classical.em (∀s,XE 2 s→EqF 2 (zl f) (zl s) (QbH 2 (Yx [0,1] (2*k+1)) d)→2≤(XN 2 s f).length∧(XN 2 s f).length<f.length) with h2|h2
    · exact absurd ⟨k,hk,h2⟩ h1
    · obtain⟨s,h2⟩:=Classical.not_forall.1 h2
      have h3:XE 2 s∧EqF 2 (zl f) (zl s) (QbH 2 (Yx [0,1] (2*k+1)) d)∧ ¬(2≤(XN 2 s f).length∧(XN 2 s f).length<f.length):=by
        rcases Classical.em (XE 2 s) with h3|h3
        · rcases Classical.em (EqF 2 (zl f) (zl s) (QbH 2 (Yx [0,1] (2*k+1)) d)) with h4|h4
          · exact⟨h3,h4,fun h5=>h2 fun _ _=>h5⟩
          · exact absurd (fun _ h5=>absurd h5 h4) h2
        · exact absurd (fun h5=>absurd h5 h3) h2
      obtain⟨hcs,hes,hbad⟩:=h3
      have hl0:0<s.length+f.length:=by omega
      have hpw:EqF 2 (zl f) (cj 2 (Yx [0,1] (2*k+1)) d) (Yx [0,1] (2*k+1)):=
        (EqF.ev fun x=>by rw[Qkd,←Xl]:EqF 2 (zl f) _ (Yx (cj 2 [0,1] d) (2*k+1))).trans (hx.pow _)
      have hsq:=Qt7 QqI hpw
      have hss:EqF 2 (zl f) (Yx (zl s) 2) (zl s):=(hes.pow 2).trans (hsq.trans hes.symm)
      rcases Nat.lt_or_ge 1 (XN 2 s f).length with h4|h4
      · obtain⟨d1,d2⟩:=QbS hpr f.length s f hcs hf.can (Nat.le_refl _) hl0
        change Dv (2:Int) (zl (XN 2 s f)) (zl s) at d1
        change Dv ((2:Nat):Int) (zl (XN 2 s f)) (zl f) at d2
        have hD:=Qac hpr hcs hf.can hl0 h4
        have h5:=Qa1 (Nat.le_refl 2) hD.mz hf.mz d2
        have hle:(XN 2 s f).length=f.length:=by omega
        have he:=Qg2 hf.mz (by rw[←hle];exact hD.mz) d2
        have h6:Dv (2:Int) (zl f) (zl s):=((Dv.self (zl f)).cg he.symm).trans d1
        exact⟨0,.inl rfl,hes.symm.trans ((EqF.of_dv h6).trans (EqF.ev fun x=>by simp only[evI];omega))⟩
      · have hcop:=(ZC hpr hcs hf.can hl0 h4).symm
        have h5:Dv (2:Int) (zl f) (Xg (zl s) (XD (zl s) [1])):=hss.dvs.cg (CgV.eqv fun x=>by simp only[Xc,Xh,Xl,Xj];grind)
        have h6:=ZB hcop h5
        exact⟨1,.inr rfl,hes.symm.trans (EqF.of_dvs h6)⟩
  have hall: ∀n m,m≤n→m<f.length→Kd (zl f) (Yx [0,1] m) d:=by
    intro n
    induction n with
    |zero=>
        intro m hm _;obtain rfl:m=0:=by omega
        exact Kd.one _ d
    |succ n ih=>
      intro m hm hl
      rcases Nat.eq_zero_or_pos m with rfl|hp
      · exact Kd.one _ d
      rcases Nat.mod_two_eq_zero_or_one m with h2|h2
      · have h3:=(ih (m/2) (by omega) (by omega)).sq
        refine h3.eq (EqF.ev fun x=> ?_)
        rw[Xl,Xl,Xl,←Int.pow_mul,show m/2*2=m by omega]
      · obtain⟨k,rfl⟩: ∃k,m=2*k+1:=⟨m/2,by omega⟩
        exact hodd k (by omega)
  have hany: ∀t:List Int,Kd (zl f) t d:=fun t=>by
    obtain⟨r,hr,hrl,hre⟩:=QoI hpr hf t
    exact(Kd.all (B:=f.length) (fun m hm=>hall m m (Nat.le_refl _) hm) r.length r rfl (by omega) hr.1).eq hre
  have hG: ∀t:List Int,EqF 2 (zl G) (QbH 2 t d) []:=fun t=>by
    obtain⟨c,hc,hk⟩:=hany (Xg t e)
    have hw:EqF 2 w (Xg t e) []:=((EqF.refl t).mul S.zero).trans (EqF.ev fun x=>by simp only[Xc,evI];omega)
    have h2:EqF 2 w [c] []:=((hk.low S.dw).symm.trans (hw.sumJ d)).trans (by
      obtain⟨k,hk,h3⟩:=Kd.nil w d
      exact EqF.ev fun x=>by
        have : ∀d,evI (QbH 2 [] d) x=0:=fun d=>by
          induction d with
          |zero=>rfl
          |succ d ih=>rw[QbH,Xd,ih,QeQ (by omega)];rfl
        rw[this];rfl)
    rcases hc with rfl|rfl
    · have hg:EqF 2 (zl G) (Xg t e) t:=((EqF.refl t).mul S.one).trans (EqF.ev fun x=>by simp only[Xc,Xj];omega)
      exact((hg.symm.sumJ d).trans (hk.low S.dG)).trans (EqF.ev fun x=>by simp only[evI];omega)
    · exact absurd (EqF.dv h2) S.nw
  obtain⟨j,rfl⟩: ∃j,d=j+1:=⟨d -1,by omega⟩
  refine YJ (Nat.le_refl 2) S.mon (EqF.dv (Qvf (cj 2 [0,1]) j (fun _=>[1]) (fun m=>(EqF.ev fun x=> ?_).trans (hG (Yx [0,1] m))) fun i h1 h2=> ?_))
  · have h9: ∀n,evI (sgN (fun _=>[1]) (cj 2 [0,1]) m n) x=evI (QbH 2 (Yx [0,1] m) n) x:=by
      intro n
      induction n with
      |zero=>rfl
      |succ n ih=>simp only[sgN,QbH,Xd,Xc,Xl,ih,Qkd,Xj];grind
    exact h9 _
  · obtain⟨u,v,k,hk⟩:=QbB (h0.low i h1 (by omega)) S.dG
    exact⟨v,Xf u (-1),k,fun x=>by have :=hk x;simp only[Xd,Xc,Xh,Xm,Xj,cj] at *;rw[←this];grind⟩
end Go.Gx
namespace Go.Gx
def Qd3(p N:Nat)(t:List Nat):Prop:=XE p t∧ if p=2 then ∀x:Int,evI (zl t) x=x^ (2*N+1) else vb p t=N+p
def QvU(p:Nat)(t:List Int)(d:Nat):List Int:=if p=2 then QbH p t d else QoP p t d
def Qsk(p:Nat)(f:List Nat)(d:Nat)(t s:List Nat):Prop:=XE p s∧EqF p (zl f) (zl s) (QvU p (zl t) d)
theorem Qwj{p d:Nat}{f:List Nat}(hp:Xk p)(hd:1≤d)(h:EdW p d f)(hl:d+1<f.length):
    ∃N,(p=2∧2*N+2≤f.length∨p≠2∧N+p<p^ (d+1))∧ ∀t s,Qd3 p N t→Qsk p f d t s→2≤(XN p s f).length∧(XN p s f).length<f.length:=by
  have hw: ¬Whole p f:=fun hw=>by have :=QfI hp h.mon hw hd h.fix;omega
  rcases Classical.em (p=2) with h2|h2
  · subst h2
    obtain⟨k,hk,hs⟩:=QtP hd h hw
    refine⟨k,.inl ⟨rfl,hk⟩,fun t s ht hsr=>hs s hsr.1 ?_⟩
    have h3:=ht.2
    rw[if_pos rfl] at h3
    have h4:=hsr.2
    rw[QvU,if_pos rfl] at h4
    exact h4.trans (EqF.sumJ (EqF.ev fun x=>by rw[h3,Xl];simp [evI]) d)
  · obtain⟨t0,hc,h3,h4,hs⟩:=QtO hp h2 hd h hw
    have hp2:=hp.1
    have hlo:p^1≤vb p t0:=by
      refine Nat.le_trans (Nat.pow_le_pow_right (by omega) (show 1≤t0.length -1 by omega)) (QgM (Qf0 hc) (by intro e;subst e;simp at h3) (by omega))
    have hhi:vb p t0<p^ (d+1):=Nat.lt_of_lt_of_le (Qmm t0 hc.1) (Nat.pow_le_pow_right (by omega) h4)
    rw[Nat.pow_one] at hlo
    refine⟨vb p t0 -p,.inr ⟨h2,by omega⟩,fun t s ht hsr=>hs s hsr.1 ?_⟩
    have h5:=ht.2
    rw[if_neg h2] at h5
    have h6:t=t0:=Qsb hp2 t t0 ht.1 hc (by omega)
    have h7:=hsr.2
    rw[QvU,if_neg h2,h6] at h7
    exact h7
theorem EdW.part{p d:Nat}{f g q r:List Nat}(hp:Xk p)(h:EdW p d f)(hg:Zw p g)(hd:Dv (p:Int) (zl g) (zl f))(hlt:g.length<f.length)(hq:XH p f g=(q,r)):
    EdW p d g∧EdW p d q∧CgV (p:Int) (zl f) (Xg (zl g) (zl q))∧q.length<f.length:=by
  obtain⟨h1,h2,h3⟩:=QaM hp h.mon.mn hg hd hq
  have hgp:=hg.pos
  have hdq:Dv (p:Int) (zl q) (zl f):=⟨zl g,h2.trans (CgV.comm _ _)⟩
  refine⟨⟨hg,Qdr h.sq h2,h.fix.low hd,fun k a b=>QbB (h.low k a b) hd⟩,⟨h1.monN (by omega),Qdr h.sq (h2.trans (CgV.comm _ _)),h.fix.low hdq,fun k a b=>QbB (h.low k a b) hdq⟩,h2.trans (CgV.comm _ _),by omega⟩
theorem EdW.whole{p d:Nat}{f:List Nat}(hp:Xk p)(hd:1≤d)(h:EdW p d f)(hl:f.length≤d+1):Whole p f:=by
  rcases Classical.em (Whole p f) with hw|hw
  · exact hw
  · exfalso
    obtain⟨G,w,hG,hlt,hwG⟩:=QbX hp.1 h.mon hw
    obtain⟨g1,m1,w1,e1⟩:=ZE hp _ G (Nat.le_refl _) hG
    have h1:=h.deg hp hd m1 w1 (e1.trans ⟨w,hwG⟩)
    have h2:=Qa1 hp.1 m1.mz hG.mz e1
    have :=hG.pos
    omega
structure Zv (p:Nat) (F:List Int) (l:List (List Nat)):Prop where
  mon: ∀d∈l,Zw p d
  whole: ∀d∈l,Whole p d
  prod:CgV (p:Int) (pL (l.map zl)) F
theorem QvD(a b:List (List Int))(x:Int):evI (pL (a++b)) x=evI (pL a) x*evI (pL b) x:=by
  induction a with
  |nil=>simp [pL,evI]
  |cons c a ih=>simp only[List.cons_append,pL,Xc,ih];grind
theorem Zv.one{p:Nat}{f:List Nat}(h:Zw p f)(hw:Whole p f):Zv p (zl f) [f]:=⟨fun d hd=>by rw[List.mem_singleton.1 hd];exact h,fun d hd=>by rw[List.mem_singleton.1 hd];exact hw,CgV.eqv fun x=>by simp only[List.map,pL,Xc,Xj];omega⟩
theorem Zv.nil(p:Nat):Zv p [1] []:=⟨fun d hd=>by simp at hd,fun d hd=>by simp at hd,CgV.refl _ _⟩
theorem Zv.app{p:Nat}{F G:List Int}{a b:List (List Nat)}(h:Zv p F a)(g:Zv p G b):Zv p (Xg F G) (a++b):=
  ⟨fun d hd=>by rcases List.mem_append.1 hd with h1|h1;exact h.mon d h1;exact g.mon d h1,
   fun d hd=>by rcases List.mem_append.1 hd with h1|h1;exact h.whole d h1;exact g.whole d h1,
   (CgV.eqv fun x=>by rw[List.map_append,QvD,Xc]).trans (h.prod.mul g.prod)⟩
theorem Zv.cg{p:Nat}{F G:List Int}{a:List (List Nat)}(h:Zv p F a)(e:CgV (p:Int) F G):Zv p G a:=⟨h.mon,h.whole,h.prod.trans e⟩
theorem Qtr{a b:List (List Int)}(h:a.Perm b)(x:Int):evI (pL a) x=evI (pL b) x:=by
  induction h with
  |nil=>rfl
  |cons c _ ih=>simp only[pL,Xc,ih]
  |swap c d l=>simp only[pL,Xc];grind
  |trans _ _ h1 h2=>rw[h1,h2]
theorem Zv.perm{p:Nat}{F:List Int}{a b:List (List Nat)}(h:Zv p F a)(e:b.Perm a):Zv p F b:=
  ⟨fun d hd=>h.mon d (e.mem_iff.1 hd),fun d hd=>h.whole d (e.mem_iff.1 hd),(CgV.eqv fun x=>Qtr (e.map zl) x).trans h.prod⟩
theorem Zv.pw{p:Nat}: ∀{l:List (List Nat)}{F:List Int},Zv p F l→Cop (p:Int) F (Xn F)→Pw (p:Int) (l.map zl)
  | [],_,_,_=>trivial
  |d::l,F,h,hs=>by
    have h1:CgV (p:Int) F (Xg (zl d) (pL (l.map zl))):=h.prod.symm
    have h2:=QhE hs h1
    have h3:=Qdr hs h1
    refine⟨fun c hc=>QbB h2 ?_,Zv.pw (F:=pL (l.map zl)) ⟨fun e he=>h.mon e (List.mem_cons_of_mem _ he),fun e he=>h.whole e (List.mem_cons_of_mem _ he),CgV.refl _ _⟩ h3⟩
    have : ∀(L:List (List Int)),c∈L→Dv (p:Int) c (pL L):=by
      intro L
      induction L with
      |nil=>intro h;simp at h
      |cons a L ih=>
        intro hm
        rcases List.mem_cons.1 hm with rfl|hm
        · exact⟨pL L,CgV.comm _ _⟩
        · obtain⟨w,hw⟩:=ih hm
          exact⟨Xg a w,((CgV.refl _ a).mul hw).trans (CgV.eqv fun x=>by simp only[Xc];grind)⟩
    exact this _ hc
structure BdI (p d:Nat) (F:List Int) (L:List (List Nat)) (f w:List Nat):Prop where
  mn:Mn p f
  sq:SqF p f
  fac: ∃R,Zv p R L∧CgV (p:Int) (Xg R (zl f)) F
  can:XE p w
  pow:EqF p (zl f) (zl w) (cj p [0,1] (d -1))
  low: ∀k,1≤k→k<d→Cop (p:Int) (XD (cj p [0,1] k) [0,1]) (zl f)
theorem Qwh{p d:Nat}(hp:Xk p){F:List Int}{L:List (List Nat)}{f w w2 u:List Nat}(h:BdI p d F L f w)(hd:1≤d)(h2:EqF p (zl f) (zl w2) (Yx (zl w) p))(hu:CgV (p:Int) (zl u) (XD (zl w2) [0,1])):
    EqF p (zl f) (zl w2) (cj p [0,1] d)∧EqF p (zl f) (zl u) (XD (cj p [0,1] d) [0,1]):=by
  obtain⟨j,rfl⟩: ∃j,d=j+1:=⟨d -1,by omega⟩
  have h3:EqF p (zl f) (zl w2) (cj p [0,1] (j+1)):=h2.trans (h.pow.pow p)
  exact⟨h3,(EqF.cg hu).trans (h3.sub (EqF.refl _))⟩
theorem BdI.no{p d:Nat}(hp:Xk p){F:List Int}{L:List (List Nat)}{f w w2 u:List Nat}(h:BdI p d F L f w)(hd:1≤d)(hw2:XE p w2)(hu0:XE p u)(h2:EqF p (zl f) (zl w2) (Yx (zl w) p))(hu:CgV (p:Int) (zl u) (XD (zl w2) [0,1]))
    (hg:(XN p u f).length≤1):BdI p (d+1) F L f w2:=by
  obtain⟨h3,h4⟩:=Qwh hp h hd h2 hu
  have hpos:=h.mn.pos
  refine⟨h.mn,h.sq,h.fac,hw2,h3,fun k h5 h6=> ?_⟩
  rcases Nat.lt_or_ge k d with h7|h7
  · exact h.low k h5 h7
  · obtain rfl:k=d:=by omega
    exact QmY (ZC hp hu0 h.mn.can (by omega) hg) h4
theorem BdI.ed{p d:Nat}(hp:Xk p){F:List Int}{L:List (List Nat)}{f w w2 u:List Nat}(h:BdI p d F L f w)(hd:1≤d)(hu0:XE p u)(h2:EqF p (zl f) (zl w2) (Yx (zl w) p))(hu:CgV (p:Int) (zl u) (XD (zl w2) [0,1]))
    (hg:2≤(XN p u f).length):EdW p d (XN p u f):=by
  obtain⟨h3,h4⟩:=Qwh hp h hd h2 hu
  have hpos:=h.mn.pos
  have hl:0<u.length+f.length:=by omega
  have hD:=Qac hp hu0 h.mn.can hl hg
  obtain⟨d1,d2⟩:=QbS hp f.length u f hu0 h.mn.can (Nat.le_refl _) hl
  change Dv (p:Int) (zl (XN p u f)) (zl u) at d1
  change Dv (p:Int) (zl (XN p u f)) (zl f) at d2
  obtain⟨w0,hw0⟩:=d2
  exact⟨hD,Qdr h.sq hw0,EqF.of_dvs (EqF.dv ((h4.low ⟨w0,hw0⟩).symm.trans (EqF.of_dv d1))),fun k a b=>QbB (h.low k a b) ⟨w0,hw0⟩⟩
theorem BdI.yes{p d:Nat}(hp:Xk p){F:List Int}{L L':List (List Nat)}{f w w2 w3 u q r:List Nat}(h:BdI p d F L f w)(hd:1≤d)(hu0:XE p u)(h2:EqF p (zl f) (zl w2) (Yx (zl w) p))(hu:CgV (p:Int) (zl u) (XD (zl w2) [0,1]))
    (hg:2≤(XN p u f).length)(hL:Zv p (zl (XN p u f)) L')(hq:XH p f (XN p u f)=(q,r))(hw3:XE p w3)(h3:EqF p (zl q) (zl w3) (zl w2)):BdI p (d+1) F (L++L') q w3:=by
  obtain⟨h5,h4⟩:=Qwh hp h hd h2 hu
  have hpos:=h.mn.pos
  have hl:0<u.length+f.length:=by omega
  have hD:=Qac hp hu0 h.mn.can hl hg
  obtain⟨d1,d2⟩:=QbS hp f.length u f hu0 h.mn.can (Nat.le_refl _) hl
  change Dv (p:Int) (zl (XN p u f)) (zl f) at d2
  obtain⟨e1,e2,e3⟩:=QaM hp h.mn hD d2 hq
  have hc:=QqZ hp hu0 h.mn h.sq hg hq
  have hdq:Dv (p:Int) (zl q) (zl f):=⟨zl (XN p u f),e2.trans (CgV.comm _ _)⟩
  obtain⟨R,hR,hRF⟩:=h.fac
  refine⟨e1,Qdr h.sq (e2.trans (CgV.comm _ _)),⟨_,hR.app hL,?_⟩,hw3,h3.trans (h5.low hdq),fun k h7 h8=> ?_⟩
  · refine((CgV.eqv fun x=> ?_:CgV (p:Int) _ (Xg R (Xg (zl q) (zl (XN p u f))))).trans ((CgV.refl _ R).mul e2.symm)).trans hRF
    simp only[Xc];grind
  · rcases Nat.lt_or_ge k d with h6|h6
    · exact QbB (h.low k h7 h6) hdq
    · obtain rfl:k=d:=by omega
      exact QmY hc (h4.low hdq)
theorem BdI.start{p:Nat}{f w:List Nat}(hf:Mn p f)(hs:SqF p f)(hw:XE p w)(h:EqF p (zl f) (zl w) [0,1]):BdI p 1 (zl f) [] f w:=
  ⟨hf,hs,⟨[1],Zv.nil p,CgV.eqv fun x=>by simp only[Xc,Xj];omega⟩,hw,h,fun k h2 h3=>by omega⟩
theorem BdI.done1{p d:Nat}{F:List Int}{L:List (List Nat)}{f w:List Nat}(h:BdI p d F L f w)(hl:f.length≤1):Zv p F L:=by
  obtain⟨R,hR,hRF⟩:=h.fac
  have hpos:=h.mn.pos
  have h1:=h.mn.one
  have h2:f=[1]:=by
    match f,hl,hpos,h1 with
    | [a],_,_,h1=>simp [List.getD] at h1;rw[h1]
  refine hR.cg ((CgV.eqv fun x=> ?_).trans hRF)
  rw[h2];simp only[Xc,zl,List.map,evI];grind
theorem Qrs{p d:Nat}{F:List Int}{L:List (List Nat)}{f w G:List Nat}(hp:Xk p)(h:BdI p d F L f w)(hG:Zw p G)(hw:Whole p G)(hdv:Dv (p:Int) (zl G) (zl f)):d+1≤G.length:=by
  have hpos:=hG.pos
  rcases Nat.lt_or_ge (G.length -1) d with h2|h2
  · exfalso
    have h3:=(Qi1 hp hG hw).dvs
    obtain⟨s,t,k,hk⟩:=QbB (h.low (G.length -1) (by omega) h2) hdv
    refine YJ hp.1 hG (Qe0 (a:=XD (cj p [0,1] (G.length -1)) [0,1]) ⟨t,s,k,fun x=> ?_⟩ h3)
    have :=hk x
    simp only[Xd,Xc] at *
    omega
  · omega
theorem BdI.done2{p d:Nat}{F:List Int}{L:List (List Nat)}{f w:List Nat}(hp:Xk p)(h:BdI p d F L f w)(hl:2≤f.length)(hd:f.length -1<2*d):Zv p F (L++[f]):=by
  obtain⟨R,hR,hRF⟩:=h.fac
  refine(hR.app (Zv.one (h.mn.monN hl) ?_)).cg hRF
  rcases Classical.em (Whole p f) with hw|hw
  · exact hw
  · exfalso
    have hf:=h.mn.monN hl
    obtain⟨G,w,hG,hlt,hwG⟩:=QbX hp.1 hf hw
    obtain⟨g1,m1,w1,e1⟩:=ZE hp _ G (Nat.le_refl _) hG
    have e1f:Dv (p:Int) (zl g1) (zl f):=e1.trans ⟨w,hwG⟩
    have a1:=Qrs hp h m1 w1 e1f
    have a2:=Qa1 hp.1 m1.mz hG.mz e1
    rcases hq:XH p f g1 with⟨q,r⟩
    obtain⟨k1,k2,k3⟩:=QaM hp h.mn m1 e1f hq
    have a3:=hG.pos
    have a4:=m1.pos
    obtain⟨g2,m2,w2,e2⟩:=ZE hp _ q (Nat.le_refl _) (k1.monN (by omega))
    have e2f:Dv (p:Int) (zl g2) (zl f):=e2.trans ⟨zl g1,k2.trans (CgV.comm _ _)⟩
    have b1:=Qrs hp h m2 w2 e2f
    have b2:=Qa1 hp.1 m2.mz (k1.monN (by omega)).mz e2
    have :=m2.pos
    omega
end Go.Gx
namespace Go.Gx
theorem QpW{p k x:Nat}{df:List Nat}(hp:0<p)(hx:x=df.getD (k+1) 0*((k+1) % p) % p):x=md p (co (Xn (zl df)) k):=by
  subst hx
  rw[XZ,ZS,QnU hp]
  exact Qfm hp ((Cg.refl p _).mul (Zq (k+1)))
theorem QsD{p n:Nat}{df:List Nat}(h:df.length=n)(h0:n=0):[]=XR p (Xn (zl df)):=by
  rw[List.eq_nil_of_length_eq_zero (h.trans h0)];rfl
theorem QdT{p:Nat}{f g r:List Nat}(hp:0<p)(h:r=(XH p f g).2):EqF p (zl g) (zl r) (zl f):=by
  obtain⟨k,hk⟩:=QbP hp (f:=f) (g:=g) (q:=(XH p f g).1) (r:=r) (by rw[h])
  exact⟨Xf (zl (XH p f g).1) (-1),k,fun x=>by have :=hk x;simp only[Xd,Xc,Xm] at *;grind⟩
theorem Qip{p:Nat}{a b m g r:List Nat}(hp:0<p)(e1:m=Qau p a b)(e2:r=(XH p m g).2):EqF p (zl g) (zl r) (Xg (zl a) (zl b)):=
  (QdT hp e2).trans (EqF.cg (by rw[e1];exact QgQ hp a b))
def PwI(p:Nat)(G f:List Nat)(N:Nat)(R S:List Nat)(n:Nat):Prop:=EqF p (zl G) (Xg (zl R) (Yx (zl S) n)) (Yx (zl f) N)
theorem PwI.start{p N:Nat}{G f R S:List Nat}(h1:EqF p (zl G) (zl R) (zl [1]))(h2:EqF p (zl G) (zl S) (zl f)):PwI p G f N R S N:=
  (h1.mul (h2.pow N)).trans (EqF.ev fun x=>by simp only[Xc,zl,List.map,evI];grind)
theorem QqK(s:Int){n:Nat}(h:n % 2≠0):s^n=s*(s*s)^ (n/2):=by
  have e:n=1+2*(n/2):=by omega
  have e2:s^n=s^ (1+2*(n/2)):=by rw[←e]
  rw[e2,Int.pow_add,Int.pow_mul,show s^2=s*s by grind];grind
theorem Qos(s:Int){n:Nat}(h: ¬n % 2≠0):s^n=(s*s)^ (n/2):=by
  have e:n=2*(n/2):=by omega
  have e2:s^n=s^ (2*(n/2)):=by rw[←e]
  rw[e2,Int.pow_mul,show s^2=s*s by grind]
theorem PwI.odd1{p N n:Nat}{G f R S R' S':List Nat}(h:PwI p G f N R S n)(hn:n % 2≠0)(h1:EqF p (zl G) (zl R') (Xg (zl R) (zl S)))(h2:EqF p (zl G) (zl S') (Xg (zl S) (zl S))):PwI p G f N R' S' (n/2):=
  ((h1.mul (h2.pow (n/2))).trans (EqF.ev fun x=>by simp only[Xc,Xl];rw[QqK _ hn];grind)).trans h
theorem PwI.odd0{p N n:Nat}{G f R S R':List Nat}(h:PwI p G f N R S n)(hn:n % 2≠0)(h0:n/2=0)(h1:EqF p (zl G) (zl R') (Xg (zl R) (zl S))):PwI p G f N R' S (n/2):=by
  rw[h0]
  obtain rfl:n=1:=by omega
  exact((h1.mul (EqF.refl _)).trans (EqF.ev fun x=>by simp only[Xc,Xl];grind)).trans h
theorem PwI.even1{p N n:Nat}{G f R S S':List Nat}(h:PwI p G f N R S n)(hn: ¬n % 2≠0)(h2:EqF p (zl G) (zl S') (Xg (zl S) (zl S))):PwI p G f N R S' (n/2):=
  (((EqF.refl (zl R)).mul (h2.pow (n/2))).trans (EqF.ev fun x=>by simp only[Xc,Xl];rw[Qos _ hn])).trans h
theorem PwI.done{p N n:Nat}{G f R S:List Nat}(h:PwI p G f N R S n)(hn:n=0):EqF p (zl G) (zl R) (Yx (zl f) N):=by
  subst hn
  exact(EqF.ev fun x=>by simp only[Xc,Xl];grind).trans h
theorem Qgl(L:List Nat)(x:Nat):(L++[x]).getD L.length 0=x:=by simp [List.getD]
structure TrI (p N:Nat) (L:List Nat) (k r:Nat):Prop where
  v:vb p L+p^k*r=N+p
  lt: ∀d∈L,d<p
  top:r=0→L.length≠0→0<L.getD (L.length -1) 0
theorem TrI.start{p N:Nat}(hp:0<p):TrI p N [] 0 (N+p):=⟨by simp [vb],fun d hd=>by simp at hd,fun h=>by omega⟩
theorem TrI.step{p N k r x:Nat}{L:List Nat}(h:TrI p N L k r)(hp:0<p)(hl:L.length=k)(hr:0<r)(hx:x=r % p):TrI p N (L++[x]) (k+1) (r/p):=by
  subst hx
  refine⟨?_,Qhg h.lt (Nat.mod_lt _ hp),fun h0 _=> ?_⟩
  · rw[Qj5,hl,←h.v,Nat.add_assoc,Nat.pow_succ,Nat.mul_assoc,←Nat.mul_add]
    congr 2;exact Nat.mod_add_div r p
  · simp only[List.length_append,List.length_singleton,Nat.add_sub_cancel]
    rw[Qgl]
    have :=Nat.mod_add_div r p
    rw[h0] at this;omega
theorem TrI.bound{p N k r:Nat}{L:List Nat}(h:TrI p N L k r)(hp:3≤p)(hN:N+p<18446744073709551616)(hr:0<r):k<64:=by
  rcases Nat.lt_or_ge k 64 with h1|h1
  · exact h1
  · exfalso
    have h2:2^64≤p^k:=Nat.le_trans (Nat.pow_le_pow_left (show 2≤p by omega) 64) (Nat.pow_le_pow_right (by omega) h1)
    have h3:p^k*1≤p^k*r:=Nat.mul_le_mul_left _ hr
    have h4:=h.v
    omega
theorem TrI.done{p N k r:Nat}{L:List Nat}(h:TrI p N L k r)(hp:p≠2)(hr:r=0):Qd3 p N L:=by
  subst hr
  refine⟨⟨h.lt,h.top rfl⟩,?_⟩
  rw[if_neg hp,←h.v];simp
theorem Qpd{n N:Nat}(hn:N=2*n+2):Qd3 2 n ((List.replicate N 0).set (2*n+1) 1):=by
  subst hn
  have e:(List.replicate (2*n+2) 0).set (2*n+1) 1=List.replicate (2*n+1) 0++[1]:=by
    rw[show 2*n+2=(2*n+1)+1 by omega,List.replicate_succ']
    rw[List.set_append_right _ _ (by simp)]
    simp
  rw[e]
  refine⟨⟨fun d hd=> ?_,fun _=> ?_⟩,?_⟩
  · rcases List.mem_append.1 hd with h|h
    · rw[List.eq_of_mem_replicate h];omega
    · rw[List.mem_singleton.1 h];omega
  · simp only[List.length_append,List.length_replicate,List.length_singleton,Nat.add_sub_cancel]
    have h9:=Qgl (List.replicate (2*n+1) 0) 1
    rw[List.length_replicate] at h9
    rw[h9];omega
  · rw[if_pos rfl]
    intro x
    rw[Qfb,List.length_replicate]
    have : ∀m,evI (zl (List.replicate m 0)) x=0:=fun m=>by
      induction m with
      |zero=>rfl
      |succ m ih=>rw[List.replicate_succ];show((0:Nat):Int)+x*evI (zl (List.replicate m 0)) x=0;rw[ih];simp
    rw[this];grind
theorem Qug{p n:Nat}(h:p=2):Qd3 p n ((List.replicate (2*n+2) 0).set (2*n+1) 1):=by subst h;exact Qpd rfl
structure Qmv (p:Nat) (f t:List Nat) (i:Nat) (c s q:List Nat):Prop where
  c:EqF p (zl f) (zl c) (cj p (zl t) i)
  s:EqF p (zl f) (zl s) (QbH p (zl t) (i+1))
  q:p≠2→EqF p (zl f) (zl q) (Yu p (zl t) (i+1))
theorem Qmv.start{p:Nat}{f t c:List Nat}(h:EqF p (zl f) (zl c) (zl t)):Qmv p f t 0 c c c:=
  ⟨h,h.trans (EqF.ev fun x=>by simp only[QbH,cj,Xd,evI];omega),fun _=>h.trans (EqF.ev fun x=>by simp only[Yu,cj,Xc,Xj];omega)⟩
theorem Qsx{p:Nat}(hp:0<p)(f g:List Nat):CgV (p:Int) (zl (Qpr p f g)) (Xx (zl f) (zl g)):=YW hp _
theorem Qmv.next{p i:Nat}{f t c s q c' s' q':List Nat}(hp:0<p)(h:Qmv p f t i c s q)(hc:EqF p (zl f) (zl c') (Yx (zl c) p))(hs:s'=Qpr p s c')(hq:p≠2→EqF p (zl f) (zl q') (Xg (zl q) (zl c'))):Qmv p f t (i+1) c' s' q':=by
  have h1:EqF p (zl f) (zl c') (cj p (zl t) (i+1)):=hc.trans (h.c.pow p)
  exact⟨h1,(EqF.cg (by rw[hs];exact Qsx hp _ _)).trans (h.s.add h1),fun h2=>(hq h2).trans ((h.q h2).mul h1)⟩
theorem Qmv.two{p i d:Nat}{f t c s q:List Nat}(h:Qmv p f t i c s q)(hd:d=i+1)(hp:p=2)(hc:XE p s):Qsk p f d t s:=⟨hc,by subst hd;rw[QvU,if_pos hp];exact h.s⟩
theorem Qmv.odd{p i d:Nat}{f t c s q r u:List Nat}(h:Qmv p f t i c s q)(hd:d=i+1)(hp:p≠2)(hp0:0<p)(hr:EqF p (zl f) (zl r) (Yx (zl q) ((p -1)/2)))(hu:u=QhQ p r [1])(hc:XE p u):Qsk p f d t u:=by
  refine⟨hc,?_⟩
  subst hd
  rw[QvU,if_neg hp,QoP]
  exact(EqF.cg (by rw[hu];exact Qjg hp0 r [1])).trans ((hr.trans ((h.q hp).pow _)).sub (EqF.refl _))
theorem Qnc{p d N n:Nat}{f t s u:List Nat}(hN: ∀t s,Qd3 p N t→Qsk p f d t s→2≤(XN p s f).length∧(XN p s f).length<f.length)(hn:n≤N)(ht:Qd3 p n t)(hs:Qsk p f d t s)(hu:u=XN p s f)(hbad: ¬(1<u.length∧u.length<f.length)):n+1≤N:=by
  rcases Nat.lt_or_ge n N with h|h
  · omega
  · exfalso
    obtain rfl:n=N:=by omega
    have :=hN t s ht hs
    subst hu
    exact hbad ⟨by omega,this.2⟩
theorem Qp7{p d:Nat}{f s u q r:List Nat}(hp:Xk p)(h:EdW p d f)(hs:XE p s)(hu:u=XN p s f)(h1:1<u.length)(h2:u.length<f.length)(hq:XH p f u=(q,r)):
    EdW p d u∧EdW p d q∧CgV (p:Int) (zl f) (Xg (zl u) (zl q))∧q.length<f.length:=by
  subst hu
  have hpos:=h.mon.pos
  have hl:0<s.length+f.length:=by omega
  have hD:=Qac hp hs h.mon.can hl h1
  obtain⟨_,d2⟩:=QbS hp f.length s f hs h.mon.can (Nat.le_refl _) hl
  exact h.part hp hD d2 h2 hq
end Go.Gx
namespace Go.Gx
theorem BdI.size{p d:Nat}{F:List Int}{L:List (List Nat)}{f w u v q r:List Nat}(h:BdI p d F L f w)(hp:Xk p)(hu:XE p u)(hv:v=XN p u f)(hg:1<v.length)(hq:XH p f v=(q,r)):q.length+v.length=f.length+1∧1≤q.length∧XE p q:=by
  subst hv
  have hpos:=h.mn.pos
  have hl:0<u.length+f.length:=by omega
  have hD:=Qac hp hu h.mn.can hl hg
  obtain⟨_,d2⟩:=QbS hp f.length u f hu h.mn.can (Nat.le_refl _) hl
  have h1:=QaM hp h.mn hD d2 hq
  exact⟨h1.2.2,h1.1.pos,h1.1.can⟩
end Go.Gx
namespace Go.Gx
theorem QfB{p:Nat}(hp:Xk p){f:List Nat}(hf:XE p f)(h:(XN p f (XR p (Xn (zl f)))).length=1):Mn p (XS p f)∧SqF p (XS p f):=by
  have hp0:0<p:=by have :=hp.1;omega
  have hc:=XK hp0 (Xn (zl f))
  have h0:0<f.length:=by
    rcases Nat.eq_zero_or_pos f.length with e|e
    · exfalso
      rw[List.eq_nil_of_length_eq_zero e] at h
      have e2:XR p (Xn (zl []))=[]:=rfl
      rw[e2] at h
      have e3:XN p [] []=[]:=rfl
      rw[e3] at h;cases h
    · exact e
  obtain⟨hm,hml,hmc⟩:=QjD hp hf h0
  have h1:=(ZC hp hf hc (by omega) (by omega)).cg (CgV.refl _ _) (YW hp0 _)
  refine⟨hm,?_⟩
  obtain⟨u,v,k,hk⟩:=h1
  obtain⟨a,ha⟩:=hmc
  obtain⟨b,hb⟩:=Qep (⟨a,ha⟩:CgV (p:Int) (zl f) (Xf (zl (XS p f)) (XW f:Nat)))
  have hsc: ∀x,evI (Xn (Xf (zl (XS p f)) (XW f:Nat))) x=(XW f:Nat)*evI (Xn (zl (XS p f))) x:=fun x=>by
    rw[←Xm]
    exact Qc4 (fun i=>by rw[XZ,Xi,Xi,XZ];grind) x
  refine⟨Xf u (XW f:Nat),Xf v (XW f:Nat),XD k (Xx (Xg u a) (Xg v b)),fun x=> ?_⟩
  have h1:=hk x;have h2:=ha x;have h3:=hb x
  rw[hsc] at h3
  simp only[Xd,Xh,Xc,Xm,Xj] at *
  rw[h2,h3] at h1
  grind
end Go.Gx
namespace Go.Gx
theorem QeR(f g:List Int): ∀k,YT g f k= -YT f g k
  |0=>by simp [YT]
  |k+1=>by
    rw[YT,YT]
    by_cases h:co f k=co g k
    · rw[if_pos h,if_pos h.symm,QeR f g k]
    · rw[if_neg h,if_neg fun e=>h e.symm]
      have :=Zi (co f k) (co g k)
      have :=Zi (co g k) (co f k)
      omega
theorem Qd7{f g h:List Int}: ∀k,YT f g k<0→YT g h k<0→YT f h k<0
  |0,h1,_=>by simp [YT] at h1
  |k+1,h1,h2=>by
    rw[YT] at h1 h2⊢
    have c1:=Zi (co f k) (co g k)
    have c2:=Zi (co g k) (co h k)
    have c3:=Zi (co f k) (co h k)
    by_cases e1:co f k=co g k
    · rw[if_pos e1] at h1
      by_cases e2:co g k=co h k
      · rw[if_pos e2] at h2
        rw[if_pos (e1.trans e2)]
        exact Qd7 k h1 h2
      · rw[if_neg e2] at h2
        rw[if_neg (by omega)]
        omega
    · rw[if_neg e1] at h1
      by_cases e2:co g k=co h k
      · rw[if_neg (by omega)];omega
      · rw[if_neg e2] at h2
        rw[if_neg (by omega)];omega
theorem Qbe(f g:List Int):Qbv g f= -Qbv f g:=by
  unfold Qbv
  rcases Nat.lt_trichotomy f.length g.length with h|h|h
  · rw[if_neg (Nat.lt_asymm h),if_pos h,if_pos h];rfl
  · rw[if_neg (by omega),if_neg (by omega),if_neg (by omega),if_neg (by omega),h]
    exact QeR f g _
  · rw[if_pos h,if_neg (Nat.lt_asymm h),if_pos h]
theorem Qf7{f g h:List Int}(h1:Qbv f g<0)(h2:Qbv g h<0):Qbv f h<0:=by
  unfold Qbv at *
  by_cases a1:f.length<g.length
  · by_cases b1:g.length<h.length
    · rw[if_pos (by omega)];decide
    · rw[if_neg b1] at h2
      split at h2
      · omega
      · rw[if_pos (by omega)];decide
  · rw[if_neg a1] at h1
    split at h1
    · omega
    · rename_i a2
      by_cases b1:g.length<h.length
      · rw[if_pos (by omega)];decide
      · rw[if_neg b1] at h2
        split at h2
        · omega
        · rename_i b2
          rw[if_neg (by omega),if_neg (by omega)]
          rw[show g.length=f.length by omega] at h2
          exact Qd7 _ h1 h2
theorem QbL(f:List Int):Qbv f f=0:=Qag.2 rfl
theorem QiR: ∀{a b:List (List Int)},(a.Pairwise fun x y=>Qbv x y<0)→(b.Pairwise fun x y=>Qbv x y<0)→(∀e,e∈a↔e∈b)→a=b
  | [],[],_,_,_=>rfl
  | [],y::b,_,_,h=>absurd ((h y).2 (by simp)) (by simp)
  |x::a,[],_,_,h=>absurd ((h x).1 (by simp)) (by simp)
  |x::a,y::b,ha,hb,h=>by
    have⟨a1,a2⟩:=List.pairwise_cons.1 ha
    have⟨b1,b2⟩:=List.pairwise_cons.1 hb
    have hxy:x=y:=by
      rcases List.mem_cons.1 ((h x).1 (by simp)) with h1|h1
      · exact h1
      · rcases List.mem_cons.1 ((h y).2 (by simp)) with h2|h2
        · exact h2.symm
        · have c1:=b1 x h1
          have c2:=a1 y h2
          have :=Qbe x y
          omega
    subst hxy
    rw[QiR a2 b2 fun e=>⟨fun he=> ?_,fun he=> ?_⟩]
    · rcases List.mem_cons.1 ((h e).1 (by simp [he])) with h1|h1
      · subst h1;have :=a1 e he;rw[QbL] at this;omega
      · exact h1
    · rcases List.mem_cons.1 ((h e).2 (by simp [he])) with h1|h1
      · subst h1;have :=b1 e he;rw[QbL] at this;omega
      · exact h1
section
variable{κ:Type}
theorem QkJ{l:List κ}{i:Nat}{k:κ}(h:l.Nodup)(hk:l[i]? =some k):k∉l.take i:=fun hm=>by
  obtain⟨j,hj,e⟩:=List.getElem_of_mem hm
  rw[List.length_take] at hj
  rw[List.getElem?_eq_some_iff] at hk
  obtain⟨hi,e2⟩:=hk
  rw[List.getElem_take] at e
  have :=(List.pairwise_iff_getElem.1 h) j i (by omega) hi (by omega)
  exact this (e.trans e2.symm)
theorem Qde{l:List κ}{i:Nat}{k x:κ}(hk:l[i]? =some k):x∈l.take (i+1)↔x∈l.take i∨x=k:=by
  rw[List.take_add_one,hk];simp
end
section
variable{κ:Type}[DecidableEq κ]
structure Cl(key:QP→κ)(k:κ)(x:List Int):Prop where
  n:Nrm x
  v: ∀π,Irr π→va π (P x)=if key π=k then 1 else 0
theorem Cl.ex{key:QP→κ}{k:κ}{x:List Int}(h:Cl key k x)(h2:2≤x.length): ∃π,Irr π∧π∣P x∧key π=k:=by
  obtain⟨π,hπ,hd⟩:=Qbl (f:=P x) (by rw[Yj,h.n.t];exact h2)
  have h1:=(XM hπ h.n.ne).1 hd
  rw[h.v π hπ] at h1
  by_cases hk:key π=k
  · exact⟨π,hπ,hd,hk⟩
  · rw[if_neg hk] at h1;omega
theorem Cl.eq{key:QP→κ}{k:κ}{x y:List Int}(h:Cl key k x)(h':Cl key k y):x=y:=h.n.eq_va h'.n fun π hπ=>by rw[h.v π hπ,h'.v π hπ]
theorem Cl.sqf{key:QP→κ}{k:κ}{x:List Int}(h:Cl key k x):Qem (P x) (P (Xn x)):=by
  have :InI (P x) (der (P x)) 1:=(Qav h.n.ne).2 fun π hπ=>by rw[h.v π hπ];split<;>omega
  rw[QgV] at this;exact this
theorem Cl.cop{key:QP→κ}{k l:κ}{x y:List Int}(h:Cl key k x)(h':Cl key l y)(hk:k≠l):Qem (P x) (P y):=QdH.2 fun π hπ h1 h2=>by
  have a:=(XM hπ h.n.ne).1 h1
  have b:=(XM hπ h'.n.ne).1 h2
  rw[h.v π hπ] at a
  rw[h'.v π hπ] at b
  by_cases e:key π=k
  · rw[if_neg fun e'=>hk (e.symm.trans e')] at b;omega
  · rw[if_neg e] at a;omega
structure Qcp (key:QP→κ) (D:κ→Prop) (os:List (List Int)) (ls:List κ):Prop where
  len:ls.length=os.length
  nd:ls.Nodup
  cl: ∀(i:Nat)(x:List Int)(k:κ),os[i]? =some x→ls[i]? =some k→Cl key k x∧2≤x.length
  dn: ∀l∈ls,D l
  cov: ∀π,Irr π→D (key π)→key π∈ls
theorem Qcp.nil{key:QP→κ}:Qcp key (fun _=>False) [] []:=⟨rfl,List.nodup_nil,by simp,by simp,fun _ _ h=>h.elim⟩
theorem Qcp.mono{key:QP→κ}{D D':κ→Prop}{os:List (List Int)}{ls:List κ}(h:Qcp key D os ls)(h1: ∀l,D l→D' l)(h2: ∀π,Irr π→D' (key π)→D (key π)):Qcp key D' os ls:=
  ⟨h.len,h.nd,h.cl,fun l hl=>h1 l (h.dn l hl),fun π hπ hd=>h.cov π hπ (h2 π hπ hd)⟩
theorem Qcp.add{key:QP→κ}{D:κ→Prop}{os:List (List Int)}{ls:List κ}{x:List Int}{k:κ}(h:Qcp key D os ls)(hx:Cl key k x)(hk: ¬D k)(h2:2≤x.length):Qcp key (fun l=>D l∨l=k) (os++[x]) (ls++[k]):=by
  refine⟨by simp [h.len],List.nodup_append.2 ⟨h.nd,by simp,fun a ha b hb e=> ?_⟩,fun i y l hy hl=> ?_,fun l hl=> ?_,fun π hπ hd=> ?_⟩
  · simp at hb;subst hb;exact hk (e▸h.dn a ha)
  · rcases Nat.lt_trichotomy i os.length with h1|h1|h1
    · rw[List.getElem?_append_left h1] at hy
      rw[List.getElem?_append_left (by rw[h.len];exact h1)] at hl
      exact h.cl i y l hy hl
    · subst h1
      rw[←h.len] at hl
      simp at hy hl
      subst hy hl
      exact⟨hx,h2⟩
    · rw[List.getElem?_eq_none (by simp;omega)] at hy;cases hy
  · rcases List.mem_append.1 hl with h1|h1
    · exact .inl (h.dn l h1)
    · simp at h1;exact .inr h1
  · rcases hd with h1|h1
    · exact List.mem_append_left _ (h.cov π hπ h1)
    · exact List.mem_append_right _ (by simp [h1])
theorem Qcp.skip{key:QP→κ}{D:κ→Prop}{os:List (List Int)}{ls:List κ}{x:List Int}{k:κ}(h:Qcp key D os ls)(hx:Cl key k x)(h2:x.length<2)(hk: ¬D k):Qcp key D os ls∧ ∀π,Irr π→key π≠k:=by
  refine⟨h,fun π hπ e=> ?_⟩
  have h1:=hx.v π hπ
  rw[if_pos e] at h1
  have h3:=QfZ hπ hx.n.ne
  rw[Yj,hx.n.t] at h3
  omega
theorem Qcp.more{key:QP→κ}{D:κ→Prop}{os:List (List Int)}{ls:List κ}{x:List Int}{k:κ}(h:Qcp key D os ls)(hx:Cl key k x)(hk: ¬D k): ∃ls',Qcp key (fun l=>D l∨l=k) (if 2≤x.length then os++[x] else os) ls':=by
  by_cases h2:2≤x.length
  · rw[if_pos h2];exact⟨_,h.add hx hk h2⟩
  · rw[if_neg h2]
    have⟨_,hn⟩:=h.skip hx (by omega) hk
    exact⟨ls,h.mono (fun l=> .inl) fun π hπ hd=>hd.resolve_right (hn π hπ)⟩
def Qms(key:QP→κ)(z:κ)(bs:List (List Int))(ks:List κ):Prop:=Qcp key (fun l=>l≠z) bs ks
theorem Qms.start{key:QP→κ}{z:κ}(h: ∀π,Irr π→key π=z):Qms key z [] []:=Qcp.nil.mono (fun _ h=>h.elim) fun π hπ hd=>absurd (h π hπ) hd
section
variable(key:QP→κ)(v:QP→Nat)(z:κ)(ks:List κ)(js:List Nat)
abbrev Qvo(π:QP):κ×Nat:=(key π,v π)
structure Qse (k:κ) (i:Nat) (x:List Int):Prop where
  n:Nrm x
  v: ∀π,Irr π→va π (P x)=if key π=k∧v π∉js.take i then 1 else 0
structure Qsf (m:Nat) (j:Nat) (x:List Int):Prop where
  n:Nrm x
  v: ∀π,Irr π→va π (P x)=if v π=j∧key π∉ks.take m then 1 else 0
end
variable{key:QP→κ}{v:QP→Nat}{z k:κ}{ks:List κ}{js:List Nat}{e i j:Nat}{x y g x' y' d:List Int}
theorem Qse.start(h:Cl key k x):Qse key v js k 0 x:=⟨h.n,fun π hπ=>by rw[h.v π hπ];simp⟩
theorem Qsf.start(h:Cl v j y):Qsf key v ks 0 j y:=⟨h.n,fun π hπ=>by rw[h.v π hπ];simp⟩
theorem Qse.step(hx:Qse key v js k i x)(hg:Cl (Qvo key v) (k,j) g)(hj:js[i]? =some j)(hnd:js.Nodup)(e1:P x=P x'*P g)(ht:Xa x'=x'):Qse key v js k (i+1) x':=by
  have hx':P x'≠0:=fun e'=>hx.n.ne (by rw[e1,e',XG])
  refine⟨hx.n.quo hg.n.s e1 ht,fun π hπ=> ?_⟩
  have h1:=hx.v π hπ
  rw[e1,Qaz hπ hx' hg.n.ne,hg.v π hπ] at h1
  have hnj:=QkJ hnd hj
  have hm:=Qde (x:=v π) hj
  by_cases a:key π=k
  · by_cases b:v π=j
    · rw[if_pos (by show(key π,v π)=(k,j);rw[a,b]),if_pos ⟨a,b▸hnj⟩] at h1
      rw[if_neg fun h=>h.2 (hm.2 (.inr b))];omega
    · rw[if_neg fun h=>b (by injection h)] at h1
      by_cases c:v π∈js.take i
      · rw[if_neg fun h=>h.2 c] at h1
        rw[if_neg fun h=>h.2 (hm.2 (.inl c))];omega
      · rw[if_pos ⟨a,c⟩] at h1
        rw[if_pos ⟨a,fun h=>(hm.1 h).elim c b⟩];omega
  · rw[if_neg fun h=>a (by injection h),if_neg fun h=>a h.1] at h1
    rw[if_neg fun h=>a h.1];omega
theorem Qsf.step(hy:Qsf key v ks e j y)(hg:Cl (Qvo key v) (k,j) g)(hk:ks[e]? =some k)(hnd:ks.Nodup)(e1:P y=P y'*P g)(ht:Xa y'=y'):Qsf key v ks (e+1) j y':=by
  have hy':P y'≠0:=fun e'=>hy.n.ne (by rw[e1,e',XG])
  refine⟨hy.n.quo hg.n.s e1 ht,fun π hπ=> ?_⟩
  have h1:=hy.v π hπ
  rw[e1,Qaz hπ hy' hg.n.ne,hg.v π hπ] at h1
  have hnk:=QkJ hnd hk
  have hm:=Qde (x:=key π) hk
  by_cases b:v π=j
  · by_cases a:key π=k
    · rw[if_pos (by show(key π,v π)=(k,j);rw[a,b]),if_pos ⟨b,a▸hnk⟩] at h1
      rw[if_neg fun h=>h.2 (hm.2 (.inr a))];omega
    · rw[if_neg fun h=>a (by injection h)] at h1
      by_cases c:key π∈ks.take e
      · rw[if_neg fun h=>h.2 c] at h1
        rw[if_neg fun h=>h.2 (hm.2 (.inl c))];omega
      · rw[if_pos ⟨b,c⟩] at h1
        rw[if_pos ⟨b,fun h=>(hm.1 h).elim c a⟩];omega
  · rw[if_neg fun h=>b (by injection h),if_neg fun h=>b h.1] at h1
    rw[if_neg fun h=>b h.1];omega
theorem Qse.rest(hx:Qse key v js k i x)(hi:js.length≤i)(hz:0∉js)(hc: ∀π,Irr π→v π≠0→v π∈js):Cl (Qvo key v) (k,0) x:=by
  refine⟨hx.n,fun π hπ=> ?_⟩
  rw[hx.v π hπ,List.take_of_length_le hi]
  by_cases a:key π=k
  · by_cases b:v π=0
    · rw[if_pos ⟨a,b▸hz⟩,if_pos (by show(key π,v π)=(k,0);rw[a,b])]
    · rw[if_neg fun h=>h.2 (hc π hπ b),if_neg fun h=>b (by injection h)]
  · rw[if_neg fun h=>a h.1,if_neg fun h=>a (by injection h)]
theorem Qsf.rest(hy:Qsf key v ks e j y)(he:ks.length≤e)(hz:z∉ks)(hc: ∀π,Irr π→key π≠z→key π∈ks):Cl (Qvo key v) (z,j) y:=by
  refine⟨hy.n,fun π hπ=> ?_⟩
  rw[hy.v π hπ,List.take_of_length_le he]
  by_cases b:v π=j
  · by_cases a:key π=z
    · rw[if_pos ⟨b,a▸hz⟩,if_pos (by show(key π,v π)=(z,j);rw[a,b])]
    · rw[if_neg fun h=>h.2 (hc π hπ a),if_neg fun h=>a (by injection h)]
  · rw[if_neg fun h=>b h.1,if_neg fun h=>b (by injection h)]
def D1(ks:List κ)(js:List Nat)(e i:Nat)(l:κ×Nat):Prop:=l.1∈ks.take e∨(ks[e]? =some l.1∧l.2∈js.take i)
variable{os:List (List Int)}{ls:List (κ×Nat)}
theorem Qms.nz{bs:List (List Int)}(h:Qms key z bs ks):z∉ks:=fun hm=>h.dn z hm rfl
theorem Qms.map{μ:Type}[DecidableEq μ]{bs:List (List Int)}{key':QP→μ}{z':μ}(h:Qms key z bs ks)(f:κ→μ)(hf: ∀a b,f a=f b→a=b)(hk: ∀π,Irr π→key' π=f (key π))(hz:z'=f z):Qms key' z' bs (ks.map f):=by
  refine⟨by simp [h.len],?_,fun i x k hx hk'=> ?_,fun l hl=> ?_,fun π hπ hd=> ?_⟩
  · exact List.Pairwise.map f (fun a b hab e=>hab (hf _ _ e)) h.nd
  · rw[List.getElem?_map] at hk'
    cases hc:ks[i]? with
    |none=>rw[hc] at hk';cases hk'
    |some k0=>
      rw[hc] at hk'
      injection hk' with hk'
      subst hk'
      have h1:=h.cl i x k0 hx hc
      refine⟨⟨h1.1.n,fun π hπ=> ?_⟩,h1.2⟩
      rw[h1.1.v π hπ,hk π hπ]
      by_cases e:key π=k0
      · rw[if_pos e,if_pos (by rw[e])]
      · rw[if_neg e,if_neg fun e'=>e (hf _ _ e')]
  · obtain⟨l0,h0,rfl⟩:=List.mem_map.1 hl
    rw[hz]
    exact fun e=>h.dn l0 h0 (hf _ _ e)
  · rw[hk π hπ] at hd⊢
    refine List.mem_map.2 ⟨key π,h.cov π hπ fun e=>hd ?_,rfl⟩
    rw[hz,e]
end
noncomputable def Qi5 (fs:List QP) (π:QP):List Nat:=fs.map (va π)
def QhN(fs:List QP):List Nat:=fs.map fun _=>0
def ZU(fs:List QP)(bs:List (List Int)):Prop:= ∃ks,Qms (Qi5 fs) (QhN fs) bs ks
theorem ZU.nil:ZU [] []:=⟨[],Qms.start fun _ _=>rfl⟩
theorem ZU.cons{fs:List QP}{f:QP}{os:List (List Int)}{ls:List (List Nat×Nat)}(h:Qms (Qvo (Qi5 fs) fun π=>va π f) (QhN fs,0) os ls):ZU (f::fs) os:=
  ⟨_,h.map (fun l=>l.2::l.1) (fun a b e=>by injection e with e1 e2;exact Prod.ext e2 e1) (fun π hπ=>rfl) rfl⟩
theorem ZU.each{fs:List QP}{bs:List (List Int)}(h:ZU fs bs): ∀x∈bs,2≤x.length∧ ∃k,k≠QhN fs∧Cl (Qi5 fs) k x:=fun x hx=>by
  obtain⟨ks,h⟩:=h
  obtain⟨i,hi,rfl⟩:=List.getElem_of_mem hx
  have hk:i<ks.length:=by rw[h.len];exact hi
  have h1:=h.cl i bs[i] ks[i] (List.getElem?_eq_getElem hi) (List.getElem?_eq_getElem hk)
  exact⟨h1.2,_,h.dn _ (List.getElem_mem hk),h1.1⟩
theorem ZU.cover{fs:List QP}{bs:List (List Int)}(h:ZU fs bs){π:QP}(hπ:Irr π)(hk:Qi5 fs π≠QhN fs): ∃x∈bs,Cl (Qi5 fs) (Qi5 fs π) x:=by
  obtain⟨ks,h⟩:=h
  have hm:=h.cov π hπ hk
  obtain⟨i,hi,e⟩:=List.getElem_of_mem hm
  have hb:i<bs.length:=by rw[←h.len];exact hi
  have h1:=h.cl i bs[i] ks[i] (List.getElem?_eq_getElem hb) (List.getElem?_eq_getElem hi)
  rw[e] at h1
  exact⟨_,List.getElem_mem hb,h1.1⟩
theorem ZU.cop{fs:List QP}{bs:List (List Int)}(h:ZU fs bs):bs.Pairwise fun x y=>Qem (P x) (P y):=by
  obtain⟨ks,h⟩:=h
  refine List.pairwise_iff_getElem.2 fun i j hi hj hij=> ?_
  have hl:=h.len
  have h1:=h.cl i bs[i] ks[i] (List.getElem?_eq_getElem hi) (List.getElem?_eq_getElem (by omega))
  have h2:=h.cl j bs[j] ks[j] (List.getElem?_eq_getElem hj) (List.getElem?_eq_getElem (by omega))
  exact h1.1.cop h2.1 ((List.pairwise_iff_getElem.1 h.nd) i j (by omega) (by omega) hij)
theorem ZU.perm{fs:List QP}{bs cs:List (List Int)}(h:ZU fs bs)(hp:bs.Perm cs):ZU fs cs:=by
  have key: ∀(l:List (List Int)),l.Perm bs→ ∃ks,Qms (Qi5 fs) (QhN fs) l ks:=fun l hl=>by
    have hcop:l.Pairwise fun x y=>Qem (P x) (P y):=(List.Perm.pairwise_iff (fun {a b} hab=>QdH.2 fun π hπ h1 h2=>QdH.1 hab π hπ h2 h1) hl).2 h.cop
    have hk: ∀x∈l,2≤x.length∧ ∃k,k≠QhN fs∧Cl (Qi5 fs) k x:=fun x hx=>h.each x (hl.mem_iff.1 hx)
    have hcov: ∀π,Irr π→Qi5 fs π≠QhN fs→ ∃x∈l,Cl (Qi5 fs) (Qi5 fs π) x:=fun π hπ hkz=>by
      obtain⟨x,hx,hc⟩:=h.cover hπ hkz
      exact⟨x,hl.mem_iff.2 hx,hc⟩
    have build: ∀(m:List (List Int)),m.Pairwise (fun x y=>Qem (P x) (P y))→(∀x∈m,2≤x.length∧ ∃k,k≠QhN fs∧Cl (Qi5 fs) k x)→ ∃ks:List (List Nat),ks.length=m.length∧ks.Nodup∧(∀(i:Nat)(x:List Int)(k:List Nat),m[i]? =some x→ks[i]? =some k→Cl (Qi5 fs) k x∧2≤x.length)∧(∀k∈ks,k≠QhN fs∧ ∃x∈m,Cl (Qi5 fs) k x):=fun m=>by
      induction m with
      |nil=>intro _ _;exact⟨[],rfl,List.nodup_nil,by simp,by simp⟩
      |cons a m ih=>
        intro hpw hm
        have⟨p1,p2⟩:=List.pairwise_cons.1 hpw
        obtain⟨ks,k1,k2,k3,k4⟩:=ih p2 fun x hx=>hm x (by simp [hx])
        obtain⟨ha,k,hkz,hcl⟩:=hm a (by simp)
        refine⟨k::ks,by simp [k1],List.nodup_cons.2 ⟨fun hmem=> ?_,k2⟩,fun i x k' hx hk'=> ?_,fun k' hk'=> ?_⟩
        · obtain⟨_,x,hx,hcx⟩:=k4 k hmem
          have hax:=hcl.eq hcx
          obtain⟨π,hπ,hd,_⟩:=hcl.ex ha
          exact QdH.1 (p1 x hx) π hπ hd (hax▸hd)
        · cases i with
          |zero=>simp at hx hk';subst hx hk';exact⟨hcl,ha⟩
          |succ i=>simp at hx hk';exact k3 i x k' hx hk'
        · rcases List.mem_cons.1 hk' with h1|h1
          · subst h1;exact⟨hkz,a,by simp,hcl⟩
          · obtain⟨h2,x,hx,h3⟩:=k4 k' h1;exact⟨h2,x,by simp [hx],h3⟩
    obtain⟨ks,k1,k2,k3,k4⟩:=build l hcop hk
    refine⟨ks,k1,k2,k3,fun k hk=>(k4 k hk).1,fun π hπ hd=> ?_⟩
    obtain⟨x,hx,hc⟩:=hcov π hπ hd
    obtain⟨i,hi,e⟩:=List.getElem_of_mem hx
    have hki:i<ks.length:=by omega
    have h5:=k3 i x ks[i] (by rw[List.getElem?_eq_getElem hi,e]) (List.getElem?_eq_getElem hki)
    have hl2:=h5.2
    obtain⟨ρ,hρ,hd2,hk2⟩:=h5.1.ex hl2
    have h6:=hc.v ρ hρ
    have h7:=(XM hρ hc.n.ne).1 hd2
    rw[h6] at h7
    have h8:Qi5 fs ρ=Qi5 fs π:=by apply Classical.byContradiction;intro hx';rw[if_neg hx'] at h7;omega
    rw[←h8,hk2]
    exact List.getElem_mem hki
  exact key cs hp.symm
end Go.Gx
