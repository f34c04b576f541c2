/-
  SuitThy, SumThy, CntThy, HbThy, AscThy, TryThy, FcThy, RootThy, EisThy, ShfThy, FitThy, UniThy, UniThy2, RootThy2
-/
import Derived.Test.YtjdpemcnlejpfaaGreatDoorSepMath
import Derived.Test.YtjdpemcnlejpfaaGreatDoorGcdMath
import Derived.Test.YtjdpemcnlejpfaaGreatDoorModDiv
import Derived.Test.YtjdpemcnlejpfaaGreatDoorDecP
import Derived.Test.YtjdpemcnlejpfaaGreatDoorDivMath2
set_option linter.all false
namespace Go.Gx
theorem QiE{b:List Int}{m:Nat}{L:Int}(hL:co b m=L)(hb: ∀i,m<i→co b i=0): ∀(k:Nat)(a:List Int),(∀i,m+k≤i→co a i=0)→
    ∃q R:List Int,(∀x:Rat,evQ a x*((L:Int):Rat)^k=evQ q x*evQ b x+evQ R x)∧ ∀i,m≤i→co R i=0
  |0,a,ha=>⟨[],a,fun x=>by simp [evQ];grind,fun i hi=>ha i (by omega)⟩
  |k+1,a,ha=>by
    obtain⟨q,R,h1,h2⟩:=QiE hL hb k (XD (Xf a L) (Xg (List.replicate k 0++[co a (m+k)]) b)) fun i hi=>by
      rw[ZG,Xi,QmM]
      rw[if_pos (by omega)]
      rcases Nat.lt_or_ge (m+k) i with h|h
      · rw[ha i (by omega),hb (i -k) (by omega)];omega
      · obtain rfl:i=m+k:=by omega
        rw[Nat.add_sub_cancel,hL];omega
    refine⟨Xx q (Xf (List.replicate k 0++[co a (m+k)]) (L^k)),R,fun x=> ?_,h2⟩
    have :=h1 x
    rw[Qcf,XB,Qa2] at this
    rw[Yn,XB,QgO,Rat.pow_succ]
    grind
theorem QvL{a b:List Int}(hb:1≤(Xa b).length)(hab:(Xa b).length≤(Xa a).length): ∃q R,Psd a b q R:=by
  obtain⟨d,hd⟩: ∃d,(Xa b).length=d+1:=⟨(Xa b).length -1,by omega⟩
  have⟨h1,h2,_⟩:=Zj hd
  obtain⟨q,R,h3,h4⟩:=QiE h1 h2 ((Xa a).length -d) a fun i hi=>(XA a).1 i (by omega)
  refine⟨q,Xa R,fun x=> ?_,?_,XV _⟩
  · rw[hd,Nat.add_sub_cancel,Zt];exact h3 x
  · have h5:=(XA R).2
    rcases h5 with h5|h5
    · omega
    · have : ¬d≤(Xa R).length -1:=fun h=>h5 (h4 _ h)
      omega
theorem QjP{a0 b0:List Int}(hc:InI (P a0) (P b0) 1): ∀(N:Nat)(a b:List Int)(l s D:Int),QcU a0 b0 a b l s D→(Xa b).length≤N→2≤(Xa a).length→
    Sr 0 a0 b0 ((Xa a0).length -1) ((Xa b0).length -1) 0≠0
  |0,a,b,l,s,D,h,hN,_=>by have :=h.pb;omega
  |N+1,a,b,l,s,D,h,hN,h2=>by
    have hpb:=h.pb
    have hle:=h.sub.le
    by_cases h1:(Xa b).length=1
    · have e1:=h.sub.sr 0 0 (Nat.zero_le _) (by omega)
      have e2:=h.sub.top
      have e3:=h.sub.hb
      rw[h1] at e1 e2 e3
      rw[Qj0 (a:=a) (n:=(Xa a).length -1) (m:=0) rfl (fun x hx=>e3 x hx) (by omega)] at e1
      intro h0
      rw[h0,Int.natAbs_zero,Nat.mul_zero,Int.natAbs_pow] at e1
      have :0<(co b 0).natAbs^ ((Xa a).length -1 -0):=Nat.pow_pos (by rw[Nat.sub_self] at e2;omega)
      omega
    · obtain⟨q,R,p⟩:=QvL (a:=a) hpb (by omega)
      by_cases hR:R.length=0
      · exfalso
        have hg:=h.done p hR
        obtain⟨u,v,e⟩:=hc
        have hd:P b∣ (1:QP):=by rw[e];exact Qa7 (XJ _ hg.1) (XJ _ hg.2.1)
        have :=Qaj hd QkP
        rw[Qwi,Yj] at this
        omega
      · obtain⟨r,hr⟩: ∃r,r=(Xa R).map (fun x=>x.tdiv D):=⟨_,rfl⟩
        have hq:=h.quo p hr
        have hlt:=p.lt
        rcases Nat.lt_or_ge (Xa b).length (Xa a).length with hlt'|hge
        · exact QjP hc N b r _ _ _ (h.next p hr hR (.inr ⟨hlt',rfl⟩) rfl) (by omega) (by omega)
        · exact QjP hc N b r _ _ _ (h.next p hr hR (.inl ⟨by omega,rfl⟩) rfl) (by omega) (by omega)
theorem QvR{a b:List Int}(hc:InI (P a) (P b) 1)(h1:(Xa b).length≤(Xa a).length)(h2:1≤(Xa b).length)(h3:2≤(Xa a).length):Sr 0 a b ((Xa a).length -1) ((Xa b).length -1) 0≠0:=
  QjP hc _ a b _ _ _ (QcU.start h1 h2 rfl) (Nat.le_refl _) h3
theorem Qgy(b:List Int){t:Nat}: ∀{n:Nat},t<n→ ∃X,rowsOf b n=X++cs b t::rowsOf b t
  |0,h=>by omega
  |n+1,h=>by
    rcases Nat.lt_or_ge t n with h1|h1
    · obtain⟨X,hX⟩:=Qgy b h1
      exact⟨cs b n::X,by rw[rowsOf,hX];rfl⟩
    · obtain rfl:t=n:=by omega
      exact⟨[],rfl⟩
theorem QjR{q b:List Int}{d c:Nat}(hq: ∀u,d≤u→co q u=0):Ye (fun u=>co q u*cs b u c) d=co (Xg q b) c:=by
  have :=QoM (a:=Xg q b) (b:=b) (q:=q) (r:=[]) (L:=1) (β:=0) (d:=d) (fun u hu=>hq u (by omega)) (fun x=>by simp) 0 c
  rw[YA,hq d (Nat.le_refl _)] at this
  simp only[Nat.zero_add,Int.one_mul,Int.zero_mul,Int.add_zero] at this
  have e:co (Xg q b) c=cs (Xg q b) 0 c:=by unfold cs;simp
  rw[e,this,Int.zero_add]
theorem QoF{p n:Nat}{a g:List Int}{q:List Nat}{e:Nat}(hq:XE p q)(hg:Mon g e)(ha: ∀i,n<i→co a i=0)(h:CgV (p:Int) a (Xg (zl q) g)):(∀i,n<i+e→co (zl q) i=0)∧(∀i,i+e=n→(p:Int)∣co a n -co (zl q) i):=by
  have hz: ∀i,q.length≤i→co (zl q) i=0:=fun i hi=>XX (by rw[Zl];exact hi)
  have h1: ∀i,n<i+e→co (zl q) i=0:=fun i hi=>by
    apply Classical.byContradiction
    intro h0
    have hil:i<q.length:=by apply Nat.lt_of_not_le;exact fun hc=>h0 (hz i hc)
    have hlast:=hq.2 (by omega)
    have htop:=(Qf8 (f:=zl q) (g:=g) (m:=q.length -1) (n:=e) (fun j hj=>hz j (by omega)) hg.2).1
    rw[hg.1,Int.mul_one,ZS] at htop
    obtain⟨k,hk⟩:=h.cof (q.length -1+e)
    rw[htop,ha _ (by omega)] at hk
    have hlt:=hq.1 (q.getD (q.length -1) 0) (by
      have :q.length -1<q.length:=by omega
      simp only[List.getD,List.getElem?_eq_getElem this,Option.getD_some];exact List.getElem_mem this)
    have :((p:Nat):Int)∣ (q.getD (q.length -1) 0:Nat):=⟨-k,by grind⟩
    have :=Nat.le_of_dvd hlast (Int.ofNat_dvd.1 this)
    omega
  refine⟨h1,fun i hi=> ?_⟩
  have htop:=(Qf8 (f:=zl q) (g:=g) (m:=i) (n:=e) (fun j hj=>h1 j (by omega)) hg.2).1
  rw[hg.1,Int.mul_one,hi] at htop
  obtain⟨k,hk⟩:=h.cof n
  rw[htop] at hk
  exact⟨k,by omega⟩
theorem QtH{p n m:Nat}{a b:List Int}(hp:Xk p)(hn:1≤n)(ha: ∀i,n<i→co a i=0)(hb: ∀i,m<i→co b i=0)(hl: ¬(p:Int)∣co a n)(hr: ¬(p:Int)∣Sr 0 a b n m 0):Cop (p:Int) a b:=by
  have hp0:0<p:=by have :=hp.1;omega
  have hA:=XK hp0 a
  have hB:=XK hp0 b
  have cA:=YW hp0 a
  have cB:=YW hp0 b
  have hA0:0<(XR p a).length:=by
    apply Nat.pos_of_ne_zero
    intro h0
    obtain⟨k,hk⟩:=cA.cof n
    rw[ZS,List.eq_nil_of_length_eq_zero h0] at hk
    exact hl ⟨-k,by simp at hk;grind⟩
  by_cases hg:(XN p (XR p a) (XR p b)).length≤1
  · exact(ZC hp hA hB (by omega) hg).cg cA cB
  exfalso
  have hM:=Qac hp hA hB (by omega) (by omega)
  obtain⟨⟨w1,d1⟩,⟨w2,d2⟩⟩:=QbS hp _ (XR p a) (XR p b) hA hB (Nat.le_refl _) (by omega)
  change CgV (p:Int) (zl (XR p a)) (Xg w1 (zl (XN p (XR p a) (XR p b)))) at d1
  change CgV (p:Int) (zl (XR p b)) (Xg w2 (zl (XN p (XR p a) (XR p b)))) at d2
  generalize hgG:XN p (XR p a) (XR p b)=G at *
  have hGm:=hM.mz
  have hGl:=hM.pos
  obtain⟨e,he⟩: ∃e,G.length -1=e:=⟨_,rfl⟩
  rw[he] at hGm
  obtain⟨q1,hq1⟩: ∃q,XR p w1=q:=⟨_,rfl⟩
  obtain⟨q2,hq2⟩: ∃q,XR p w2=q:=⟨_,rfl⟩
  have k1:CgV (p:Int) a (Xg (zl q1) (zl G)):=cA.symm.trans (d1.trans ((by rw[←hq1];exact(YW hp0 w1).symm:CgV (p:Int) w1 (zl q1)).mul (CgV.refl _ _)))
  have k2:CgV (p:Int) b (Xg (zl q2) (zl G)):=cB.symm.trans (d2.trans ((by rw[←hq2];exact(YW hp0 w2).symm:CgV (p:Int) w2 (zl q2)).mul (CgV.refl _ _)))
  have⟨z1,t1⟩:=QoF (by rw[←hq1];exact XK hp0 _) hGm ha k1
  have⟨z2,_⟩:=QoF (by rw[←hq2];exact XK hp0 _) hGm hb k2
  have hen:e≤n:=by
    apply Nat.le_of_not_lt
    intro hlt
    refine hl ?_
    obtain⟨k,hk⟩:=k1.cof n
    have h0:co (Xg (zl q1) (zl G)) n=0:=by
      have hz: ∀i,co (zl q1) i=0:=fun i=>z1 i (by omega)
      rw[←QjR (d:=0) fun u _=>hz u];rfl
    rw[h0] at hk
    exact⟨k,by omega⟩
  obtain⟨t0,ht0⟩: ∃t0,t0+e=n:=⟨n -e,by omega⟩
  have hc:=t1 t0 ht0
  obtain⟨X,hX⟩:=Qgy b (show t0<n by omega)
  have hcomb:CgV (p:Int) (Xg (zl q2) a) (Xg (zl q1) b):=by
    obtain⟨u,hu⟩:=k1
    obtain⟨v,hv⟩:=k2
    refine⟨XD (Xg (zl q2) u) (Xg (zl q1) v),fun x=> ?_⟩
    have a1:=hu x;have a2:=hv x
    simp only[Xc,Xh] at a1 a2⊢
    rw[a1,a2];grind
  obtain⟨z,hz⟩:=hcomb
  have hzc: ∀c,co (Xg (zl q2) a) c=co (Xg (zl q1) b) c+(p:Int)*co z c:=fun c=>by
    have :=Qni (f:=Xg (zl q2) a) (g:=Xx (Xg (zl q1) b) (Xf z p)) (fun x=>by rw[Xd,Xm,hz x]) c
    rw[this,Xv,Xi,Int.mul_comm]
  obtain⟨cl,hcl⟩: ∃cl,QaL (n+m -0 -1) (n+m -2*0 -1)++[0]=cl:=⟨_,rfl⟩
  have hM:=Qai cl
  have hS:Sr 0 a b n m 0=det cl ((rowsOf a m++X)++cs b t0::rowsOf b t0):=by
    unfold Sr;rw[hcl,Nat.sub_zero,Nat.sub_zero,hX,List.append_assoc]
  have e1:=hM.smul (rowsOf a m++X) (co (zl q1) t0) (cs b t0) (rowsOf b t0)
  have e2:=Qeq hM (rowsOf a m++X) (rowsOf b t0) (fun c=>co (zl q1) t0*cs b t0 c) (fun t=>co (zl q1) t) (fun t=>cs b t) t0 (fun t ht=> .inr (Qdd ht))
  have e3:=Qeq hM (rowsOf a m++X) (rowsOf b t0) (fun c=>co (zl q1) t0*cs b t0 c+Ye (fun t=>co (zl q1) t*cs b t c) t0) (fun t=> -co (zl q2) t) (fun t=>cs a t) m (fun t ht=> .inl (List.mem_append_left _ (Qdd ht)))
  have e4:(fun c=>(co (zl q1) t0*cs b t0 c+Ye (fun t=>co (zl q1) t*cs b t c) t0)+Ye (fun t=> -co (zl q2) t*cs a t c) m)=(fun c=>(p:Int)*(fun c=> -co z c) c):=by
    funext c
    have s1:co (zl q1) t0*cs b t0 c+Ye (fun t=>co (zl q1) t*cs b t c) t0=co (Xg (zl q1) b) c:=by
      rw[←QjR (d:=t0+1) fun u hu=>z1 u (by omega),YA];omega
    have s2:Ye (fun t=> -co (zl q2) t*cs a t c) m= -co (Xg (zl q2) a) c:=by
      rw[←QjR (d:=m) fun u hu=>z2 u (by omega)]
      have : ∀n,Ye (fun t=> -co (zl q2) t*cs a t c) n= -Ye (fun t=>co (zl q2) t*cs a t c) n:=fun n=>by
        induction n with
        |zero=>rfl
        |succ n ih=>rw[YA,YA,ih,Int.neg_mul];omega
      exact this m
    rw[s1,s2,hzc c];grind
  rw[e4,hM.smul] at e3
  have e5:co (zl q1) t0*Sr 0 a b n m 0=(p:Int)*det cl ((rowsOf a m++X)++(fun c=> -co z c)::rowsOf b t0):=by rw[e3,e2,e1,hS]
  have hpd:(p:Int)∣co (zl q1) t0*Sr 0 a b n m 0:=⟨_,e5⟩
  have hcp: ¬(p:Int)∣co (zl q1) t0:=fun h=>hl (by have :=Int.dvd_add hc h;rwa [Int.sub_add_cancel] at this)
  have hgc:Int.gcd (co (zl q1) t0) (p:Int)=1:=by
    have h1:=QgU (n:=1) hp (a:=co (zl q1) t0) (fun h0=>hcp (by
      have :=QcZ hp0 (a:=co (zl q1) t0) (b:=0) (by rw[h0,Yb])
      obtain⟨k,hk⟩:=this
      exact⟨k,by omega⟩))
    rwa [Nat.pow_one] at h1
  exact hr (QcC hgc hpd)
def ppN(n:Nat):Nat:=match n with
  |0=>1
  |n+1=>if ZN n then n*ppN n else ppN n
def pbN(S:Nat→Bool):Nat→Nat
  |0=>1
  |n+1=>if ZN n&& !S n then n*pbN S n else pbN S n
def QeU(S:Nat→Bool):Nat→Nat
  |0=>0
  |n+1=>if ZN n&&S n then QeU S n+1 else QeU S n
theorem QvG{S:Nat→Bool}{B:Nat}(hB:1≤B): ∀n,n≤B→ppN n≤pbN S n*B^QeU S n
  |0,_=>by simp [ppN,pbN,QeU]
  |n+1,hn=>by
    have ih:=QvG (S:=S) hB n (by omega)
    unfold ppN pbN QeU
    cases hp:ZN n<;>cases hs:S n<;>simp only[Bool.false_and,Bool.true_and,Bool.not_false,Bool.not_true,if_false,if_true,Bool.false_eq_true]
    · exact ih
    · exact ih
    · rw[Nat.mul_assoc];exact Nat.mul_le_mul_left _ ih
    · rw[Nat.pow_succ,←Nat.mul_assoc,Nat.mul_comm n]
      exact Nat.mul_le_mul ih (by omega)
theorem QrY{S:Nat→Bool}{q:Nat}(hq:Xk q): ∀n,n≤q→n≤4096→Nat.gcd q (pbN S n)=1
  |0,_,_=>Nat.gcd_one_right _
  |n+1,h,h4=>by
    have ih:=QrY (S:=S) hq n (by omega) (by omega)
    unfold pbN
    split
    · rename_i hn
      have hp:Xk n:=(ZZ (by omega)).1 (by simp only[Bool.and_eq_true] at hn;exact hn.1)
      have h1:Nat.gcd q n=1:=by rw[Nat.gcd_comm];exact hq.2 n (by have :=hp.1;omega) (by omega)
      exact Nat.Coprime.mul_right h1 ih
    · exact ih
theorem QrZ{S:Nat→Bool}{E:Nat}(hE: ∀q,Xk q→q<4096→S q=false→q∣E): ∀n,n≤4096→pbN S n∣E
  |0,_=>Nat.one_dvd _
  |n+1,h=>by
    have ih:=QrZ hE n (by omega)
    unfold pbN
    split
    · rename_i hn
      simp only[Bool.and_eq_true,Bool.not_eq_true'] at hn
      have hp:Xk n:=(ZZ (by omega)).1 hn.1
      exact Nat.Coprime.mul_dvd_of_dvd_of_dvd (QrY hp n (Nat.le_refl _) (by omega)) (hE n hp (by omega) hn.2) ih
    · exact ih
theorem QpI{S:Nat→Bool}{E B:Nat}(hB:1≤B)(hB4:B≤4096)(hE0:0<E)(hE: ∀q,Xk q→q<4096→S q=false→q∣E)(h:E*B^4<ppN B):5≤QeU S B:=by
  apply Nat.le_of_not_lt
  intro hc
  have h1:=QvG (S:=S) hB B (Nat.le_refl _)
  have h2:=Nat.le_of_dvd hE0 (QrZ (S:=S) hE B hB4)
  have h3:B^QeU S B≤B^4:=Nat.pow_le_pow_right hB (by omega)
  have :=Nat.mul_le_mul h2 h3
  omega
theorem cnt_mono{S:Nat→Bool}{n:Nat}: ∀{m},n≤m→QeU S n≤QeU S m
  |0,h=>by rw[show n=0 by omega];exact Nat.le_refl _
  |m+1,h=>by
    rcases Nat.lt_or_ge m n with h1|h1
    · rw[show n=m+1 by omega];exact Nat.le_refl _
    · have :=cnt_mono (S:=S) h1
      have h2:QeU S m≤QeU S (m+1):=by
        show _≤ if ZN m&&S m then QeU S m+1 else QeU S m
        split<;>omega
      omega
theorem Qtv:2^5600<ppN 4096:=by decide+kernel
end Go.Gx
namespace Go.Gx
def Qbx(p:Nat)(f:List Int):Prop:=md p (ldP f)≠0∧(XN p (XR p f) (XR p (Xn (zl (XR p f))))).length=1
instance{p:Nat}{f:List Int}:Decidable (Qbx p f):=inferInstanceAs (Decidable (_∧_))
structure Qlv (p:Nat) (f:List Int) (l:List (List Nat)):Prop where
  pr:Xk p
  lead:md p (ldP f)≠0
  mon: ∀d∈l,Zw p d
  whole: ∀d∈l,Whole p d
  pw:Pw (p:Int) (l.map zl)
  good: ¬Qut p f l
section
variable{p:Nat}{f:List Int}{l:List (List Nat)}
theorem Qqg(hp:Xk p)(hs:Qbx p f)(hf:Zv p (zl (XS p (XO p (XR p f)))) l):Qlv p f l:=by
  have hp0:0<p:=by have :=hp.1;omega
  have⟨l1,l2⟩:=QkB hp0 hs.1
  have hc:=XK hp0 f
  have hg:=Qjw hp hf l1 l2
  rw[QbW hp.1 hf.mon] at hg
  have hq:=(QfB hp hc hs.2).2
  rw[hc.nrm] at hf
  exact⟨hp,hs.1,hf.mon,hf.whole,hf.pw hq,hg⟩
theorem Qlv.same(h:Qlv p f l):XO p (QcM p [md p (ldP f)] l)=XO p (XR p f):=by
  rcases Classical.em (XO p (QcM p [md p (ldP f)] l)=XO p (XR p f)) with h1|h1
  · exact h1
  · exact absurd (.inr h1) h.good
theorem Qlv.cg(h:Qlv p f l):CgV (p:Int) (Xf (pL (l.map zl)) (ldP f)) f:=by
  have hp0:0<p:=by have :=h.pr.1;omega
  have h1:=QnM hp0 (ld:=ldP f) (CgV.refl (p:Int) (pL (l.map zl)))
  have h2:=QeB hp0 l [md p (ldP f)]
  have h3:=QbK hp0 (QcM p [md p (ldP f)] l)
  rw[h.same] at h3
  exact h1.trans (h2.symm.trans (h3.symm.trans ((QbK hp0 _).trans (YW hp0 f))))
theorem Qlv.coa(h:Qlv p f l):CoA p l:=fun i j a b hij ha hb=>by
  have hma:=h.mon a (List.mem_of_getElem? ha)
  have hmb:=h.mon b (List.mem_of_getElem? hb)
  have h1:=h.pw.at i j (zl a) (zl b) (by omega) (by simp [ha]) (by simp [hb])
  unfold GC
  rw[hma.can.nrm,hmb.can.nrm]
  exact QdO h.pr hma.can hmb.can (by have :=hma.pos;omega) h1
theorem Qlv.start{k e:Nat}{L0 L1:List (List Int)}(h:Qlv p f l)(hn:Nrm f)(hk:1≤k)(hb:HB f (p^k))(hr:LReach p k f (Qae p l) (Qae p (Qaq p l)) L0 L1 e)(hx:e=k∨QfU f L0):
    QeK p k (L0.zip l) f∧(L0.zip l).map Prod.fst=L0∧L0.length=l.length:=by
  have hp2:=h.pr.1
  have em:=QbW hp2 h.mon
  obtain⟨n,hi⟩:=QkC h.pr h.mon (by rw[em];exact h.coa) (by rw[em];exact h.good) (by rw[em];exact hr)
  have hl:=(QkD hi).1
  have e1:(L0.zip l).map Prod.fst=L0:=by rw[List.map_fst_zip (by omega)]
  have e2:(L0.zip l).map Prod.snd=l:=by rw[List.map_snd_zip (by omega)]
  refine⟨⟨h.pr,hk,hn,h.lead,fun z hz=> ?_,?_,?_,hb⟩,e1,hl⟩
  · obtain⟨i,hiz⟩:=List.getElem?_of_mem hz
    rw[List.getElem?_zip_eq_some] at hiz
    obtain⟨h1,h2⟩:=hiz
    have hm:=h.mon z.2 (List.mem_of_getElem? h2)
    have hb':(Qae p l)[i]? =some (Xa (z.2.map (QdX p))):=by unfold Qae;rw[List.getElem?_map,h2];rfl
    obtain⟨d,m1,m2,m3⟩:=hi.fit.at i z.1 _ h1 hb'
    have m4:=hm.mon hp2
    have ed:=m2.same m4
    subst ed
    exact⟨hm,h.whole z.2 (List.mem_of_getElem? h2),⟨_,m1,hm.mz⟩,m3.trans (QgB p z.2)⟩
  · have :(L0.zip l).map (fun z:List Int×List Nat=>zl z.2)=l.map zl:=by rw[←e2,List.map_map];simp [e2,Function.comp_def]
    rw[this];exact h.pw
  · unfold pA
    rw[e1]
    exact QnN hi hx
def QgH(ds:List Nat)(φ:Nat→Bool):Prop:= ∀S C:List Nat,Spl ds S C→φ S.sum=true
theorem QhD{α:Type}{a:α}: ∀{Z S C:List α},Spl (Z++[a]) S C→(∃S',S=S'++[a]∧Spl Z S' C)∨ ∃C',C=C'++[a]∧Spl Z S C'
  | [],S,C,h=>by
    cases h with
    |l h=>cases h;exact .inl ⟨[],rfl,.nil⟩
    |r h=>cases h;exact .inr ⟨[],rfl,.nil⟩
  |b::Z,S,C,h=>by
    cases h with
    |l h=>
      rcases QhD h with⟨S',rfl,h1⟩| ⟨C',rfl,h1⟩
      · exact .inl ⟨b::S',rfl,h1.l⟩
      · exact .inr ⟨C',rfl,h1.l⟩
    |r h=>
      rcases QhD h with⟨S',rfl,h1⟩| ⟨C',rfl,h1⟩
      · exact .inl ⟨S',rfl,h1.r⟩
      · exact .inr ⟨b::C',rfl,h1.r⟩
theorem QgH.nil{φ:Nat→Bool}(h:φ 0=true):QgH [] φ:=fun S C hs=>by cases hs;exact h
theorem QgH.next{ds:List Nat}{d:Nat}{φ ψ:Nat→Bool}(h:QgH ds φ)(e: ∀j,ψ j=if d≤j then φ j||φ (j -d) else φ j):QgH (ds++[d]) ψ:=fun S C hs=>by
  rw[e]
  rcases QhD hs with⟨S',rfl,h1⟩| ⟨C',rfl,h1⟩
  · have h2:=h S' C h1
    rw[List.sum_append,if_pos (by simp)]
    simp [h2]
  · have h2:=h S C' h1
    split<;>simp [h2]
theorem Qn0: ∀{Z:LZs},(∀z∈Z,Mon z.1 (z.2.length -1))→Mon (pA Z) (Z.map fun z=>z.2.length -1).sum
  | [],_=>Qat
  |z::Z,h=>(h z (by simp)).mul (Qn0 fun y hy=>h y (by simp [hy]))
theorem QrB{q d:Nat}{A g:List Int}(hq:2≤q)(hgc:Int.gcd (ldP g) (q:Int)=1)(h0:ldP g≠0)(hd:Mon A d)(hc:CgV (q:Int) (Xf A (ldP g)) g):(Xa g).length=d+1:=by
  obtain⟨b,hb⟩:=Qa5 h0
  have⟨h1,h2,_⟩:=Zj hb
  have hdv: ∀i,(q:Int)∣ldP g*co A i -co g i:=fun i=>by
    obtain⟨k,hk⟩:=hc.cof i
    rw[Xi] at hk
    exact⟨k,by rw[Int.mul_comm (ldP g)];omega⟩
  rcases Nat.lt_trichotomy b d with hlt|heq|hgt
  · exfalso
    have :=hdv d
    rw[hd.1,h2 d hlt,Int.sub_zero] at this
    have :=QcC hgc this
    have :=Int.le_of_dvd (by omega) this
    omega
  · omega
  · exfalso
    have :=hdv b
    rw[hd.2 b hgt,h1,Int.mul_zero,Int.zero_sub] at this
    have h3:(q:Int)∣ldP g*1:=by rw[Int.mul_one];exact(Int.dvd_neg).1 this
    have :=QcC hgc h3
    have :=Int.le_of_dvd (by omega) this
    omega
def Qbw(f:List Int)(φ:Nat→Bool):Prop:= ∀g h:List Int,P f=P g*P h→φ ((Xa g).length -1)=true
theorem Qlv.poss{φ:Nat→Bool}(h:Qlv p f l)(hφ:QgH (l.map fun d=>d.length -1) φ):Qbw f φ:=fun g r e=>by
  have hz: ∀z∈l.map fun d=>(zl d,d),LZ p z:=fun z hz=>by
    obtain⟨d,hd,rfl⟩:=List.mem_map.1 hz
    exact⟨h.mon d hd,h.whole d hd,⟨_,(h.mon d hd).mz,(h.mon d hd).mz⟩,CgV.refl _ _⟩
  have e1:(l.map fun d=>(zl d,d)).map (fun z:List Int×List Nat=>zl z.2)=l.map zl:=by rw[List.map_map];rfl
  have e2:pA (l.map fun d=>(zl d,d))=pL (l.map zl):=by unfold pA;rw[List.map_map];rfl
  obtain⟨S,C,hS,cS,_⟩:=Qfp (N:=1) h.pr hz (by rw[e1];exact h.pw) (Nat.le_refl _) h.lead (by rw[e2,Nat.pow_one];exact h.cg) e
  have el:=QcH e
  have hl:=h.lead
  rw[el] at hl
  have hlg:=(Qbn (by have :=h.pr.1;omega) hl).1
  have ng:ldP g≠0:=fun h0=>hlg (by rw[h0];exact Yb p)
  have hmS:Mon (pA S) (S.map fun z=>z.2.length -1).sum:=Qn0 fun z hz'=>by
    obtain⟨d,hd,rfl⟩:=List.mem_map.1 (hS.mem.1 z hz')
    exact(h.mon d hd).mz
  have hd:=QrB (q:=p^1) (by have :=h.pr.1;rw[Nat.pow_one];omega) (QaZ (N:=1) h.pr hlg) ng hmS cS
  have hs:=hS.map fun z:List Int×List Nat=>z.2.length -1
  rw[List.map_map] at hs
  rw[hd,Nat.add_sub_cancel]
  exact hφ _ _ hs
theorem Qbw.and{φ ψ:Nat→Bool}(h:Qbw f φ)(k:Qbw f ψ):Qbw f fun j=>φ j&&ψ j:=fun g r e=>by show(φ _&&ψ _)=true;rw[h g r e,k g r e];rfl
theorem Qbw.zero{φ:Nat→Bool}(h:Qbw f φ):φ 0=true:=h [1] f (by rw[Qcw,QbD])
theorem Qbw.top{φ:Nat→Bool}(h:Qbw f φ):φ ((Xa f).length -1)=true:=h f [1] (by rw[Qcw,QaE])
def Qkf(φ:Nat→Bool):Nat→Nat
  |0=>0
  |n+1=>if φ n then Qkf φ n+1 else Qkf φ n
theorem Qkg{φ:Nat→Bool}{j:Nat}: ∀{n},j<n→φ j=true→1≤Qkf φ n
  |n+1,h,hj=>by
    unfold Qkf
    by_cases e:j=n
    · subst e;rw[if_pos hj];omega
    · have :=Qkg (n:=n) (by omega) hj;split<;>omega
theorem Qkh{φ:Nat→Bool}{j:Nat}(h0:φ 0=true): ∀{n},0<j→j<n→φ j=true→2≤Qkf φ n
  |n+1,h,h1,hj=>by
    unfold Qkf
    by_cases e:j=n
    · subst e;rw[if_pos hj];have :=Qkg (φ:=φ) (j:=0) (n:=j) h h0;omega
    · have :=Qkh h0 (n:=n) h (by omega) hj;split<;>omega
theorem Qta{φ:Nat→Bool}(hn:Nrm f)(h2:2≤f.length)(h:Qbw f φ)(hc:Qkf φ f.length=2):Irr (P f):=by
  apply Classical.byContradiction
  intro hni
  obtain⟨a,b,ha,hb,eab,la,lb⟩:=Qbo hn h2 hni
  have h3:=h a b eab
  rw[ha.t] at h3
  have hdl:a.length+b.length=f.length+1:=by
    have :=Zd ha.ne hb.ne
    rw[←eab,Yj,Yj,Yj,ha.t,hb.t,hn.t] at this
    omega
  have ht:=h.top
  rw[hn.t] at ht
  have h4:=Qkh h.zero (n:=f.length -1) (by omega) (by omega) h3
  have h5:Qkf φ f.length=Qkf φ (f.length -1)+1:=by
    obtain⟨n,hn1⟩: ∃n,f.length=n+1:=⟨f.length -1,by omega⟩
    rw[hn1,Nat.add_sub_cancel] at ht⊢
    show(if φ n then Qkf φ n+1 else Qkf φ n)=_
    rw[if_pos ht]
  omega
end
end Go.Gx
namespace Go.Gx
theorem Qqt{p:Nat}(hp:0<p){z:Int}(h: ¬(p:Int)∣z):md p z≠0:=fun h0=>h (by
  obtain⟨k,hk⟩:=QcZ hp (a:=z) (b:=0) (by rw[h0,Yb])
  exact⟨k,by omega⟩)
theorem Qj1{p:Nat}{f:List Int}(hp:Xk p)(hl: ¬(p:Int)∣ldP f)(hc:Cop (p:Int) f (Xn f)):Qbx p f:=by
  have hp0:0<p:=by have :=hp.1;omega
  have hl':=Qqt hp0 hl
  have⟨l1,l2⟩:=QkB hp0 hl'
  have cA:=YW hp0 f
  have cB:=YW hp0 (Xn (zl (XR p f)))
  have h2:Cop (p:Int) (zl (XR p f)) (zl (XR p (Xn (zl (XR p f))))):=hc.cg cA.symm ((Qep cA).symm.trans cB.symm)
  have h3:=QdO hp (XK hp0 _) (XK hp0 _) (by omega) h2
  have h4:=Qjv hp (XK hp0 _) (XK hp0 _) (by omega) h3
  exact⟨hl',by rw[h4];rfl⟩
theorem Qs5{f:List Int}{B C H N:Nat}(h2:2≤(Xa f).length)(hN:2*(Xa f).length≤N+3)(hs:Qem (P f) (der (P f)))(hH:1≤H)(ha: ∀i,(co f i).natAbs≤C)(hb: ∀i,(co (Xn f) i).natAbs≤H)(hCH:C≤H)(hB:1≤B)(hB4:B≤4096)(hE:C*(N*H)^N*B^4<ppN B):
    5≤QeU (fun p=>decide (Qbx p f)) B:=by
  obtain⟨n,hn⟩: ∃n,(Xa f).length=n+1:=⟨(Xa f).length -1,by omega⟩
  have⟨l1,l2,l3⟩:=Zj hn
  have hdl:co (Xn f) (n -1)≠0:=by
    rw[XZ,show n -1+1=n by omega,l1]
    exact Int.mul_ne_zero l3 (by omega)
  have hdz: ∀i,n -1<i→co (Xn f) i=0:=fun i hi=>by rw[XZ,l2 _ (by omega),Int.zero_mul]
  have hdt:(Xa (Xn f)).length=n:=QfH (fun i hi=>hdz i (by omega)) (.inr hdl)
  rw[QgV] at hs
  have hr:=QvR hs (by omega) (by omega) (by omega)
  rw[hn,hdt,Nat.add_sub_cancel] at hr
  have hbd:=Qsl (a:=f) (b:=Xn f) (n:=n) (m:=n -1) (k:=0) (j:=0) (N:=N) (fun i=>Nat.le_trans (ha i) hCH) hb hH (by omega) (Nat.zero_le _) (by omega)
  have hld:(ldP f).natAbs≤C:=by rw[←l1];exact ha n
  have hEle:(ldP f).natAbs*(Sr 0 f (Xn f) n (n -1) 0).natAbs≤C*(N*H)^N:=Nat.mul_le_mul hld hbd
  refine QpI (E:=(ldP f).natAbs*(Sr 0 f (Xn f) n (n -1) 0).natAbs) hB hB4 (Nat.mul_pos (by omega) (by omega)) (fun q hq _ hs'=> ?_) (Nat.lt_of_le_of_lt (Nat.mul_le_mul_right _ hEle) hE)
  have hns: ¬Qbx q f:=of_decide_eq_false hs'
  apply Classical.byContradiction
  intro hnd
  refine hns (Qj1 hq (fun hd=>hnd ?_) (QtH hq (n:=n) (m:=n -1) (by omega) l2 hdz (fun hd=>hnd ?_) fun hd=>hnd ?_))
  · exact Nat.dvd_trans (Int.ofNat_dvd_left.1 hd) (Nat.dvd_mul_right _ _)
  · rw[l1] at hd;exact Nat.dvd_trans (Int.ofNat_dvd_left.1 hd) (Nat.dvd_mul_right _ _)
  · exact Nat.dvd_trans (Int.ofNat_dvd_left.1 hd) (Nat.dvd_mul_left _ _)
theorem QpX{f:List Int}{C n:Nat}(ha: ∀i,(co f i).natAbs≤C)(hn:(Xa f).length≤n+1)(i:Nat):(co (Xn f) i).natAbs≤n*C:=by
  rw[XZ]
  rcases Nat.lt_or_ge i n with h|h
  · rw[Int.natAbs_mul,Nat.mul_comm];exact Nat.mul_le_mul (by omega) (ha _)
  · rw[(XA f).1 (i+1) (by omega),Int.zero_mul];simp
theorem Qu5{f:List Int}(h2:2≤(Xa f).length)(hl:(Xa f).length≤10)(hs:Qem (P f) (der (P f)))(ha: ∀i,(co f i).natAbs≤2^256):5≤QeU (fun p=>decide (Qbx p f)) 4096:=by
  refine Qs5 (C:=2^256) (H:=9*2^256) (N:=17) h2 (by omega) hs (by decide+kernel) ha (QpX ha hl) (by decide+kernel) (by decide) (by decide) (Nat.lt_trans ?_ Qtv)
  decide+kernel
def Bof(n:Nat):Nat:=if n≤10 then 4096 else if n≤11 then 1024 else 128
theorem Quu(n:Nat):Bof n≤4096:=by unfold Bof;split<;>(try split)<;>decide
theorem Qsd{n p:Nat}(hn:n≤17)(hp:p<Bof n):p^ ((n -1)/2+1)≤9223372036854775808:=by
  unfold Bof at hp
  split at hp
  · exact Nat.le_trans (Nat.pow_le_pow_left (Nat.le_of_lt hp) _) (Nat.le_trans (Nat.pow_le_pow_right (by decide) (show(n -1)/2+1≤5 by omega)) (by decide+kernel))
  · split at hp
    · exact Nat.le_trans (Nat.pow_le_pow_left (Nat.le_of_lt hp) _) (Nat.le_trans (Nat.pow_le_pow_right (by decide) (show(n -1)/2+1≤6 by omega)) (by decide+kernel))
    · exact Nat.le_trans (Nat.pow_le_pow_left (Nat.le_of_lt hp) _) (Nat.le_trans (Nat.pow_le_pow_right (by decide) (show(n -1)/2+1≤9 by omega)) (by decide+kernel))
end Go.Gx
namespace Go.Gx
theorem Qig{f g:List Int}(h: ∀i,co f i=co g i):hgt f=hgt g:=
  Nat.le_antisymm (Qih f fun i=>by rw[h];exact Qd9 g i) (Qih g fun i=>by rw[←h];exact Qd9 f i)
theorem Qm5{f g h:List Int}{n:Nat}(hn:(Xa f).length=n+1)(h11:n≤11)(e:P f=P g*P h):hgt g≤2^n*rtN (n+1)*hgt f:=by
  have hf0:P f≠0:=fun h0=>by rw[←Ya,Yj] at h0;omega
  have hg0:P g≠0:=fun h0=>hf0 (by rw[e,h0,XG])
  have hh0:P h≠0:=fun h0=>hf0 (by rw[e,h0,Ys])
  have hd:=Zd hg0 hh0
  rw[←e,Yj,Yj,Yj,hn] at hd
  have lg:(Xa g).length≠0:=fun h0=>hg0 (by rw[←Ya,Yj,h0])
  have lh:(Xa h).length≠0:=fun h0=>hh0 (by rw[←Ya,Yj,h0])
  have hs:=(XA h).2.resolve_left lh
  have hne:Xa h≠ []:=fun h0=>lh (by rw[h0];rfl)
  have hy:(Xa h).getLast hne≠0:=by
    intro h0
    refine hs ?_
    rw[←Xo]
    have :co (Xa h) ((Xa h).length -1)=(Xa h).getLast hne:=by
      rw[List.getLast_eq_getElem]
      simp [co,List.getD,List.getElem?_eq_getElem (show(Xa h).length -1<(Xa h).length by omega)]
    rw[this,h0]
  have hsp:(Xa h).dropLast++[(Xa h).getLast hne]=Xa h:=List.dropLast_concat_getLast hne
  have hdl:(Xa h).dropLast.length=(Xa h).length -1:=List.length_dropLast
  have hb:=Qha (f:=Xa g) (g:=(Xa h).dropLast) (fun h0=>lg (by rw[h0];rfl)) _ hy (by rw[hdl];omega)
  rw[hsp,hdl,show(Xa g).length -1+((Xa h).length -1)=n by omega,show(Xa g).length+((Xa h).length -1)=n+1 by omega] at hb
  have e1:hgt (Xa g)=hgt g:=Qig fun i=>Xo g i
  have e2:hgt (Xg (Xa g) (Xa h))=hgt f:=Qig fun i=>QgE (by rw[Zb,Yf,Yf,e]) i
  rw[e1,e2] at hb
  exact hb
theorem Qva{f:List Int}{n:Nat}(hn:(Xa f).length=n+1)(h11:n≤11):HB f (2*((ldP f).natAbs*(2^n*rtN (n+1)*hgt f))+1):=fun g h e i=>by
  have h1:=Qm5 hn h11 e
  have h2:=Qd9 g i
  rw[Int.natAbs_mul]
  have :=Nat.mul_le_mul_left (ldP f).natAbs (Nat.le_trans h2 h1)
  omega
theorem HB.mono{f:List Int}{m m':Nat}(h:HB f m)(hm:m≤m'):HB f m':=fun g k e i=>Nat.lt_of_lt_of_le (h g k e i) hm
end Go.Gx
namespace Go.Gx
def Asc(n:Nat):Nat→List Nat→Prop
  |_,[]=>True
  |lo,a::l=>lo≤a∧a<n∧Asc n (a+1) l
def Lx:List Nat→List Nat→Prop
  |a::l,b::l'=>a<b∨a=b∧Lx l l'
  |_,_=>False
theorem Asc.mono{n:Nat}: ∀{l:List Nat}{lo lo':Nat},Asc n lo l→lo'≤lo→Asc n lo' l
  | [],_,_,_,_=>trivial
  |_::_,_,_,⟨h1,h2,h3⟩,h=>⟨by omega,h2,h3⟩
theorem Asc.len{n:Nat}: ∀{l:List Nat}{lo:Nat},Asc n lo l→l=[]∨lo+l.length≤n
  | [],_,_=> .inl rfl
  |a::l,lo,⟨h1,h2,h3⟩=> .inr (by
      rcases h3.len with h|h
      · subst h;simp;omega
      · simp only[List.length_cons];omega)
theorem Asc.mem{n:Nat}: ∀{l:List Nat}{lo:Nat},Asc n lo l→ ∀a∈l,lo≤a∧a<n
  | [],_,_,a,ha=>by cases ha
  |b::l,lo,⟨h1,h2,h3⟩,a,ha=>by
    rcases List.mem_cons.1 ha with rfl|ha
    · exact⟨h1,h2⟩
    · have :=h3.mem a ha;exact⟨by omega,this.2⟩
theorem QeL{n:Nat}: ∀(k s lo:Nat),lo≤s→s+k≤n→Asc n lo (List.range' s k)
  |0,_,_,_,_=>trivial
  |k+1,s,lo,h1,h2=>by rw[List.range'_succ];exact⟨h1,by omega,QeL k (s+1) (s+1) (Nat.le_refl _) (by omega)⟩
theorem Qhh: ∀{a b:List Nat},a.length=b.length→a=b∨Lx a b∨Lx b a
  | [],[],_=> .inl rfl
  |x::a,y::b,h=>by
    rcases Nat.lt_trichotomy x y with h1|rfl|h1
    · exact .inr (.inl (.inl h1))
    · rcases Qhh (a:=a) (b:=b) (by simpa using h) with h2|h2|h2
      · exact .inl (by rw[h2])
      · exact .inr (.inl (.inr ⟨rfl,h2⟩))
      · exact .inr (.inr (.inr ⟨rfl,h2⟩))
    · exact .inr (.inr (.inl h1))
  | [],_::_,h=>by simp at h
  |_::_,[],h=>by simp at h
theorem QnS{n:Nat}: ∀{c:List Nat}{lo:Nat},Asc n lo c→ ¬Lx (List.range' (n -c.length) c.length) c
  | [],_,_,h=>h
  |a::l,lo,ha,h=>by
    have hl:=ha.len.resolve_left (by simp)
    obtain⟨h1,h2,h3⟩:=ha
    have h4:=h3.len
    have ha:a+1+l.length≤n:=by
      rcases h4 with h4|h4
      · subst h4;simp;omega
      · exact h4
    rw[List.length_cons,List.range'_succ] at h
    rcases h with h| ⟨h5,h⟩
    · omega
    · rw[show n -(l.length+1)+1=n -l.length by omega] at h
      exact QnS h3 h
theorem QnT{n:Nat}: ∀{c:List Nat}{lo:Nat},Asc n lo c→ ¬Lx c (List.range' lo c.length)
  | [],_,_,h=>h
  |a::l,lo,⟨h1,h2,h3⟩,h=>by
    rw[List.length_cons,List.range'_succ] at h
    rcases h with h| ⟨h5,h⟩
    · omega
    · subst h5;exact QnT h3 h
structure Nx (n:Nat) (c c1:List Nat):Prop where
  asc:Asc n 0 c1
  len:c1.length=c.length
  nx: ∀c',Asc n 0 c'→c'.length=c.length→Lx c' c1→c'=c∨Lx c' c
  lt:Lx c c1
def Qsg(n:Nat)(c:List Nat):Prop:= ∀c',Asc n 0 c'→c'.length=c.length→c'=c∨Lx c' c
theorem QrW{n x m:Nat}: ∀{pre t:List Nat}{lo:Nat},Asc n lo (pre++x::t)→x+1+(m+1)≤n→Asc n lo (pre++List.range' (x+1) (m+1))
  | [],t,lo,⟨h1,_,_⟩,h=>QeL _ _ _ (by omega) h
  |a::pre,t,lo,⟨h1,h2,h3⟩,h=>⟨h1,h2,QrW h3 h⟩
theorem QvA{n x m:Nat}: ∀{pre c':List Nat}{lo:Nat},Asc n lo c'→c'.length=pre.length+(m+1)→Lx c' (pre++List.range' (x+1) (m+1))→c'=pre++x::List.range' (n -m) m∨Lx c' (pre++x::List.range' (n -m) m)
  | [],[],_,_,hl,_=>by simp at hl
  | [],y::r,lo,⟨h1,h2,h3⟩,hl,h=>by
    rw[List.nil_append,List.range'_succ] at h
    have hr:r.length=m:=by simpa using hl
    rcases h with h| ⟨rfl,h⟩
    · rcases Nat.lt_or_ge y x with h4|h4
      · exact .inr (.inl h4)
      · obtain rfl:y=x:=by omega
        have hm:=QnS h3
        rw[hr] at hm
        rcases Qhh (a:=r) (b:=List.range' (n -m) m) (by simp [hr]) with h5|h5|h5
        · exact .inl (by rw[h5];rfl)
        · exact .inr (.inr ⟨rfl,h5⟩)
        · exact absurd h5 hm
    · have :=QnT h3
      rw[hr] at this
      exact absurd h this
  |a::pre,[],_,_,hl,_=>by simp at hl
  |a::pre,b::r,lo,⟨h1,h2,h3⟩,hl,h=>by
    rcases h with h| ⟨rfl,h⟩
    · exact .inr (.inl h)
    · rcases QvA h3 (by simp at hl;omega) h with h4|h4
      · exact .inl (by rw[h4];rfl)
      · exact .inr (.inr ⟨rfl,h4⟩)
theorem QrT{x:Nat}{t t':List Nat}: ∀pre:List Nat,Lx (pre++x::t) (pre++(x+1)::t')
  | []=> .inl (by omega)
  |_::pre=> .inr ⟨rfl,QrT pre⟩
def rkL(n:Nat):List Nat→Nat
  | []=>0
  |a::l=>a*(n+1)^l.length+rkL n l
theorem Qq1{n:Nat}: ∀{l:List Nat},(∀a∈l,a≤n)→rkL n l<(n+1)^l.length
  | [],_=>by simp [rkL]
  |a::l,h=>by
    have h1:=Qq1 (n:=n) (l:=l) fun b hb=>h b (by simp [hb])
    have h2:=h a (by simp)
    have h3:a*(n+1)^l.length+(n+1)^l.length≤(n+1)^ (l.length+1):=by
      rw[Nat.pow_succ,Nat.mul_comm ((n+1)^l.length),←Nat.succ_mul]
      exact Nat.mul_le_mul_right _ (by omega)
    show a*(n+1)^l.length+rkL n l<(n+1)^ (l.length+1)
    omega
theorem QvS{n:Nat}: ∀{a b:List Nat},a.length=b.length→(∀x∈a,x≤n)→Lx a b→rkL n a<rkL n b
  |x::a,y::b,hl,ha,h=>by
    have hl':a.length=b.length:=by simpa using hl
    have h1:=Qq1 (n:=n) (l:=a) fun z hz=>ha z (by simp [hz])
    show x*(n+1)^a.length+rkL n a<y*(n+1)^b.length+rkL n b
    rw[←hl']
    rcases h with h| ⟨rfl,h⟩
    · have h2:x*(n+1)^a.length+(n+1)^a.length≤y*(n+1)^a.length:=by
        rw[←Nat.succ_mul];exact Nat.mul_le_mul_right _ (by omega)
      omega
    · have :=QvS hl' (fun z hz=>ha z (by simp [hz])) h
      omega
  | [],_,_,_,h=>h.elim
  |_::_,[],_,_,h=>h.elim
theorem QpF{n i:Nat}{c:List Nat}(h:Asc n 0 c)(hi:i<c.length)(hd:c.drop (i+1)=List.range' (n -(c.length -(i+1))) (c.length -(i+1)))(hx:c.getD i 0≠n -c.length+i):
    Nx n c (c.take i++List.range' (c.getD i 0+1) (c.length -i)):=by
  have hn:=h.len.resolve_left (by intro e;subst e;simp at hi)
  have hs:c=c.take i++c.getD i 0::List.range' (n -(c.length -(i+1))) (c.length -(i+1)):=by
    rw[←hd]
    simp [List.getD,hi]
  obtain⟨m,hm⟩: ∃m,c.length -i=m+1:=⟨c.length -i -1,by omega⟩
  have hm':c.length -(i+1)=m:=by omega
  have htl:(c.take i).length=i:=by rw[List.length_take];omega
  rw[hm'] at hs
  have hxm:c.getD i 0+(m+1)≤n:=by
    have h1:Asc n 0 (c.take i++c.getD i 0::List.range' (n -m) m):=by rw[←hs];exact h
    have key: ∀{pre:List Nat}{lo:Nat}{x:Nat}{t:List Nat},Asc n lo (pre++x::t)→x+(t.length+1)≤n:=by
      intro pre
      induction pre with
      |nil=>
        intro lo x t h2
        have :=h2.len.resolve_left (by simp)
        obtain⟨_,h4,h5⟩:=h2
        rcases h5.len with h6|h6
        · subst h6;simp;omega
        · omega
      |cons a pre ih=>intro lo x t h2;exact ih h2.2.2
    have :=key h1
    simpa using this
  have hx1:c.getD i 0+1+(m+1)≤n:=by omega
  rw[hm]
  refine⟨QrW (t:=List.range' (n -m) m) (by rw[←hs];exact h) hx1,by rw[List.length_append,htl,List.length_range'];omega,fun c' hc hl hlx=> ?_,?_⟩
  · have :=QvA hc (by rw[htl];omega) hlx
    rw[←hs] at this
    exact this
  · conv=>lhs;rw[hs]
    rw[List.range'_succ]
    exact QrT _
theorem QpE{n:Nat}{c:List Nat}(hd:c=List.range' (n -c.length) c.length):Qsg n c:=fun c' hc hl=>by
  rcases Qhh hl with h|h|h
  · exact .inl h
  · exact .inr h
  · rw[hd,←hl] at h;exact absurd h (QnS hc)
def Qmr(c:List Nat)(i x j:Nat):List Nat:=c.take i++(List.range' (x+1) (j -i)++c.drop j)
theorem QpC{c:List Nat}{i x j:Nat}(hi:i<j)(hj:j≤c.length):(Qmr c i x j).length=c.length:=by
  simp [Qmr];omega
theorem QlB{c:List Nat}{i x:Nat}(hi:i<c.length):c.set i (x+1)=Qmr c i x (i+1):=by
  unfold Qmr
  rw[show i+1 -i=1 by omega,List.set_eq_take_append_cons_drop,if_pos hi]
  rfl
theorem QpB{c:List Nat}{i x j:Nat}(hi:i<j)(hj:j≤c.length):(Qmr c i x j).getD (j -1) 0=x+(j -i):=by
  have h1:(c.take i).length=i:=by rw[List.length_take];omega
  unfold Qmr
  rw[List.getD,List.getElem?_append_right (by omega),h1,List.getElem?_append_left (by rw[List.length_range'];omega),List.getElem?_range' (by omega)]
  simp;omega
theorem QpD{c:List Nat}{i x j:Nat}(hi:i<j)(hj:j<c.length):(Qmr c i x j).set j (x+(j -i)+1)=Qmr c i x (j+1):=by
  have h1:(c.take i).length=i:=by rw[List.length_take];omega
  unfold Qmr
  rw[List.set_append_right _ _ (by omega),h1,List.set_append_right _ _ (by rw[List.length_range'];omega),List.length_range',Nat.sub_self,List.drop_eq_getElem_cons hj,List.set_cons_zero,show j+1 -i=(j -i)+1 by omega,List.range'_concat,List.append_assoc,Nat.one_mul,show x+(j -i)+1=x+1+(j -i) by omega]
  rfl
theorem QpA{c:List Nat}{i x:Nat}(hi:i<c.length):Qmr c i x c.length=c.take i++List.range' (x+1) (c.length -i):=by
  unfold Qmr;rw[List.drop_length,List.append_nil]
theorem QpG{n:Nat}{c:List Nat}{i:Nat}(hi:i<c.length)(hx:c.getD i 0=n -c.length+i)(hn:c.length≤n)(hd:c.drop (i+1)=List.range' (n -(c.length -(i+1))) (c.length -(i+1))):c.drop i=List.range' (n -(c.length -i)) (c.length -i):=by
  rw[List.drop_eq_getElem_cons hi,hd]
  have :c[i]=n -c.length+i:=by rw[←hx];simp [List.getD,hi]
  rw[this,show c.length -i=(c.length -(i+1))+1 by omega,List.range'_succ]
  congr 1
  · omega
  · congr 1;omega
def Qdh{α:Type}:Nat→List α→List Nat→List α
  |_,[],_=>[]
  |o,a::Z,c=>if o∈c then Qdh (o+1) Z c else a::Qdh (o+1) Z c
theorem Qiu{α:Type}{c:List Nat}{a:α}: ∀{Z:List α}{o:Nat},Qdh o (Z++[a]) c=Qdh o Z c++ if o+Z.length∈c then [] else [a]
  | [],o=>by simp [Qdh]
  |b::Z,o=>by
    simp only[List.cons_append,Qdh,List.length_cons]
    rw[Qiu (Z:=Z),show o+1+Z.length=o+(Z.length+1) by omega]
    split<;>rfl
theorem QkQ{α:Type}{b:Nat}{l:List Nat}: ∀{Z:List α}{o:Nat},b<o→Qdh o Z (b::l)=Qdh o Z l
  | [],_,_=>rfl
  |a::Z,o,h=>by
    simp only[Qdh,List.mem_cons]
    rw[QkQ (Z:=Z) (by omega)]
    by_cases h1:o∈l
    · rw[if_pos (.inr h1),if_pos h1]
    · rw[if_neg fun h2=>h2.elim (fun e=>by omega) h1,if_neg h1]
theorem QhC{α:Type}(d:α): ∀(Z:List α)(o:Nat)(c:List Nat),Asc (o+Z.length) o c→Spl Z (c.map fun i=>Z.getD (i -o) d) (Qdh o Z c)
  | [],o,[],_=> .nil
  | [],o,a::l,⟨h1,h2,_⟩=>by simp at h2;omega
  |a::Z,o,[],_=>by
    have :=QhC d Z (o+1) [] trivial
    simp only[Qdh,List.map_nil,List.not_mem_nil,if_false] at this⊢
    exact .r this
  |a::Z,o,b::l,⟨h1,h2,h3⟩=>by
    have e:o+1+Z.length=o+(a::Z).length:=by simp;omega
    rcases Nat.lt_or_ge o b with hb|hb
    · have :=QhC d Z (o+1) (b::l) (by rw[e];exact⟨hb,h2,h3⟩)
      have hno: ¬o∈b::l:=fun hm=>by
        have :=Asc.mem (lo:=o+1) (n:=o+(a::Z).length) (l:=b::l) ⟨hb,h2,h3⟩ o hm
        omega
      rw[Qdh,if_neg hno]
      refine(show(b::l).map (fun i=>(a::Z).getD (i -o) d)=(b::l).map (fun i=>Z.getD (i -(o+1)) d) from List.map_congr_left fun i hi=> ?_)▸ .r this
      have :=Asc.mem (lo:=o+1) (n:=o+(a::Z).length) (l:=b::l) ⟨hb,h2,h3⟩ i hi
      rw[show i -o=(i -(o+1))+1 by omega]
      rfl
    · obtain rfl:b=o:=by omega
      have :=QhC d Z (b+1) l (by rw[e];exact h3)
      rw[Qdh,if_pos (by simp),QkQ (by omega),List.map_cons,Nat.sub_self]
      refine(show l.map (fun i=>(a::Z).getD (i -b) d)=l.map (fun i=>Z.getD (i -(b+1)) d) from List.map_congr_left fun i hi=> ?_)▸ .l this
      have :=h3.mem i hi
      rw[show i -b=(i -(b+1))+1 by omega]
      rfl
theorem Qso{α:Type}(d:α){Z S C:List α}(h:Spl Z S C): ∀o,∃c,Asc (o+Z.length) o c∧c.length=S.length∧S=c.map fun i=>Z.getD (i -o) d:=by
  induction h with
  |nil=>exact fun o=>⟨[],trivial,rfl,rfl⟩
  | @l a Z S C _ ih=>
    intro o
    obtain⟨c,h1,h2,h3⟩:=ih (o+1)
    have e:o+1+Z.length=o+(a::Z).length:=by simp;omega
    rw[e] at h1
    refine⟨o::c,⟨Nat.le_refl _,by simp,h1⟩,by simp [h2],?_⟩
    rw[List.map_cons,Nat.sub_self]
    refine congrArg (a:: ·) (h3.trans (List.map_congr_left fun i hi=> ?_))
    have :=h1.mem i hi
    rw[show i -o=(i -(o+1))+1 by omega]
    rfl
  | @r a Z S C _ ih=>
    intro o
    obtain⟨c,h1,h2,h3⟩:=ih (o+1)
    have e:o+1+Z.length=o+(a::Z).length:=by simp;omega
    rw[e] at h1
    refine⟨c,h1.mono (by omega),h2,h3.trans (List.map_congr_left fun i hi=> ?_)⟩
    have :=h1.mem i hi
    rw[show i -o=(i -(o+1))+1 by omega]
    rfl
def QfA(Z:LZs)(c:List Nat):LZs:=c.map fun i=>Z.getD i ([],[])
theorem QcN{Z:LZs}{c:List Nat}(h:Asc Z.length 0 c):Spl Z (QfA Z c) (Qdh 0 Z c):=by
  have :=QhC (([],[]):List Int×List Nat) Z 0 c (by rw[Nat.zero_add];exact h)
  simpa [QfA] using this
theorem Qpe{p N:Nat}{Z:LZs}{f:List Int}{c:List Nat}(hl:Qsg Z.length c)(ht: ∀c',Asc Z.length 0 c'→c'.length=c.length→(c'=c∨Lx c' c)→ ∀g,¬GoodS p N f (QfA Z c') g):
    ∀S C g,Spl Z S C→S.length=c.length→ ¬GoodS p N f S g:=fun S C g hS hlen hg=>by
  obtain⟨c',h1,h2,h3⟩:=Qso (([],[]):List Int×List Nat) hS 0
  rw[Nat.zero_add] at h1
  have e:S=QfA Z c':=by rw[h3];simp [QfA]
  exact ht c' h1 (by omega) (hl c' h1 (by omega)) g (e▸hg)
end Go.Gx
namespace Go.Gx
def QiP(L:List (List Int))(c:List Nat):List (List Int):=c.map fun i=>L.getD i []
def QpU(m:Nat)(ld:Int)(l:List (List Int)):Int:=l.foldl (fun a u=>YY m (a*evI u 0)) ld
def Qi6(m:Nat)(X:List Int)(l:List (List Int)):List Int:=l.foldl (fun a u=>Zg m (Xa (Xg a u))) X
def Qd8(l:List (List Int)):Nat:=(l.map fun u=>(Xa u).length -1).sum
theorem Qkl(m:Nat)(ld:Int)(l:List (List Int))(u:List Int):QpU m ld (l++[u])=YY m (QpU m ld l*evI u 0):=by unfold QpU;rw[List.foldl_append];rfl
theorem QkX(m:Nat)(X:List Int)(l:List (List Int))(u:List Int):Qi6 m X (l++[u])=Zg m (Xa (Xg (Qi6 m X l) u)):=by unfold Qi6;rw[List.foldl_append];rfl
theorem Qp6(l:List (List Int))(u:List Int):Qd8 (l++[u])=Qd8 l+((Xa u).length -1):=by unfold Qd8;rw[List.map_append,List.sum_append];simp
theorem QtL(L:List (List Int))(c:List Nat):(QiP L c).length=c.length:=by simp [QiP]
theorem Qk9{L:List (List Int)}{c:List Nat}{k:Nat}(h:k<c.length):(QiP L c).take (k+1)=(QiP L c).take k++[L.getD (c.getD k 0) []]:=by
  rw[List.take_add_one]
  congr 1
  simp [QiP,h,List.getD]
theorem Qrz(m:Nat): ∀(l:List (List Int))(a:Int),Cg m (QpU m a l) (a*evI (pL l) 0)
  | [],a=>by show Cg m a _;rw[show pL []=[1] from rfl];simp only[evI];rw[show a*(1+0*0)=a by omega];exact Cg.refl _ _
  |u::l,a=>by
    have h:=Qrz m l (YY m (a*evI u 0))
    have e:QpU m a (u::l)=QpU m (YY m (a*evI u 0)) l:=rfl
    rw[e]
    refine h.trans ?_
    rw[show pL (u::l)=Xg u (pL l) from rfl,Xc,←Int.mul_assoc]
    exact(QfF m _).mul (Cg.refl _ _)
theorem QuK{m:Nat}(hm:0<m){l:List (List Int)}(h:l≠ [])(a:Int):QpU m a l=YY m (a*evI (pL l) 0):=by
  rw[←QdY (Qrz m l a)]
  have hs:l.dropLast++[l.getLast h]=l:=List.dropLast_concat_getLast h
  rw[←hs,Qkl,Qdu hm]
theorem Qr2(m:Nat): ∀(l:List (List Int))(X:List Int),CgV (m:Int) (Qi6 m X l) (Xg X (pL l))
  | [],X=>CgV.eqv fun x=>by show evI X x=_;rw[show pL []=[1] from rfl,Xc];simp only[evI];grind
  |u::l,X=>by
    have h:=Qr2 m l (Zg m (Xa (Xg X u)))
    have e:Qi6 m X (u::l)=Qi6 m (Zg m (Xa (Xg X u))) l:=rfl
    rw[e]
    refine h.trans ((((CgV.red _).trans (CgV.eqv fun x=>QaD _ x)).mul (CgV.refl _ _)).trans (CgV.eqv fun x=> ?_))
    rw[show pL (u::l)=Xg u (pL l) from rfl]
    simp only[Xc];grind
theorem QvJ{m:Nat}(hm:0<m){l:List (List Int)}(h:l≠ [])(a:Int):Qi6 m [a] l=Zg m (Xf (pL l) a):=by
  have h1:Zg m (Qi6 m [a] l)=Zg m (Xf (pL l) a):=Qmc fun i=>by
    obtain⟨k,hk⟩:=((Qr2 m l [a]).trans (CgV.eqv (g:=Xf (pL l) a) fun x=>by simp only[Xc,Xm,evI];grind)).cof i
    exact⟨k,by omega⟩
  have hs:l.dropLast++[l.getLast h]=l:=List.dropLast_concat_getLast h
  rw[←h1,←hs,QkX]
  generalize Xa (Xg (Qi6 m [a] l.dropLast) (l.getLast h))=Y
  have e:Xa (Zg m Y)=Xa (Zg m (Zg m Y)):=YP fun i=>by rw[Zm,Zm,Zm,Qdu hm]
  rwa [QiJ,QiJ] at e
theorem QvT{Z:LZs}{c:List Nat}(h: ∀i∈c,i<Z.length):QiP (Z.map Prod.fst) c=(QfA Z c).map Prod.fst:=by
  unfold QiP QfA
  rw[List.map_map]
  refine List.map_congr_left fun i hi=> ?_
  have :=h i hi
  simp [List.getD,this]
theorem QkR{α β:Type}(f:α→β)(c:List Nat): ∀(Z:List α)(o:Nat),Qdh o (Z.map f) c=(Qdh o Z c).map f
  | [],_=>rfl
  |a::Z,o=>by
    simp only[List.map_cons,Qdh]
    rw[QkR f c Z]
    split<;>rfl
end Go.Gx
namespace Go.Gx
theorem Qns{F:List Int}{l:List (List Int×Nat)}{u:Int}(hn: ∀x∈l,Nrm x.1)(hi: ∀x∈l,Irr (P x.1))(hk: ∀x∈l,1≤x.2)(hs:l.Pairwise fun a b=>Qbv a.1 b.1<0)(hu:u≠0)(e:P F=K (u:Rat)*ZO l):Qbb F l:=by
  obtain⟨b,hb,eb⟩:=QbZ hn
  have hb0:ZO l≠0:=by rw[←eb];exact hb.ne
  have hd:l.Pairwise fun a b=>a.1≠b.1:=hs.imp fun {a b} h e=>by rw[e,QbL] at h;omega
  have hur:(u:Rat)≠0:=XC hu
  have hF:P F≠0:=by rw[e];exact QaT (Qpv hur) hb0
  refine⟨hF,hn,hi,hk,fun x hx=> ?_,fun π hπ hd'=> ?_,hs⟩
  · rw[e,Qj4 (hi x hx) hur hb0]
    exact(QeJ (hi x hx) hn hi hd).1 x hx (XL _)
  · rw[e,Qjo hur] at hd'
    apply Classical.byContradiction
    intro hno
    have h0:=(QeJ hπ hn hi hd).2 fun x hx h=>hno ⟨x,hx,Qal hπ (hi x hx) h⟩
    have :=(XM hπ hb0).1 hd'
    omega
theorem Qbb.mem{F:List Int}{fs gs:List (List Int×Nat)}(h:Qbb F fs)(k:Qbb F gs): ∀x∈fs,x∈gs:=fun x hx=>by
  have hv:=h.v x hx
  have h1:=h.k1 x hx
  obtain⟨y,hy,hd⟩:=k.all _ (h.irr x hx) ((XM (h.irr x hx) h.ne).2 (by omega))
  have e:=ZX (k.n y hy) (h.n x hx) (k.irr y hy) (h.irr x hx) hd
  have e2:=k.v y hy
  rw[e] at e2
  rw[show x=y from Prod.ext e.symm (hv.symm.trans e2)];exact hy
theorem Qbb.uniq{F:List Int}{fs gs:List (List Int×Nat)}(h:Qbb F fs)(k:Qbb F gs):fs=gs:=by
  have key: ∀{l:List (List Int×Nat)},Qbb F l→l=(l.map Prod.fst).map fun a=>(a,va (P a) (P F)):=fun {l} hl=>by
    rw[List.map_map]
    conv=>lhs;rw[←List.map_id l]
    exact List.map_congr_left fun x hx=>Prod.ext rfl (hl.v x hx).symm
  have e:fs.map Prod.fst=gs.map Prod.fst:=QiR (List.pairwise_map.2 h.asc) (List.pairwise_map.2 k.asc) fun a=>⟨fun ha=>by
    obtain⟨x,hx,rfl⟩:=List.mem_map.1 ha;exact List.mem_map_of_mem (h.mem k x hx),fun ha=>by
    obtain⟨x,hx,rfl⟩:=List.mem_map.1 ha;exact List.mem_map_of_mem (k.mem h x hx)⟩
  rw[key h,key k,e]
theorem Qsr{g:List Int}{n:Nat}(hn:(Xa g).length=n+1):(ldP g*QmA g).natAbs=(ldP g).natAbs*(2^n*rtN (n+1)*hgt g):=by
  rw[QmA,if_neg (fun e=>by rw[e] at hn;simp at hn),hn,Nat.add_sub_cancel,Int.natAbs_mul]
  congr 1
  rw[←Int.natCast_mul,←Int.natCast_mul,Int.natAbs_natCast]
  simp only[Nat.mul_comm,Nat.mul_left_comm]
theorem rt5(n:Nat):rtN n≤5:=by unfold rtN;(repeat' split)<;>omega
theorem Qny{F g:List Int}{n H:Nat}(hn:(Xa F).length≤n+1)(h11:n≤11)(hF0:P F≠0)(hg:Nrm g)(hd:P g∣P F)(hH: ∀i,(co F i).natAbs≤H):hgt g≤2^n*5*H∧g.length≤n+1:=by
  obtain⟨W,e⟩:=QbR hg.c hd
  rw[XT] at e
  obtain⟨k,hk⟩: ∃k,(Xa F).length=k+1:=⟨(Xa F).length -1,by have :=XF.1 hF0;rw[Yj] at this;omega⟩
  have h1:=Qm5 hk (by omega) e
  have h2:hgt F≤H:=Qih F hH
  have h3:=Qaj hd hF0
  rw[Yj,Yj,hg.t] at h3
  refine⟨Nat.le_trans h1 (Nat.mul_le_mul (Nat.mul_le_mul (Nat.pow_le_pow_right (by decide) (by omega)) (rt5 _)) h2),by omega⟩
theorem Qvc:HB [] 1:=fun g h _ i=>by
  have :ldP []=0:=by decide
  rw[this,Int.zero_mul];decide
theorem Qix{F:List Int}(h:P F=0):Xr F=[]:=by
  have h1:=Yz F
  rw[←Ya,Yj] at h
  exact List.eq_nil_of_length_eq_zero (by omega)
theorem ZY{F:List Int}(h:P F=0):Yc F=0:=by
  have h1:ldP F=0:=Classical.byContradiction fun h2=>(Xz F).1 h2 h
  have h2: ∀i,(0:Int)∣co F i:=fun i=>by
    have :co F i=0:=by
      have :=QgE (f:=F) (g:=[]) (by rw[h];exact(QP.eq fun x=>by rw[v_P,v_0];rfl)) i
      rw[this];simp [co]
    rw[this];exact Int.dvd_zero _
  have h3:((Xy F:Nat):Int)=0:=by
    apply Classical.byContradiction
    intro h4
    have h5:=Qix h
    have h6:=Xe F
    have h7:Xy F=Xy (Xa F):=(QaF F).symm
    have h8:Xa F=[]:=by
      have :=Yj F
      rw[h,Ya.2 rfl] at this
      exact List.eq_nil_of_length_eq_zero this.symm
    rw[h7,h8] at h4
    exact h4 (by decide)
  unfold Yc
  rw[h3];split<;>rfl
def Quw(F:List Int)(fs:List (List Int×Nat)):Prop:=P F=0∧fs=[]∨Qbb F fs∧fs.length≤289
theorem Quw.fac{F:List Int}{fs:List (List Int×Nat)}(h:Quw F fs)(hF:P F≠0):Qbb F fs∧fs.length≤289:=h.resolve_left fun h=>hF h.1
theorem Quw.nil{F:List Int}{fs:List (List Int×Nat)}(h:Quw F fs)(hF:P F=0):fs=[]:=(h.resolve_right fun h=>h.1.ne hF).2
end Go.Gx
namespace Go.Gx
def QEg(r:Rat):List Int:=[-r.num,(r.den:Int)]
theorem QEz(r x:Rat):evQ (QEg r) x=((r.den:Int):Rat)*(x -r):=by
  have h:=QcD r
  simp only[QEg,evQ]
  rw[Rat.intCast_neg,←h];grind
theorem QEi(r:Rat):Xa (QEg r)=QEg r:=by
  have h:=r.den_nz
  have e:Xa ([-r.num]++[(r.den:Int)])=[-r.num]++[(r.den:Int)]:=Yp.2 (by simp [ZM,h])
  exact e
theorem QFg(r:Rat):ldP (QEg r)=(r.den:Int):=by
  have :=(Zj (G:=QEg r) (d:=1) (by rw[QEi];rfl)).1
  rw[←this];rfl
theorem QD4(r:Rat):Nrm (QEg r):=by
  refine⟨?_,by rw[QFg];have :=r.den_nz;omega,QEi r⟩
  have h:=r.reduced
  unfold Nat.Coprime at h
  simp only[QEg,Xy,List.foldr,Int.natAbs_natCast,Int.natAbs_neg,Nat.gcd_zero_left]
  rw[Nat.gcd_comm];exact h
theorem QEp(r:Rat):dg (P (QEg r))=2:=by rw[Yj,QEi];rfl
theorem QD1(r:Rat):Irr (P (QEg r)):=QbV (QEp r)
theorem QEN{g:List Int}(hg:Nrm g)(h2:g.length=2): ∃r:Rat,g=QEg r:=by
  match g,h2 with
  | [a,b],_=>
    have hb:0<b:=by
      have h1:=hg.s
      rw[← (Zj (G:=[a,b]) (d:=1) (by rw[hg.t];rfl)).1] at h1
      exact h1
    have hc:=hg.c
    simp only[Xy,List.foldr,Nat.gcd_zero_left] at hc
    refine⟨⟨-a,b.natAbs,by omega,?_⟩,?_⟩
    · show Nat.Coprime (-a).natAbs b.natAbs
      rw[Int.natAbs_neg];unfold Nat.Coprime;rw[Nat.gcd_comm];exact hc
    · show [a,b]=[- -a,(b.natAbs:Int)]
      rw[Int.neg_neg,show(b.natAbs:Int)=b by omega]
theorem QDX{F:List Int}{r:Rat}:P (QEg r)∣P F↔evQ F r=0:=by
  constructor
  · rintro⟨q,e⟩
    have h:=qat e r
    rw[v_P,Xq,v_P,QEz] at h
    rw[h];grind
  · intro h
    have hne:=(QD4 r).ne
    obtain⟨q,t,e,hd⟩:=QoE hne (P F)
    rw[QEp] at hd
    obtain⟨c,rfl⟩:=Qm3 (f:=t) (by omega)
    have h1:=qat e r
    rw[v_P,Zy,Xq,v_P,v_K,QEz,h] at h1
    have hc:c=0:=by grind
    subst hc
    exact⟨q,by rw[e];exact QP.eq fun x=>by simp only[Zy,Xq,v_K];grind⟩
structure QD0 (F:List Int) (rs:List Rat):Prop where
  asc:rs.Pairwise (· < ·)
  mem: ∀r:Rat,r∈rs↔evQ F r=0
theorem QE1{r s:Rat}(h:QEg r=QEg s):r=s:=by
  have h1:=QEz r r
  rw[h,QEz] at h1
  have h2:=XC (d:=(s.den:Int)) (by have :=s.den_nz;omega)
  have h3:((s.den:Int):Rat)*(r -s)=0:=by rw[h1];grind
  grind
theorem QE3{rs:List Rat}(h:rs.Pairwise (· < ·)):rs.Nodup:=h.imp fun {a b} hab e=>by subst e;grind
theorem QEs{F:List Int}{rs:List Rat}{fs:List (List Int×Nat)}(h:QD0 F rs)(hf:Qbb F fs):((fs.filter fun x=>decide ((Xa x.1).length=2)).length)=rs.length:=by
  have hp:((fs.filter fun x=>decide ((Xa x.1).length=2)).map Prod.fst).Perm (rs.map QEg):=by
    refine(List.perm_ext_iff_of_nodup ?_ ?_).2 fun g=> ?_
    · have h1:(fs.filter fun x=>decide ((Xa x.1).length=2)).Pairwise fun a b=>Qbv a.1 b.1<0:=hf.asc.filter _
      exact List.pairwise_map.2 (h1.imp fun {a b} hab e=>by rw[e,QbL] at hab;omega)
    · exact List.pairwise_map.2 ((QE3 h.asc).imp fun {a b} hab e=>hab (QE1 e))
    · simp only[List.mem_map,List.mem_filter,decide_eq_true_eq]
      constructor
      · rintro⟨x,⟨hx,h2⟩,rfl⟩
        have hn:=hf.n x hx
        rw[hn.t] at h2
        obtain⟨r,hr⟩:=QEN hn h2
        refine⟨r,(h.mem r).2 (QDX.1 ?_),hr.symm⟩
        rw[←hr]
        exact(XM (hf.irr x hx) hf.ne).2 (by have :=hf.v x hx;have :=hf.k1 x hx;omega)
      · rintro⟨r,hr,rfl⟩
        obtain⟨x,hx,hd⟩:=hf.all _ (QD1 r) (QDX.2 ((h.mem r).1 hr))
        have e:=ZX (hf.n x hx) (QD4 r) (hf.irr x hx) (QD1 r) hd
        exact⟨x,⟨hx,by rw[e,QEi];rfl⟩,e⟩
  have :=hp.length_eq
  rwa [List.length_map,List.length_map] at this
def QD9(m:Nat)(f u:List Int):List Int:=Xr (Zg m (Xa (Xf u (ldP f))))
theorem QE7(u:List Int):P (pL [u])=P u:=by rw[XY,show pL []=[1] from rfl,Qcw,QaE]
section
variable{p N:Nat}{Z:LZs}{f:List Int}
theorem QEe(z:List Int×List Nat):QD9 (p^N) f z.1=Xr (QeH (p^N) f [z]):=QjK (QaJ fun i=>by
  unfold QeH
  rw[Zm,Zm,Xo,Xi,Xi]
  have :co (pA [z]) i=co z.1 i:=QgE (QE7 z.1) i
  rw[this])
theorem QFa{α:Type}{z:α}: ∀{Z:List α}{i:Nat},Z[i]? =some z→ ∃C,Spl Z [z] C
  |a::Z,0,h=>by simp at h;subst h;exact⟨Z,.l (Spl.all Z).swap⟩
  |a::Z,i+1,h=>by
    obtain⟨C,hC⟩:=QFa (Z:=Z) (i:=i) (by simpa using h)
    exact⟨a::C,.r hC⟩
  | [],i,h=>by simp at h
theorem QFj{z:List Int×List Nat}(h:(Xa z.1).length=2)(hz:LZ p z):Mon (pA [z]) 1:=by
  obtain⟨d,hd,_⟩:=hz.up
  have e:=hd.len
  obtain rfl:d=1:=by omega
  have :Mon (Xg z.1 [1]) (1+0):=hd.mul Qat
  exact this
theorem QEq(I:QeK p N Z f){z:List Int×List Nat}(hz:LZ p z)(h:(Xa z.1).length=2):Nrm (QD9 (p^N) f z.1)∧(QD9 (p^N) f z.1).length=2:=by
  obtain⟨t1,t2⟩:=Qlr I (QFj h hz)
  rw[QEe]
  exact⟨YD ((Xz _).1 (by rw[t2];have :=I.nrm.s;omega)),by rw[Yz,t1]⟩
theorem QEA(I:QeK p N Z f){i:Nat}{z:List Int×List Nat}(hi:Z[i]? =some z)(h:(Xa z.1).length=2)(hd:P (QD9 (p^N) f z.1)∣P f):GoodS p N f [z] (QD9 (p^N) f z.1):=by
  obtain⟨C,hC⟩:=QFa hi
  have hz:=I.z z (List.mem_of_getElem? hi)
  have hn:=(QEq I hz h).1
  obtain⟨W,hW⟩:=QbR hn.c hd
  exact(Qr8 (g:=QD9 (p^N) f z.1) (r:=Xa W) I hC (by simp) (QEe z) (by rw[Yf];exact hW) (XV _)).1
theorem QFh(I:QeK p N Z f){g:List Int}(hg:Nrm g)(h2:g.length=2)(hd:P g∣P f): ∃(i:Nat)(z:List Int×List Nat),Z[i]? =some z∧(Xa z.1).length=2∧QD9 (p^N) f z.1=g:=by
  obtain⟨W,hW⟩:=QbR hg.c hd
  have e:P f=P (Xa W)*P g:=by rw[Yf];exact hW
  have e':P f=P g*P (Xa W):=by rw[e,XT]
  have hWn:=I.nrm.quo hg.s e (XV _)
  obtain⟨S,C,hS,cS,_⟩:=Qfp I.pr I.z I.pw I.n1 I.lead I.cg e'
  have gS:GoodS p N f S g:=⟨hg,by omega,⟨_,hWn,e'⟩,cS⟩
  obtain⟨d,hm,_,_,hl⟩:=pAB fun z hz=>I.z z (hS.mem.1 z hz)
  have hdeg:=gS.deg I hm
  obtain rfl:d=1:=by omega
  match S,hl,gS,hm,hS with
  | [],_,gS,_,_=>exact(Qnu I gS).elim
  | [z],_,gS,hm,hS=>
    obtain⟨i,hi⟩:=List.getElem?_of_mem (hS.mem.1 z (by simp))
    refine⟨i,z,hi,?_,by rw[QEe];exact gS.prim I⟩
    have h3:=hm.len
    rw[show Xa (pA [z])=Xa z.1 from QfO (QE7 z.1)] at h3
    exact h3
  |_::_::_,hl,_,_,_=>simp at hl
theorem QFi(I:QeK p N Z f){i j:Nat}{z y:List Int×List Nat}{g:List Int}(hij:i≠j)(hi:Z[i]? =some z)(hj:Z[j]? =some y)(gz:GoodS p N f [z] g)(gy:GoodS p N f [y] g):False:=by
  obtain⟨hg,_,⟨h,_,e⟩,cz⟩:=gz
  obtain⟨_,_,_,cy⟩:=gy
  have hlg:md p (ldP g)≠0:=(Qbn (by have :=I.pr.1;omega) (by rw[←QcH e];exact I.lead)).1
  have h1:=QeO (QaZ (N:=N) I.pr hlg) (cz.trans cy.symm)
  have hpd:(p:Int)∣ ((p^N:Nat):Int):=by
    obtain⟨n,rfl⟩: ∃n,N=n+1:=⟨N -1,by have :=I.n1;omega⟩
    exact⟨((p^n:Nat):Int),by rw[Nat.pow_succ,Int.natCast_mul,Int.mul_comm]⟩
  have h2:=h1.dvd hpd
  have key: ∀u:List Int×List Nat,CgV (p:Int) (pA [u]) u.1:=fun u=>CgV.eqv fun x=>by
    show evI (Xg u.1 [1]) x=_;rw[Xc];simp only[evI];grind
  have hz:=I.z z (List.mem_of_getElem? hi)
  have hy:=I.z y (List.mem_of_getElem? hj)
  have h3:CgV (p:Int) (zl y.2) (zl z.2):=(hy.cg.symm.trans ((key y).symm.trans (h2.symm.trans (key z)))).trans hz.cg
  have hc:=I.pw.at i j (zl z.2) (zl y.2) (fun e=>hij e.symm) (by rw[List.getElem?_map,hi];rfl) (by rw[List.getElem?_map,hj];rfl)
  have h4:=Qe0 hc ((Dv.self (zl z.2)).cg h3)
  have h5:=Qa1 I.pr.1 hz.mon.mz Qat h4
  have :=hz.mon.pos
  omega
def rtQ(g:List Int):Rat:=((-(co g 0):Int):Rat)/ ((co g 1:Int):Rat)
theorem QEX(r:Rat):rtQ (QEg r)=r:=by
  have h:=QcD r
  have h2:=Qm1 r
  show((- -r.num:Int):Rat)/ ((r.den:Int):Rat)=r
  rw[Int.neg_neg,←h];grind
open Classical in
noncomputable def rtL (m:Nat) (f:List Int):List (List Int)→List Rat
  | []=>[]
  |u::us=>(if(Xa u).length=2∧P (QD9 m f u)∣P f then [rtQ (QD9 m f u)] else [])++rtL m f us
theorem QEV(m:Nat)(f:List Int): ∀us,(rtL m f us).length≤us.length
  | []=>Nat.le_refl _
  |u::us=>by
    have :=QEV m f us
    unfold rtL;split<;>simp <;>omega
theorem QFn{m:Nat}{f u:List Int}{us:List (List Int)}(h:(Xa u).length=2)(h2:P (QD9 m f u)∣P f):rtL m f (us++[u])=rtL m f us++[rtQ (QD9 m f u)]:=by
  induction us with
  |nil=>simp [rtL,h,h2]
  |cons a us ih=>rw[List.cons_append,rtL,ih,rtL,List.append_assoc]
theorem QE9{m:Nat}{f u:List Int}{us:List (List Int)}(h: ¬((Xa u).length=2∧P (QD9 m f u)∣P f)):rtL m f (us++[u])=rtL m f us:=by
  induction us with
  |nil=>simp only[List.nil_append,rtL];rw[if_neg h];rfl
  |cons a us ih=>rw[List.cons_append,rtL,ih,rtL]
theorem QEx{m:Nat}{f:List Int}{r:Rat}: ∀{us:List (List Int)},r∈rtL m f us↔ ∃(i:Nat)(u:List Int),us[i]? =some u∧(Xa u).length=2∧P (QD9 m f u)∣P f∧rtQ (QD9 m f u)=r
  | []=>by simp [rtL]
  |a::us=>by
    unfold rtL
    rw[List.mem_append,QEx (us:=us)]
    constructor
    · rintro(h| ⟨i,u,h1,h2⟩)
      · split at h
        · rename_i h1
          rw[List.mem_singleton] at h
          exact⟨0,a,rfl,h1.1,h1.2,h.symm⟩
        · simp at h
      · exact⟨i+1,u,by simpa using h1,h2⟩
    · rintro⟨i,u,h1,h2,h3,h4⟩
      match i,h1 with
      |0,h1=>simp at h1;subst h1;left;rw[if_pos ⟨h2,h3⟩];simp [h4]
      |i+1,h1=>exact .inr ⟨i,u,by simpa using h1,h2,h3,h4⟩
theorem QEn{m:Nat}{f:List Int}: ∀{us:List (List Int)},(∀(i j:Nat) u v,i<j→us[i]? =some u→us[j]? =some v→(Xa u).length=2→(Xa v).length=2→P (QD9 m f u)∣P f→P (QD9 m f v)∣P f→rtQ (QD9 m f u)≠rtQ (QD9 m f v))→(rtL m f us).Nodup
  | [],_=>List.nodup_nil
  |a::us,h=>by
    have ih:=QEn (m:=m) (f:=f) (us:=us) fun i j u v hij hu hv=>h (i+1) (j+1) u v (by omega) (by simpa using hu) (by simpa using hv)
    unfold rtL
    split
    · rename_i h1
      rw[List.singleton_append]
      refine List.nodup_cons.2 ⟨fun hm=> ?_,ih⟩
      obtain⟨j,v,hv,h2,h3,h4⟩:=QEx.1 hm
      exact h 0 (j+1) a v (by omega) rfl (by simpa using hv) h1.1 h2 h1.2 h3 h4.symm
    · exact ih
theorem QEW(I:QeK p N Z f){rs:List Rat}(hp:rs.Perm (rtL (p^N) f (Z.map Prod.fst)))(hs:rs.Pairwise fun x y=> ¬y<x):QD0 f rs:=by
  have hget: ∀{i:Nat}{u:List Int},(Z.map Prod.fst)[i]? =some u→ ∃z,Z[i]? =some z∧z.1=u:=fun {i u} h=>by
    rw[List.getElem?_map] at h
    match hz:Z[i]?,h with
    |some z,h=>exact⟨z,rfl,by simpa using h⟩
  have hlin: ∀{i:Nat}{z:List Int×List Nat},Z[i]? =some z→(Xa z.1).length=2→QEg (rtQ (QD9 (p^N) f z.1))=QD9 (p^N) f z.1:=fun {i z} hi h=>by
    have⟨h1,h2⟩:=QEq I (I.z z (List.mem_of_getElem? hi)) h
    obtain⟨r,hr⟩:=QEN h1 h2
    rw[hr,QEX]
  have hnd:(rtL (p^N) f (Z.map Prod.fst)).Nodup:=QEn fun i j u v hij hu hv h1 h2 h3 h4 e=>by
    obtain⟨z,hz,rfl⟩:=hget hu
    obtain⟨y,hy,rfl⟩:=hget hv
    have gz:=QEA I hz h1 h3
    have gy:=QEA I hy h2 h4
    rw[←hlin hz h1,e,hlin hy h2] at gz
    exact QFi I (by omega) hz hy gz gy
  refine⟨?_,fun r=> ?_⟩
  · have h1:rs.Nodup:=hp.nodup_iff.2 hnd
    exact(h1.and hs).imp fun {a b} ⟨h2,h3⟩=>by grind
  · rw[hp.mem_iff,QEx,←QDX]
    constructor
    · rintro⟨i,u,hu,h1,h2,rfl⟩
      obtain⟨z,hz,rfl⟩:=hget hu
      rw[hlin hz h1];exact h2
    · intro hd
      obtain⟨i,z,hz,h1,h2⟩:=QFh I (QD4 r) rfl hd
      exact⟨i,z.1,by rw[List.getElem?_map,hz];rfl,h1,by rw[h2];exact hd,by rw[h2,QEX]⟩
theorem QE4{f:List Int}(hn:Nrm f)(h: ∀g h:List Int,P f=P g*P h→(Xa g).length≠2):QD0 f []:=⟨List.Pairwise.nil,fun r=>⟨(fun h=>by cases h),fun hr=>by
  obtain⟨W,hW⟩:=QbR (QD4 r).c (QDX.2 hr)
  exact absurd (by rw[QEi];rfl) (h (QEg r) W (by rw[hW,XT]))⟩⟩
theorem QEM{F:List Int}(h0:P F≠0)(h:(Xa F).length<2):QD0 F []:=⟨List.Pairwise.nil,fun r=>⟨(fun h=>by cases h),fun hr=>by
  have :=Qaj (QDX.2 hr) h0
  rw[QEp,Yj] at this
  omega⟩⟩
theorem QD0.cong{F G:List Int}{rs:List Rat}(h:QD0 F rs)(e: ∀r:Rat,evQ F r=0↔evQ G r=0):QD0 G rs:=⟨h.asc,fun r=>by rw[h.mem,e]⟩
theorem QEc{F R:List Int}{rs:List Rat}(hF:P F≠0)(h:PartOf F R)(hr:QD0 R rs):QD0 F rs:=hr.cong fun r=>by
  rw[←QDX,←QDX,XM (QD1 r) h.n.ne,XM (QD1 r) hF,h.v _ (QD1 r)];omega
end
end Go.Gx
namespace Go.Gx
theorem QoB{p:Nat}(hp:Xk p){a b:Int}(h:(p:Int)∣a*b):(p:Int)∣a∨(p:Int)∣b:=by
  have hp0:0<p:=by have :=hp.1;omega
  by_cases ha:(p:Int)∣a
  · exact .inl ha
  · refine .inr (QcC (c:=a) ?_ h)
    have h1:=QgU (n:=1) hp (a:=a) (fun h0=>ha (by
      obtain⟨k,hk⟩:=QcZ hp0 (a:=a) (b:=0) (by rw[h0,Yb])
      exact⟨k,by omega⟩))
    rwa [Nat.pow_one] at h1
theorem Qtn{f:List Int}(h0:P f≠0)(h2:2≤(Xa f).length)(h: ¬Irr (P f)): ∃A b:List Int,2≤(Xa A).length∧2≤(Xa b).length∧P f=P A*P b:=by
  have hl:=(Xz f).2 h0
  have hc:=Yi hl
  have hn:=YD h0
  have hni: ¬Irr (P (Xr f)):=fun hi=>h (by
    have e:=QbJ f
    refine⟨by rw[Yj];exact h2,fun a b eab=> ?_⟩
    have hk:(K (1/ (Yc f:Rat))*a)*b=P (Xr f):=QP.eq fun x=>by
      have a1:=qat (QaK hl) x
      have a2:=qat eab x
      simp only[Xq,v_K] at a1 a2⊢
      rw[a1,a2];grind
    rcases hi.2 _ _ hk.symm with h1|h1
    · refine .inl ?_
      rwa [Qar (by have :=XC hc;grind)] at h1
    · exact .inr h1)
  obtain⟨a,b,ha,hb,eab,la,lb⟩:=Qbo hn (by rw[Yz];exact h2) hni
  refine⟨Xf a (Yc f),b,by rw[Qcm a hc,ha.t];exact la,by rw[hb.t];exact lb,?_⟩
  rw[YF,QbJ f,eab,XI]
theorem Qp8{p n:Nat}(hp:Xk p){f:List Int}(hn:(Xa f).length=n+1)(h1:1≤n)(hl: ¬(p:Int)∣co f n)(hd: ∀i,i<n→(p:Int)∣co f i)(h0: ¬(p:Int)*p∣co f 0):Irr (P f):=by
  apply Classical.byContradiction
  intro hni
  have hf0:P f≠0:=fun h0=>by rw[←Ya,Yj] at h0;omega
  obtain⟨A,b,lA,lb,e⟩:=Qtn hf0 (by omega) hni
  have hdg:=Zd (f:=P A) (g:=P b) (fun h=>by rw[←Ya,Yj] at h;omega) (fun h=>by rw[←Ya,Yj] at h;omega)
  rw[←e,Yj,Yj,Yj,hn] at hdg
  obtain⟨u,hu⟩: ∃u,(Xa A).length=u+1:=⟨(Xa A).length -1,by omega⟩
  obtain⟨v,hv⟩: ∃v,(Xa b).length=v+1:=⟨(Xa b).length -1,by omega⟩
  have⟨a1,a2,_⟩:=Zj hu
  have⟨b1,b2,_⟩:=Zj hv
  have hco: ∀i,co f i=co (Xg A b) i:=fun i=>QgE (by rw[e,Zb]) i
  have htop:=(Qf8 a2 b2).1
  rw[show u+v=n by omega,←hco] at htop
  obtain⟨i,hi,hil⟩:=least (Q:=fun j=> ¬(p:Int)∣co A j) u (fun h=>hl (by rw[htop];exact Int.dvd_mul_of_dvd_left h))
  obtain⟨j,hj,hjl⟩:=least (Q:=fun j=> ¬(p:Int)∣co b j) v (fun h=>hl (by rw[htop];exact Int.dvd_mul_of_dvd_right h))
  have hiu:i≤u:=by
    apply Nat.le_of_not_lt
    intro h
    exact hi (by rw[a2 i h];exact Int.dvd_zero _)
  have hjv:j≤v:=by
    apply Nat.le_of_not_lt
    intro h
    exact hj (by rw[b2 j h];exact Int.dvd_zero _)
  have h2:=QeE (p:=(p:Int)) (F:=fun a=>co A a*co b (i+j -a)) (i:=i) (i+j+1) (fun a ha hai=>by
    rcases Nat.lt_or_ge a i with h3|h3
    · exact Int.dvd_mul_of_dvd_left (Classical.not_not.1 (hil a h3))
    · exact Int.dvd_mul_of_dvd_right (Classical.not_not.1 (hjl (i+j -a) (by omega))))
  rw[if_pos (by omega),show i+j -i=j by omega] at h2
  have h3:co f (i+j)=Ye (fun a=>co A a*co b (i+j -a)) (i+j+1):=by rw[hco,Xp];rfl
  rw[←h3] at h2
  have hij:i+j=n:=by
    apply Classical.byContradiction
    intro hne
    have h4:=Int.dvd_sub (hd (i+j) (by omega)) h2
    rw[show co f (i+j) -(co f (i+j) -co A i*co b j)=co A i*co b j by omega] at h4
    exact(QoB hp h4).elim hi hj
  refine h0 ?_
  have c0:co f 0=co A 0*co b 0:=by rw[hco,Xp];show 0+co A 0*co b (0 -0)=_;rw[Int.zero_add]
  rw[c0]
  exact Int.mul_dvd_mul (Classical.not_not.1 (hil 0 (by omega))) (Classical.not_not.1 (hjl 0 (by omega)))
end Go.Gx
namespace Go.Gx
def shZ(c:Int)(f:List Int):List Int:=Xa (Yw [c,1] f)
theorem Qpg(c:Int)(f:List Int)(x:Rat):(P (shZ c f)).v x=(P f).v (x+(c:Rat)):=by
  unfold shZ
  rw[Yf,v_P,v_P,YU]
  congr 1
  simp only[evQ]
  rw[Yt];grind
theorem QjU(c:Int)(f:List Int):P (shZ (-c) (shZ c f))=P f:=QP.eq fun x=>by
  rw[Qpg,Qpg,Rat.intCast_neg]
  congr 1;grind
theorem QtQ(c:Int)(f:QP): ∃g:QP,∀x,g.v x=f.v (x+(c:Rat)):=by
  obtain⟨r,l,_,e⟩:=Qgx f
  exact⟨K r*P (shZ c l),fun x=>by rw[Xq,Qpg,e,Xq,v_K,v_K]⟩
theorem Qe4(c:Int)(f:List Int):dg (P (shZ c f))≤dg (P f):=by
  have h: ∀l:List Int,(Yw [c,1] l).length≤l.length∨True:=fun _=> .inr trivial
  have key: ∀l:List Int,∀i,l.length≤i→co (Yw [c,1] l) i=0:=by
    intro l
    induction l with
    |nil=>intro i _;simp [Yw,co]
    |cons a l ih=>
      intro i hi
      have hp:P (Yw [c,1] (a::l))=P (Xx [a] (Xx (Xf (Yw [c,1] l) c) (0::Yw [c,1] l))):=QP.eq fun x=>by
        rw[v_P,v_P,YU,Yn,Yn,XB]
        simp only[evQ]
        rw[YU]
        simp only[evQ]
        rw[Yt]
        grind
      rw[QgE hp i,Xv,Xv,Xi]
      simp only[List.length_cons] at hi
      obtain⟨j,rfl⟩: ∃j,i=j+1:=⟨i -1,by omega⟩
      have e1:co [a] (j+1)=0:=XX (by simp)
      have e2:co (0::Yw [c,1] l) (j+1)=co (Yw [c,1] l) j:=by simp [co]
      rw[e1,e2,ih (j+1) (by omega),ih j (by omega)];omega
  rw[Yj,Yj]
  unfold shZ
  rw[XV]
  have hc:P (Yw [c,1] f)=P (Yw [c,1] (Xa f)):=QP.eq fun x=>by rw[v_P,v_P,YU,YU,Zt]
  rw[QfO hc]
  have :=(XA (Yw [c,1] (Xa f))).2
  rcases this with h|h
  · omega
  · have : ¬(Xa f).length≤(Xa (Yw [c,1] (Xa f))).length -1:=fun h'=>h (key _ _ h')
    omega
theorem Qh4(c:Int)(f:List Int):dg (P (shZ c f))=dg (P f):=by
  have h1:=Qe4 c f
  have h2:=Qe4 (-c) (shZ c f)
  rw[QjU] at h2
  omega
def Shd(c:Int)(f g:QP):Prop:= ∀x,g.v x=f.v (x+(c:Rat))
theorem Shd.Z(c:Int)(f:List Int):Shd c (P f) (P (shZ c f)):=Qpg c f
theorem Shd.back{c:Int}{f g:QP}(h:Shd c f g):Shd (-c) g f:=fun x=>by
  rw[h,Rat.intCast_neg];congr 1;grind
theorem Shd.mul{c:Int}{f g f' g':QP}(h:Shd c f f')(k:Shd c g g'):Shd c (f*g) (f'*g'):=fun x=>by rw[Xq,Xq,h,k]
theorem Shd.eq{c:Int}{f g g':QP}(h:Shd c f g)(k:Shd c f g'):g=g':=QP.eq fun x=>by rw[h,k]
theorem Shd.dg{c:Int}{f g:QP}(h:Shd c f g):dg g=dg f:=by
  obtain⟨r,l,hr,e⟩:=Qgx f
  have :g=K r*P (shZ c l):=QP.eq fun x=>by rw[h,Xq,Qpg,e,Xq,v_K,v_K]
  rw[this,e,Qar hr,Qar hr,Qh4]
theorem Shd.dvd{c:Int}{f g f' g':QP}(h:Shd c f f')(k:Shd c g g')(hd:f∣g):f'∣g':=by
  obtain⟨q,e⟩:=hd
  obtain⟨q',hq⟩:=QtQ c q
  exact⟨q',QP.eq fun x=>by rw[k,e,Xq,Xq,h,hq]⟩
theorem Shd.irr{c:Int}{f f':QP}(h:Shd c f f')(hi:Irr f):Irr f':=by
  refine⟨by rw[h.dg];exact hi.1,fun a b e=> ?_⟩
  obtain⟨a',ha⟩:=QtQ (-c) a
  obtain⟨b',hb⟩:=QtQ (-c) b
  have e':f=a'*b':=by
    have h1:Shd (-c) f' (a'*b'):=by rw[e];exact Shd.mul ha hb
    exact h.back.eq h1
  rcases hi.2 a' b' e' with h1|h1
  · exact .inl (by rw[←h1,Shd.dg (c:= -c) ha])
  · exact .inr (by rw[←h1,Shd.dg (c:= -c) hb])
theorem Shd.pow{c:Int}{f f':QP}(h:Shd c f f')(n:Nat):Shd c (f^n) (f'^n):=fun x=>by rw[QfY,QfY,h]
theorem Shd.va{c:Int}{π π' f f':QP}(h:Shd c π π')(k:Shd c f f')(hπ:Irr π)(hf:f≠0):va π' f'=va π f:=by
  have hπ':=h.irr hπ
  have hf':f'≠0:=XF.2 (by rw[k.dg];exact XF.1 hf)
  refine Nat.le_antisymm ?_ ?_
  · refine(QaW hπ hf _).1 ((h.back.pow _).dvd k.back ((QaW hπ' hf' _).2 (Nat.le_refl _)))
  · refine(QaW hπ' hf' _).1 ((h.pow _).dvd k ((QaW hπ hf _).2 (Nat.le_refl _)))
end Go.Gx
namespace Go.Gx
theorem Qr3:Xk 2:=⟨by decide,fun a h0 h1=>by
  rw[show a=1 by omega];decide⟩
theorem QrN:Irr (P [1,0,0,0,1]):=by
  have h:Shd 1 (P [1,0,0,0,1]) (P [2,4,6,4,1]):=fun x=>by
    rw[v_P,v_P]
    simp only[evQ,Yt]
    have e2:((2:Int):Rat)=2:=rfl
    have e4:((4:Int):Rat)=4:=rfl
    have e6:((6:Int):Rat)=6:=rfl
    have e0:((0:Int):Rat)=0:=rfl
    rw[e2,e4,e6,e0]
    grind
  refine h.back.irr ?_
  refine Qp8 (n:=4) Qr3 (by decide) (by decide) (by decide) (fun i hi=> ?_) (by decide)
  match i,hi with
  |0,_=>decide
  |1,_=>decide
  |2,_=>decide
  |3,_=>decide
theorem Qnr:Qbb [0,0,-4,-4] [([0,1],2),([1,1],1)]:=by
  have hn: ∀x∈[(([0,1]:List Int),2),([1,1],1)],Nrm x.1:=fun x hx=>by
    rcases List.mem_cons.1 hx with rfl|hx
    · exact⟨by decide,by decide,by decide⟩
    rcases List.mem_cons.1 hx with rfl|hx
    · exact⟨by decide,by decide,by decide⟩
    cases hx
  refine Qns (u:= -4) hn (fun x hx=>QbV ?_) (fun x hx=> ?_) (by decide) (by decide) (QP.eq fun x=> ?_)
  · rw[Yj]
    rcases List.mem_cons.1 hx with rfl|hx
    · decide
    rcases List.mem_cons.1 hx with rfl|hx
    · decide
    cases hx
  · rcases List.mem_cons.1 hx with rfl|hx
    · decide
    rcases List.mem_cons.1 hx with rfl|hx
    · decide
    cases hx
  · simp only[ZO,Xq,QfY,v_K,v_P,evQ,Yt]
    rw[show(1:QP).v x=1 from by rw[←Qcw,v_P];simp only[evQ,Yt];grind]
    have e4:((-4:Int):Rat)= -4:=rfl
    have e0:((0:Int):Rat)=0:=rfl
    rw[e4,e0]
    grind
theorem QqQ:Yc [0,0,-4,-4]= -4:=by decide
end Go.Gx
namespace Go.Gx
theorem Qbb.pw{F:List Int}{fs:List (List Int×Nat)}(h:Qbb F fs):fs.Pairwise fun u v=>Xa u.1≠Xa v.1:=
  List.Pairwise.imp_of_mem (fun {a b} ha hb hab=>by rw[(h.n a ha).t,(h.n b hb).t];exact hab) h.diff
theorem Qbb.le{F:List Int}{fs:List (List Int×Nat)}(h:Qbb F fs): ∀x∈fs,x.2+1≤(Xa F).length∧x.1.length≤(Xa F).length∧2≤x.1.length:=fun x hx=>by
  have h1:=QfZ (h.irr x hx) h.ne
  have hv:=h.v x hx
  have hk:=h.k1 x hx
  have h2:=Qaj ((XM (h.irr x hx) h.ne).2 (by omega)) h.ne
  rw[Yj] at h1
  rw[Yj,Yj,(h.n x hx).t] at h2
  exact⟨by omega,h2,Qjy (h.n x hx) (h.irr x hx)⟩
end Go.Gx
namespace Go.Gx
theorem QkZ: ∀{l:List (List Int×Nat)},(∀x∈l,Nrm x.1∧Irr (P x.1)∧1≤x.2)→l.length+1≤dg (ZO l)
  | [],_=>by
    have :(1:QP)≠0:=QkP
    have :=XF.1 this
    show 0+1≤dg (1:QP);omega
  |x::l,h=>by
    have ih:=QkZ fun y hy=>h y (List.mem_cons_of_mem x hy)
    have⟨hn,hi,hk⟩:=h x (by simp)
    obtain⟨b,hb,e⟩:=QbZ fun y hy=>(h y (List.mem_cons_of_mem x hy)).1
    have hb0:ZO l≠0:=by rw[←e];exact hb.ne
    have hp0:P x.1^x.2≠0:=ZP hn.ne _
    have h1:=Zd hp0 hb0
    have h2:dg (P x.1)≤dg (P x.1^x.2):=Qaj ((XM hi hp0).2 (by rw[QgC hi hn.ne,QdP hi hi (XL _)];omega)) hp0
    have h3:=hi.1
    show(x::l).length+1≤dg (P x.1^x.2*ZO l)
    simp only[List.length_cons]
    omega
theorem Qbb.len{F:List Int}{fs:List (List Int×Nat)}(h:Qbb F fs):fs.length+1≤(Xa F).length:=by
  have h1:=QkZ fun x hx=>⟨h.n x hx,h.irr x hx,h.k1 x hx⟩
  rw[h.prod,Yj,QaS,Yz] at h1
  exact h1
theorem Qbb.whole{F X:List Int}{fs:List (List Int×Nat)}(h:Qbb F fs)(e:P X=K (Yc F:Rat)*ZO fs):Xa X=Xa F:=QfO (by rw[e,h.prod];exact(QbJ F).symm)
theorem Qoa{H:Nat}: ∀{F:List Int},(∀x∈F,x.natAbs≤H)→nrm F≤F.length*H
  | [],_=>by simp [nrm]
  |a::l,h=>by
    have :=Qoa fun x hx=>h x (List.mem_cons_of_mem a hx)
    have :=h a (by simp)
    rw[Qad,List.length_cons,Nat.succ_mul];omega
theorem Qto{F:List Int}{n H:Nat}(hl:F.length≤n)(h: ∀x∈F,x.natAbs≤H):nrm F≤n*H:=Nat.le_trans (Qoa h) (Nat.mul_le_mul_right H hl)
end Go.Gx
namespace Go.Gx
def QD8(x:Int×Int):List Int:=Xa [-x.1,1+x.2 % 16]
def QEb(F:List Int)(l:List (Int×Int)):List Int:=l.foldl (fun a x=>Xa (Xg a (QD8 x))) F
theorem QEK{F:List Int}{l:List (Int×Int)}{k:Nat}(h:k<l.length):QEb F (l.take (k+1))=Xa (Xg (QEb F (l.take k)) (QD8 (l.getD k (0,0)))):=by
  have e:l.take (k+1)=l.take k++[l.getD k (0,0)]:=by rw[List.take_add_one];simp only[List.getD,List.getElem?_eq_getElem h];rfl
  unfold QEb
  rw[e,List.foldl_append];rfl
theorem QE2{x:Int×Int}(h: -128≤x.1∧x.1≤127):nrm (QD8 x)≤256:=by
  unfold QD8
  rw[QkM]
  have :nrm [-x.1,1+x.2 % 16]=(-x.1).natAbs+(1+x.2 % 16).natAbs:=by simp [nrm]
  omega
theorem QEJ: ∀{l:List (Int×Int)},(∀x∈l,-128≤x.1∧x.1≤127)→ ∀{F:List Int},nrm (QEb F l)≤nrm F*256^l.length∧(QEb F l).length≤F.length+l.length
  | [],_,F=>by simp [QEb]
  |x::l,h,F=>by
    have h1:=QE2 (h x (by simp))
    have⟨h2,h3⟩:=QEJ (l:=l) (fun y hy=>h y (by simp [hy])) (F:=Xa (Xg F (QD8 x)))
    have e:QEb F (x::l)=QEb (Xa (Xg F (QD8 x))) l:=rfl
    rw[e]
    have h4:=Qhk F (QD8 x)
    have h5:=Xe (Xg F (QD8 x))
    have h6:(Xg F (QD8 x)).length≤F.length+(QD8 x).length -1:=by unfold Xg;split<;>simp
    have h7:(QD8 x).length≤2:=by unfold QD8;exact Xe _
    rw[QkM] at h2
    refine⟨Nat.le_trans h2 ?_,by simp only[List.length_cons];omega⟩
    rw[List.length_cons,Nat.pow_succ,Nat.mul_comm (256^l.length),←Nat.mul_assoc]
    exact Nat.mul_le_mul_right _ (Nat.le_trans h4 (Nat.mul_le_mul_left _ h1))
theorem QFq{x:Int×Int}{r q:Rat}(h:(x.1:Rat)=r*((1+x.2 % 16:Int):Rat)):evQ (QD8 x) q=((1+x.2 % 16:Int):Rat)*(q -r):=by
  unfold QD8
  rw[Zt]
  simp only[evQ]
  rw[Rat.intCast_neg,h];grind
theorem QE8: ∀{l:List (Int×Int)}{F:List Int}{q:Rat},evQ (QEb F l) q=0↔evQ F q=0∨ ∃x∈l,evQ (QD8 x) q=0
  | [],F,q=>by simp [QEb]
  |x::l,F,q=>by
    have e:QEb F (x::l)=QEb (Xa (Xg F (QD8 x))) l:=rfl
    rw[e,QE8,Zt,Qa2]
    simp only[List.mem_cons,exists_eq_or_imp]
    have :evQ F q*evQ (QD8 x) q=0↔evQ F q=0∨evQ (QD8 x) q=0:=Rat.mul_eq_zero
    rw[this,or_assoc]
theorem QEL{l:List (Int×Int)}{F:List Int}(h:P F=0):P (QEb F l)=0:=by
  induction l generalizing F with
  |nil=>exact h
  |cons x l ih=>exact ih (by rw[Yf,Zb,h,XG])
def QEY(fs:List (List Int×Nat)):Nat:=(fs.filter fun x=>decide ((Xa x.1).length=2)).length
theorem QE0{fs:List (List Int×Nat)}{k:Nat}(h:k<fs.length)(h2:(Xa (fs.getD k ([],0)).1).length=2):QEY (fs.take (k+1))=QEY (fs.take k)+1:=by
  unfold QEY
  rw[List.take_add_one,List.filter_append,List.length_append]
  simp only[List.getD,List.getElem?_eq_getElem h,Option.getD_some] at h2
  simp [h,h2]
theorem QFd{fs:List (List Int×Nat)}{k:Nat}(h:k<fs.length)(h2:(Xa (fs.getD k ([],0)).1).length≠2):QEY (fs.take (k+1))=QEY (fs.take k):=by
  unfold QEY
  rw[List.take_add_one,List.filter_append,List.length_append]
  simp only[List.getD,List.getElem?_eq_getElem h,Option.getD_some] at h2
  simp [h,h2]
theorem QFc(fs:List (List Int×Nat))(k:Nat):QEY (fs.take k)≤k:=by
  unfold QEY
  have h1:=List.length_filter_le (fun x:List Int×Nat=>decide ((Xa x.1).length=2)) (fs.take k)
  have h2:=List.length_take_le k fs
  omega
theorem QFs{rs:List Rat}{a:Rat}{k:Nat}(h:k<rs.length)(h1:a∉rs.take k)(h2:a≠rs.getD k 0):a∉rs.take (k+1):=by
  have e:rs.take (k+1)=rs.take k++[rs.getD k 0]:=by rw[List.take_add_one];simp only[List.getD,List.getElem?_eq_getElem h];rfl
  rw[e,List.mem_append,List.mem_singleton]
  exact fun h=>h.elim h1 h2
theorem QD6{rs:List Rat}{k:Nat}(h:k<rs.length):rs.getD k 0∈rs:=by
  simp only[List.getD,List.getElem?_eq_getElem h,Option.getD_some];exact List.getElem_mem _
theorem QFo{rs:List Rat}(h:rs.Pairwise (· < ·)){k:Nat}(hk:k<rs.length)(h0:0<k):rs.getD (k -1) 0<rs.getD k 0:=by
  simp only[List.getD,List.getElem?_eq_getElem hk,List.getElem?_eq_getElem (show k -1<rs.length by omega),Option.getD_some]
  exact List.pairwise_iff_getElem.1 h (k -1) k (by omega) hk (by omega)
end Go.Gx
