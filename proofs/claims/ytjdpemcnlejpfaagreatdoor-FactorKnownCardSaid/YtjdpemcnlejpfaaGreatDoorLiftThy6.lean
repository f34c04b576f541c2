/-
  LiftThy6, FacBase, SepMath, FacThy3, FacWalk
-/
import Derived.Test.YtjdpemcnlejpfaaGreatDoorListPreds
import Derived.Test.YtjdpemcnlejpfaaGreatDoorLaws2
set_option linter.all false
namespace Go.Gx
theorem Qt8(p a:Nat):(p:Int)∣QdX p a -(a:Int):=by
  unfold QdX
  obtain⟨k,hk⟩:=Qce (p:=p) a
  split
  · exact⟨k -1,by rw[Int.mul_sub];omega⟩
  · exact⟨k,hk⟩
theorem QfE(p:Nat):QdX p 0=0:=by unfold QdX;rw[Nat.zero_mod,if_neg (by omega)];rfl
theorem Qsy{F:Nat→Int}(h0:F 0=0)(d:List Nat)(i:Nat):co (d.map F) i=F (d.getD i 0):=by
  simp only[co,List.getD,List.getElem?_map]
  cases d[i]? with
  |none=>exact h0.symm
  |some x=>rfl
theorem QhV(p:Nat)(d:List Nat)(i:Nat):co (Xa (d.map (QdX p))) i=QdX p (d.getD i 0):=by rw[Xo,Qsy (QfE p)]
theorem QgB(p:Nat)(d:List Nat):CgV (p:Int) (Xa (d.map (QdX p))) (zl d):=CgV.of fun i=>by rw[QhV,ZS];exact Qt8 p _
theorem Qrj{p:Nat}(hp:2≤p):QdX p 1=1:=by
  unfold QdX
  rcases Nat.eq_or_lt_of_le hp with h|h
  · subst h;rfl
  · rw[Nat.mod_eq_of_lt (by omega),if_neg (by omega)];rfl
theorem Zw.mon{p:Nat}{d:List Nat}(hp:2≤p)(h:Zw p d):Mon (Xa (d.map (QdX p))) (d.length -1):=by
  refine⟨by rw[QhV,h.one,Qrj hp],fun i hi=> ?_⟩
  have :=h.pos
  rw[QhV,show d.getD i 0=0 by rw[List.getD,List.getElem?_eq_none (by omega)];rfl,QfE]
theorem Qld{p:Nat}(hp2:2≤p): ∀{ds ss:List (List Nat)},ds.length=ss.length→(∀d∈ds,Zw p d)→(∀(i:Nat)(d s:List Nat),ds[i]? =some d→ss[i]? =some s→s.length<d.length)→
    ∃n,MS (Qae p ds) (Qae p ss) n∧ds.length≤n
  | [],[],_,_,_=>⟨0,.nil,Nat.le_refl _⟩
  | [],_::_,h,_,_=>by cases h
  |_::_,[],h,_,_=>by cases h
  |d::ds,s::ss,h,hd,hs=>by
    obtain⟨n,h1,h2⟩:=Qld hp2 (ds:=ds) (ss:=ss) (by simpa using h) (fun x hx=>hd x (List.mem_cons_of_mem _ hx)) fun i a b ha hb=>hs (i+1) a b (by simpa using ha) (by simpa using hb)
    have hm:=hd d (List.mem_cons_self ..)
    have hl:=hs 0 d s rfl rfl
    refine⟨(d.length -1)+n,.cons (hm.mon hp2) (fun i hi=> ?_) h1,by have :=hm.pos;simp;omega⟩
    rw[QhV,show s.getD i 0=0 by rw[List.getD,List.getElem?_eq_none (by omega)];rfl,QfE]
theorem Qdt{p i:Nat}{ds:List (List Nat)}{a:List Int}(h:(Qae p ds)[i]? =some a): ∃d,ds[i]? =some d∧a=Xa (d.map (QdX p)):=by
  unfold Qae at h
  rw[List.getElem?_map] at h
  cases hd:ds[i]? with
  |none=>rw[hd] at h;cases h
  |some d=>rw[hd] at h;exact⟨d,rfl,(Option.some.inj h).symm⟩
theorem Qoj{q:Int}: ∀{as bs:List (List Int)},as.length=bs.length→(∀(i:Nat)(a b:List Int),as[i]? =some a→bs[i]? =some b→CgV q a b)→CgV q (pL as) (pL bs)
  | [],[],_,_=>CgV.refl _ _
  | [],_::_,h,_=>by cases h
  |_::_,[],h,_=>by cases h
  |a::as,b::bs,h,hi=>(hi 0 a b rfl rfl).mul (Qoj (by simpa using h) fun i x y hx hy=>hi (i+1) x y (by simpa using hx) (by simpa using hy))
theorem QeY{p i:Nat}{l:List (List Nat)}{s:List Nat}(h:(Qaq p l)[i]? =some s):i<l.length∧s=Qji p l i:=by
  unfold Qaq at h
  rw[List.getElem?_map] at h
  rcases Nat.lt_or_ge i l.length with h1|h1
  · rw[List.getElem?_range h1] at h;exact⟨h1,(Option.some.inj h).symm⟩
  · rw[List.getElem?_eq_none (by simpa using h1)] at h;cases h
structure Qmt (p:Nat) (f:List Int) (A0 L0 L1:List (List Int)) (e n:Nat):Prop where
  ms:MS L0 L1 n
  pr:CgV ((p^e:Nat):Int) (Xf (pL L0) (ldP f)) f
  cof:0<n→CgV ((p^e:Nat):Int) (tL L0 L1) [1]
  fit:Fit (p:Int) L0 A0
  red: ∀u∈L0,∀i,YY (p^e) (co u i)=co u i
  he:1≤e
theorem QeB{p:Nat}(hp0:0<p): ∀(l:List (List Nat))(a:List Nat),CgV (p:Int) (zl (QcM p a l)) (Xg (zl a) (pL (l.map zl)))
  | [],a=>CgV.eqv fun x=>by simp [QcM,pL,Xc,evI]
  |g::l,a=>by
    have h1:QcM p a (g::l)=QcM p (Qau p a g) l:=by unfold QcM;rw[List.foldl_cons]
    rw[h1]
    have h2:=QeB hp0 l (Qau p a g)
    have h3:=QgQ hp0 a g
    generalize zl (Qau p a g)=X at h2 h3
    exact h2.trans ((h3.mul (CgV.refl _ _)).trans (CgV.eqv fun x=>by simp only[List.map_cons,pL,Xc];grind))
theorem Fit.self{p:Int}: ∀{gs ss:List (List Int)}{n:Nat},MS gs ss n→Fit p gs gs:=fun h=>by
  induction h with
  |nil=>exact .nil
  |cons hg _ _ ih=>exact .cons _ hg hg (CgV.refl _ _) ih
theorem Qo8{p:Nat}(a:Nat):YY p (QdX p a)=QdX p a:=by
  rcases Nat.eq_zero_or_pos p with h|h
  · subst h;unfold YY QdX;simp
  · have h1:=Nat.mod_lt a h
    refine Qb6 ?_ ?_<;>(unfold QdX;split<;>omega)
theorem QnM{p:Nat}(hp0:0<p){P Q:List Int}{ld:Int}(h:CgV (p:Int) P Q):CgV (p:Int) (Xf P ld) (Xg (zl [md p ld]) Q):=by
  obtain⟨k,hk⟩:=QlX hp0 ld
  obtain⟨E,hE⟩:=h
  refine⟨Xx (Xf Q k) (Xf E ld),fun x=> ?_⟩
  have a1:=hE x
  simp only[Xm,Xc,Xd,zl,List.map_cons,List.map_nil,evI] at a1⊢
  rw[a1]
  generalize evI Q x=Q' at *
  generalize evI E x=E' at *
  generalize((md p ld:Nat):Int)=M at *
  subst hk
  grind
theorem QlW{p:Nat}(hp:Xk p){f:List Int}{ds:List (List Nat)}(hd: ∀d∈ds,Zw p d)(hw:Pw (p:Int) (ds.map zl))(hs:XO p (QcM p [md p (ldP f)] ds)=XO p (XR p f)):
    ∃n,Qmt p f (Qae p ds) (Qae p ds) (Qae p (Qaq p ds)) 1 n∧Pw (p:Int) (Qae p ds)∧ds.length≤n:=by
  have hp2:2≤p:=hp.1
  have hp0:0<p:=by omega
  have hlen:ds.length=(Qaq p ds).length:=by simp [Qaq]
  have hz: ∀(i:Nat)(a:List Int)(d:List Nat),(Qae p ds)[i]? =some a→ds[i]? =some d→CgV (p:Int) a (zl d):=fun i a d ha hda=>by
    obtain⟨d',h1,h2⟩:=Qdt ha
    rw[hda] at h1;obtain rfl:=Option.some.inj h1
    rw[h2];exact QgB p d
  obtain⟨n,hms,hn⟩:=Qld hp2 hlen hd fun i d s h1 h2=>by
    obtain⟨_,rfl⟩:=QeY h2
    exact(Qjj hp hd h1 hw).1
  have hpw:Pw (p:Int) (Qae p ds):=Qtx fun i j a b hj ha hb=>by
    obtain⟨d,h1,rfl⟩:=Qdt ha
    obtain⟨d',h2,rfl⟩:=Qdt hb
    exact(hw.at i j (zl d) (zl d') (by omega) (by simp [h1]) (by simp [h2])).cg (QgB p d).symm (QgB p d').symm
  have hprod: ∀i,CgV (p:Int) (pL ((Qae p ds).eraseIdx i)) (pL ((ds.map zl).eraseIdx i)):=fun i=>by
    refine Qoj (by simp [Qae,List.length_eraseIdx]) fun j a b ha hb=> ?_
    rw[List.getElem?_eraseIdx] at ha hb
    split at ha
    · rename_i h1
      rw[if_pos h1] at hb
      rw[List.getElem?_map] at hb
      cases hdj:ds[j]? with
      |none=>rw[hdj] at hb;cases hb
      |some d=>rw[hdj] at hb;obtain rfl:=Option.some.inj hb;exact hz j a d ha hdj
    · rename_i h1
      rw[if_neg h1] at hb
      rw[List.getElem?_map] at hb
      cases hdj:ds[j+1]? with
      |none=>rw[hdj] at hb;cases hb
      |some d=>rw[hdj] at hb;obtain rfl:=Option.some.inj hb;exact hz (j+1) a d ha hdj
  have hall:CgV (p:Int) (pL (Qae p ds)) (pL (ds.map zl)):=Qoj (by simp [Qae]) fun j a b ha hb=>by
    rw[List.getElem?_map] at hb
    cases hdj:ds[j]? with
    |none=>rw[hdj] at hb;cases hb
    |some d=>rw[hdj] at hb;obtain rfl:=Option.some.inj hb;exact hz j a d ha hdj
  refine⟨n,⟨hms,?_,fun hn0=> ?_,Fit.self hms,?_,Nat.le_refl _⟩,hpw,hn⟩
  · rw[Nat.pow_one]
    have h1:CgV (p:Int) (zl (QcM p [md p (ldP f)] ds)) f:=((QbK hp0 _).symm.trans (by rw[hs];exact QbK hp0 _)).trans (YW hp0 f)
    have h2:=(QeB hp0 ds [md p (ldP f)]).symm.trans h1
    have h3:CgV (p:Int) (Xf (pL (Qae p ds)) (ldP f)) (Xg (zl [md p (ldP f)]) (pL (ds.map zl))):=QnM hp0 hall
    exact h3.trans h2
  · rw[Nat.pow_one]
    refine crt hms hn0 hpw fun i g s hg hs'=> ?_
    obtain⟨d,h1,rfl⟩:=Qdt hg
    obtain⟨t,h2,rfl⟩:=Qdt hs'
    obtain⟨_,rfl⟩:=QeY h2
    obtain⟨_,y,hy⟩:=Qjj hp hd h1 hw
    exact⟨y,(((QgB p _).mul (hprod i)).trans hy).trans ((CgV.refl _ _).add ((CgV.refl _ _).mul (QgB p d).symm))⟩
  · rw[Nat.pow_one]
    intro u hu i
    obtain⟨d,_,rfl⟩:=List.mem_map.1 hu
    rw[QhV,Qo8]
theorem Qmt.degf{p:Nat}{f:List Int}{A0 L0 L1:List (List Int)}{e n:Nat}(h:Qmt p f A0 L0 L1 e n)(hl: ¬(p:Int)∣ldP f):co f n=ldP f∧ ∀i,n<i→co f i=0:=by
  have hM:=h.ms.prod
  have hp:(p:Int)∣ ((p^e:Nat):Int):=by
    have :=h.he
    exact_mod_cast Nat.dvd_of_pow_dvd (k:=1) (by omega) (by rw[Nat.pow_one];exact dvd_pow_self_nat (by omega))
  have hc: ∀i,∃k,ldP f*co (pL L0) i=co f i+p*k:=fun i=>by
    obtain⟨k,hk⟩:=(h.pr.dvd hp).cof i
    rw[Xi] at hk
    exact⟨k,by rw[Int.mul_comm];exact hk⟩
  have hne:ldP f≠0:=fun h0=>hl (h0▸Int.dvd_zero _)
  have hpos:0<(Xa f).length:=by
    rcases Nat.eq_zero_or_pos (Xa f).length with h0|h0
    · exfalso;apply hne;unfold ldP;rw[h0,List.eq_nil_of_length_eq_zero h0];rfl
    · exact h0
  have hld:ldP f=co f ((Xa f).length -1):=by
    unfold ldP
    rw[show(((Xa f).length:Int) -1)=(((Xa f).length -1:Nat):Int) by omega,QeV,Xo]
  have h1:(Xa f).length -1=n:=by
    rcases Nat.lt_trichotomy ((Xa f).length -1) n with h2|h2|h2
    · exfalso
      obtain⟨k,hk⟩:=hc n
      have h3:co f n=0:=by rw[←Xo,XX (by omega)]
      rw[hM.1,h3] at hk
      exact hl ⟨k,by omega⟩
    · exact h2
    · exfalso
      obtain⟨k,hk⟩:=hc ((Xa f).length -1)
      rw[hM.2 _ h2,←hld] at hk
      exact hl ⟨-k,by rw[Int.mul_neg];omega⟩
  exact⟨by rw[hld,h1],fun i hi=>by rw[←Xo,XX (by omega)]⟩
where
  dvd_pow_self_nat {p e:Nat} (he:e≠0):p∣p^e:=Nat.dvd_of_pow_dvd (k:=1) (Nat.le_refl _) (by rw[Nat.pow_one];exact⟨p^ (e -1),by rw[←Nat.pow_succ'];congr 1;omega⟩)
theorem Fit.step{p:Int}{q m:Nat}{μ:List Int}(hp:p∣q)(hm2:2≤m)(hq:(q:Int)∣m)(hμ:CgV (q:Int) μ []){gs A:List (List Int)}(h:Fit p gs A): ∀{ss:List (List Int)},gs.length=ss.length→Fit p ((gs.zip ss).map fun x=>QhP m μ x.1 x.2) A:=by
  induction h with
  |nil=>intro ss h;cases ss with
    |nil=>exact .nil
    |cons _ _=>cases h
  | @cons a b as bs d ha hb h t ih=>
    intro ss hl
    match ss,hl with
    |s::ss,hl=>
      refine .cons d ?_ hb (((Qoc hq hμ a s ⟨d,ha⟩).dvd hp).trans h) (ih (by simpa using hl))
      unfold QhP
      refine⟨?_,fun i hi=> ?_⟩
      · rw[Zm,Xo,Xv,ha.1,Qck ha d (Nat.le_refl _),Int.add_zero,Qlj hm2]
      · rw[Zm,Xo,Xv,ha.2 i hi,Qck ha i (by omega),Int.add_zero,Qbr]
theorem QnO{p k:Nat}(hp:Xk p){f:List Int}{A0 L0 L1:List (List Int)}{e n:Nat}{x K:Int}(h:Qmt p f A0 L0 L1 e n)(hn:0<n)(hl: ¬(p:Int)∣ldP f)(he:e<k)(hx:x*ldP f=1+((p^ (e+min e (k -e)):Nat):Int)*K):
    Qmt p f A0 (step0 (p^ (e+min e (k -e))) x f L0 L1) (step1 (p^ (e+min e (k -e))) x f L0 L1) (e+min e (k -e)) n:=by
  have hp2:=hp.1
  have he1:=h.he
  have hq:((p^e:Nat):Int)∣ ((p^ (e+min e (k -e)):Nat):Int):=by exact_mod_cast Nat.pow_dvd_pow p (by omega)
  have hm:((p^ (e+min e (k -e)):Nat):Int)∣ ((p^e:Nat):Int)*((p^e:Nat):Int):=by
    rw[←Int.natCast_mul,←Nat.pow_add]
    exact_mod_cast Nat.pow_dvd_pow p (by omega)
  have hm2:2≤p^ (e+min e (k -e)):=by
    calc 2≤p:=hp2
      _=p^1:=(Nat.pow_one p).symm
      _≤_:=Nat.pow_le_pow_right (by omega) (by omega)
  have hpq:(p:Int)∣ ((p^e:Nat):Int):=by
    have :p^1∣p^e:=Nat.pow_dvd_pow p he1
    rw[Nat.pow_one] at this
    exact_mod_cast this
  have hxd:((p^ (e+min e (k -e)):Nat):Int)∣x*ldP f -1:=⟨K,by omega⟩
  have hf:=h.degf hl
  obtain⟨s1,s2,s3⟩:=step_ok hm2 hq hm h.ms hn hxd hf h.pr (h.cof hn)
  have hμ:=(QvX hm2 hq hm h.ms hxd hf h.pr (h.cof hn) (QnV (f:=f) hx (Qj2 (m:=p^ (e+min e (k -e))) h.ms.len).2)).1
  refine⟨s1,s2,fun _=>s3,h.fit.step hpq hm2 hq hμ h.ms.len,fun u hu i=> ?_,by omega⟩
  obtain⟨y,_,rfl⟩:=List.mem_map.1 hu
  unfold QhP
  rw[Zm,Qdu (by omega)]
theorem Ql5{p:Nat}{f:List Int}{A0 L0 L1:List (List Int)}{e:Nat}(h:Qmt p f A0 L0 L1 e 0)(h0:L0=[])(hl: ¬(p:Int)∣ldP f):QfU f L0:=by
  subst h0
  have hf:=h.degf hl
  unfold QfU Qba
  refine YP fun i=> ?_
  cases i with
  |zero=>rw[hf.1];rfl
  |succ i=>rw[hf.2 _ (by omega),List.foldl_nil,XX (by simp)]
theorem QoG{p k:Nat}(hp:Xk p){f:List Int}{A0 A1 L0 L1:List (List Int)}{e n:Nat}(h0:Qmt p f A0 A0 A1 1 n)(hn:A0.length≤n∧(A0.length=0→n=0))(hl: ¬(p:Int)∣ldP f)(h:LReach p k f A0 A1 L0 L1 e):Qmt p f A0 L0 L1 e n:=by
  induction h with
  |start=>exact h0
  | @next L0 L1 e x K h he hnf hx hs ih=>
    rcases Nat.eq_zero_or_pos A0.length with h1|h1
    · exfalso
      have hn0:=hn.2 h1
      subst hn0
      have h2:L0=[]:=by
        have h3:=ih.fit
        rw[List.eq_nil_of_length_eq_zero h1] at h3
        cases h3;rfl
      exact hnf (Ql5 ih h2 hl)
    · exact QnO hp ih (by omega) hl he hx
end Go.Gx
namespace Go.Gx
structure Mn (p:Nat) (d:List Nat):Prop where
  can:XE p d
  pos:1≤d.length
  one:d.getD (d.length -1) 0=1
theorem Mn.mz{p:Nat}{f:List Nat}(h:Mn p f):Mon (zl f) (f.length -1):=⟨by rw[ZS,h.one];rfl,fun i hi=>by have :=h.pos;exact XX (by rw[Zl];omega)⟩
theorem Mn.monN{p:Nat}{f:List Nat}(h:Mn p f)(h2:2≤f.length):Zw p f:=⟨h.can,h2,h.one⟩
theorem Zw.mn{p:Nat}{f:List Nat}(h:Zw p f):Mn p f:=⟨h.can,by have :=h.pos;omega,h.one⟩
def SqF(p:Nat)(f:List Nat):Prop:=Cop (p:Int) (zl f) (Xn (zl f))
theorem Qdr{p:Int}{F w G:List Int}(hs:Cop p F (Xn F))(h:CgV p F (Xg w G)):Cop p G (Xn G):=by
  obtain⟨a,ha⟩:=Qep h
  obtain⟨u,v,k,hk⟩:=hs
  obtain⟨b,hb⟩:=h
  refine⟨Xx (Xg u w) (Xg v (Xn w)),Xg v w,XD k (Xx (Xg u b) (Xg v a)),fun x=> ?_⟩
  have h1:=ha x;have h2:=hb x;have h3:=hk x
  rw[Qc5] at h1
  simp only[Xd,Xh,Xc,Xj] at *
  rw[h1,h2] at h3
  grind
theorem CgV.comm{p:Int}(a b:List Int):CgV p (Xg a b) (Xg b a):=CgV.eqv fun x=>by simp only[Xc];grind
theorem QnZ{p c a b:Nat}{F M:List Int}(hp:2≤p)(hc:0<c)(hcp:c<p)(hF:Mon F a)(hM:Mon M b)(h:CgV (p:Int) F (Xf M c)):a=b∧c=1:=by
  have key: ∀z:Int,(p:Int)∣z→0<z→z<p→False:=fun z h1 h2 h3=>by have :=Int.le_of_dvd h2 h1;omega
  rcases Nat.lt_trichotomy a b with h1|h1|h1
  · exfalso
    obtain⟨k,hk⟩:=h.cof b
    rw[hF.2 b h1,Xi,hM.1] at hk
    exact key c ⟨-k,by grind⟩ (by omega) (by omega)
  · subst h1
    refine⟨rfl,?_⟩
    obtain⟨k,hk⟩:=h.cof a
    rw[hF.1,Xi,hM.1] at hk
    rcases Nat.lt_or_ge 1 c with h2|h2
    · exfalso;exact key ((c:Int) -1) ⟨-k,by grind⟩ (by omega) (by omega)
    · omega
  · exfalso
    obtain⟨k,hk⟩:=h.cof a
    rw[hF.1,Xi,hM.2 a h1] at hk
    exact key 1 ⟨k,by grind⟩ (by omega) (by omega)
theorem QjD{p:Nat}(hp:Xk p){q:List Nat}(hq:XE p q)(h0:0<q.length):Mn p (XS p q)∧(XS p q).length=q.length∧CgV (p:Int) (zl q) (Xf (zl (XS p q)) (XW q:Nat)):=by
  have hl:=Qam hp hq
  have h1:=Qgo hp hq h0
  refine⟨⟨QdC (by have :=hp.1;omega) _,by omega,by rw[hl];exact h1⟩,hl,?_⟩
  have hla:=hq.last h0
  have hm:XS p q=Qbp p q (ZL p (XW q)):=by unfold XS;rw[if_neg (by omega)]
  obtain⟨a,ha⟩:=Qen (p:=p) q (ZL p (XW q))
  obtain⟨k,hk⟩:=Qce (p:=p) (XW q*ZL p (XW q))
  rw[show XW q*ZL p (XW q) % p=1 from(Qak hp hla.1 hla.2).2,Int.natCast_mul] at hk
  rw[hm]
  refine⟨Xf (Xx (Xf (zl q) k) (Xf a (-(XW q:Int)))) 1,fun x=> ?_⟩
  have a1:=ha x
  simp only[Xd,Xc,Xm,evI] at a1⊢
  rw[a1]
  simp only[Int.natCast_one] at hk
  grind
theorem QaM{p:Nat}(hp:Xk p){f g q r:List Nat}(hf:Mn p f)(hg:Zw p g)(hd:Dv (p:Int) (zl g) (zl f))(h:XH p f g=(q,r)):
    Mn p q∧CgV (p:Int) (zl f) (Xg (zl q) (zl g))∧q.length+g.length=f.length+1:=by
  have hp0:0<p:=by have :=hp.1;omega
  have hgp:=hg.pos
  obtain⟨w,hw⟩:=hd
  have h1:=QbP hp0 h
  have hr:r.length<g.length:=by
    have h2:=Qa0 (f:=f) hp (by omega) (by rw[hg.one];omega) hg.can.1 hf.can.1
    rw[h] at h2;exact h2
  have hq:XE p q:=by have :=(QaB hp0 hf.can (g:=g)).1;rw[h] at this;exact this
  have h3:CgV (p:Int) (Xg (zl g) (XD w (zl q))) (zl r):=by
    obtain⟨a,ha⟩:=h1;obtain⟨b,hb⟩:=hw
    exact⟨Xf (Xx a b) (-1),fun x=>by have :=ha x;have :=hb x;simp only[Xd,Xc,Xh,Xm] at *;grind⟩
  have h4:=YM hg.mz h3 fun i hi=>by rw[XX (by rw[Zl];omega)];exact Int.dvd_zero _
  have h5:CgV (p:Int) (zl f) (Xg (zl q) (zl g)):=by
    obtain⟨a,ha⟩:=h4;obtain⟨b,hb⟩:=hw
    exact⟨Xx b (Xg a (zl g)),fun x=>by have :=ha x;have :=hb x;simp only[Xd,Xc,Xh,evI] at *;grind⟩
  have hq0:0<q.length:=by
    rcases Nat.eq_zero_or_pos q.length with e|e
    · exfalso
      rw[List.eq_nil_of_length_eq_zero e] at h5
      obtain⟨k,hk⟩:=h5.cof (f.length -1)
      rw[hf.mz.1,Xp] at hk
      have h6:conv (zl []) (zl g) (f.length -1)=0:=XQ fun i _=>by show co [] i*_=0;simp [co]
      rw[h6] at hk
      have h7:(p:Int)∣1:=⟨k,by omega⟩
      have :=Int.le_of_dvd (by omega) h7
      have :=hp.1
      omega
    · exact e
  obtain⟨hm,hml,hmc⟩:=QjD hp hq hq0
  have hla:=hq.last hq0
  have h6:CgV (p:Int) (zl f) (Xf (Xg (zl (XS p q)) (zl g)) (XW q:Nat)):=h5.trans ((hmc.mul (CgV.refl _ _)).trans (CgV.eqv fun x=>by simp only[Xc,Xm];grind))
  have h7:=QnZ hp.1 hla.1 hla.2 hf.mz (hm.mz.mul hg.mz) h6
  have :=hf.pos
  refine⟨⟨hq,hq0,h7.2⟩,h5,by omega⟩
theorem QmY{p:Nat}{a a' b:List Int}(h:Cop (p:Int) a b)(e:EqF p b a a'):Cop (p:Int) a' b:=by
  obtain⟨u,v,k,hk⟩:=h;obtain⟨w,l,e⟩:=e
  refine⟨u,Xx v (Xg u w),XD k (Xg u l),fun x=> ?_⟩
  have h1:=hk x;have h2:=e x
  simp only[Xd,Xh,Xc,Xj] at *
  rw[h2] at h1;grind
theorem QbB{p:Int}{a F q:List Int}(h:Cop p a F)(hd:Dv p q F):Cop p a q:=by
  obtain⟨u,v,k,hk⟩:=h;obtain⟨w,l,hd⟩:=hd
  refine⟨u,Xg v w,XD k (Xg v l),fun x=> ?_⟩
  have h1:=hk x;have h2:=hd x
  simp only[Xd,Xh,Xc,Xj] at *
  rw[h2] at h1;grind
theorem QqZ{p:Nat}(hp:Xk p){u f q r:List Nat}(hu:XE p u)(hf:Mn p f)(hs:SqF p f)(h2:2≤(XN p u f).length)(h:XH p f (XN p u f)=(q,r)):Cop (p:Int) (zl u) (zl q):=by
  have hpos:=hf.pos
  have hl:0<u.length+f.length:=by omega
  have hD:=Qac hp hu hf.can hl h2
  obtain⟨d1,d2⟩:=QbS hp f.length u f hu hf.can (Nat.le_refl _) hl
  change Dv (p:Int) (zl (XN p u f)) (zl u) at d1
  change Dv (p:Int) (zl (XN p u f)) (zl f) at d2
  obtain⟨hq,hqc,hql⟩:=QaM hp hf hD d2 h
  have hqp:=hq.pos
  have hl2:0<u.length+q.length:=by omega
  rcases Nat.lt_or_ge 1 (XN p u q).length with h3|h3
  · exfalso
    have hE:=Qac hp hu hq.can hl2 h3
    obtain⟨e1,e2⟩:=QbS hp q.length u q hu hq.can (Nat.le_refl _) hl2
    change Dv (p:Int) (zl (XN p u q)) (zl u) at e1
    change Dv (p:Int) (zl (XN p u q)) (zl q) at e2
    have e3:Dv (p:Int) (zl q) (zl f):=⟨zl (XN p u f),hqc.trans (CgV.comm _ _)⟩
    obtain⟨y,hy⟩:=QmP hp (F:=zl u) (G:=zl f) f.length u f [1] [] hu hf.can (Nat.le_refl _) hl Qdc.1 Qdc.2
    have e4:EqF p (zl (XN p u q)) (zl (XN p u f)) []:=(EqF.cg hy).trans ((((EqF.refl _).mul (EqF.of_dv e1)).add ((EqF.refl y).mul (EqF.of_dv (e2.trans e3)))).trans (EqF.ev fun x=>by simp only[Xd,Xc,evI];omega))
    obtain⟨s,t,hc⟩:=QhE hs hqc
    refine YJ hp.1 hE (EqF.dv ((EqF.cg hc.symm).trans ((((EqF.refl s).mul (EqF.of_dv e2)).add ((EqF.refl t).mul e4)).trans (EqF.ev fun x=>by simp only[Xd,Xc,evI];omega))))
  · exact ZC hp hu hq.can hl2 h3
end Go.Gx
namespace Go.Gx
variable{p d:Nat}{F:List Int}
theorem QmR(hp:Xk p)(a:Int):CgV (p:Int) (Yx [a] p) [a]:=by
  have h2:=hp.1
  obtain⟨k,hk⟩: ∃k:Nat,(p:Int)∣a -k:=⟨md p a,by obtain⟨z,hz⟩:=QlX (p:=p) (by omega) a;exact⟨z,by omega⟩⟩
  obtain⟨z,hz⟩:=hk
  obtain⟨y,hy⟩:=Qqi hp k
  obtain⟨h,e⟩:=Qu6 hp [(k:Int)] [(p:Int)*z]
  refine⟨Xx (Xx [y] h) [(p:Int)^ (p -1)*z^p -z],fun x=> ?_⟩
  have e:=e x
  obtain⟨n,rfl⟩: ∃n,p=n+1:=⟨p -1,by omega⟩
  simp only[Xl,Xd,Xj,Nat.add_sub_cancel,Int.mul_pow] at *
  rw[show a=(k:Int)+((n+1:Nat):Int)*z by omega,e,Int.pow_succ ((n+1:Nat):Int) n]
  grind
theorem Qkc(hp:Xk p)(a:Int): ∀i,EqF p F (cj p [a] i) [a]
  |0=>EqF.refl _
  |i+1=>((Qkc hp a i).pow p).trans (EqF.cg (QmR hp a))
theorem QmF(a b:List Int)(x:Int): ∀i,evI (cj p (Xg a b) i) x=evI (cj p a i) x*evI (cj p b i) x
  |0=>Xc a b x
  |i+1=>by simp only[cj,Xl,QmF a b x i,Int.mul_pow]
theorem Qmy(hp:Xk p)(h:EqF p F (cj p [0,1] d) [0,1]): ∀t:List Int,EqF p F (cj p t d) t
  | []=>EqF.ev fun x=>by rw[QeQ (by have :=hp.1;omega)];rfl
  |a::t=>by
    have e: ∀x,evI (a::t) x=evI (Xx [a] (Xg [0,1] t)) x:=fun x=>by rw[Xd,Xc];simp [evI]
    refine((EqF.ev e).cj d).trans ((QmE hp [a] (Xg [0,1] t) d).trans (((Qkc hp a d).add ?_).trans (EqF.ev fun x=>(e x).symm)))
    exact(EqF.ev fun x=>(QmF (p:=p) [0,1] t x d).trans (Xc _ _ x).symm).trans (h.mul (Qmy hp h t))
theorem QiB(a b:List Int)(x:Int): ∀n,evI (Yu p (Xg a b) n) x=evI (Yu p a n) x*evI (Yu p b n) x
  |0=>by simp [Yu,Xj]
  |n+1=>by simp only[Yu,Xc,QiB a b x n,QmF];grind
theorem QiD(t:List Int)(x:Int): ∀n,evI (Yx (Yu p t n) p) x*evI t x=evI (Yu p t n) x*evI (cj p t n) x
  |0=>by simp only[Yu,cj,Xl,Xj,Int.one_pow]
  |n+1=>by
    have h:=QiD t x n
    simp only[Yu,cj,Xl,Xc,Int.mul_pow] at *
    grind
theorem QpT{f:List Nat}(hp:Xk p)(hf:Zw p f)(hw:Whole p f){c:List Int}(h:Cop (p:Int) (zl f) c)(n:Nat):Cop (p:Int) (zl f) (Yx c n):=by
  rcases Qp0 hp hf hw (Yx c n) with h1|h1
  · exact h1
  · exact absurd (Qe0 h (QdI hp hf hw c n h1)) (YJ hp.1 hf)
theorem Qry{f:List Nat}(hp:Xk p)(hf:Zw p f)(hw:Whole p f){c:List Int}(h:Cop (p:Int) (zl f) c): ∀i,Cop (p:Int) (zl f) (cj p c i)
  |0=>h
  |i+1=>QpT hp hf hw (Qry hp hf hw h i) p
theorem QhZ{f:List Nat}(hp:Xk p)(hf:Zw p f)(hw:Whole p f){c:List Int}(h:Cop (p:Int) (zl f) c): ∀n,Cop (p:Int) (zl f) (Yu p c n)
  |0=>⟨[],[1],CgV.eqv fun x=>by simp only[Yu,Xd,Xc,Xj,evI];omega⟩
  |n+1=>(QhZ hp hf hw h n).mul (Qry hp hf hw h n)
theorem QjT{f:List Nat}(hp:Xk p)(h2:p≠2)(hf:Zw p f)(hw:Whole p f)(hx:EqF p (zl f) (cj p [0,1] d) [0,1]){t:List Int}(ht:Cop (p:Int) (zl f) t):
    EqF p (zl f) (Yx (Yu p t d) ((p -1)/2)) [1]∨EqF p (zl f) (Yx (Yu p t d) ((p -1)/2)) [-1]:=by
  have hp2:=hp.1
  have hodd:p % 2=1:=by
    have h3:=hp.2 2 (by omega) (by omega)
    rcases Nat.mod_two_eq_zero_or_one p with h|h
    · exfalso
      have :2∣Nat.gcd 2 p:=Nat.dvd_gcd (Nat.dvd_refl 2) (Nat.dvd_of_mod_eq_zero h)
      rw[h3] at this;omega
    · exact h
  have hN:=QhZ hp hf hw ht d
  have h1:Dv (p:Int) (zl f) (XD (Yx (Yu p t d) p) (Yu p t d)):=by
    refine ZB ht (EqF.dv ?_)
    refine(EqF.ev fun x=> ?_:EqF p (zl f) _ (XD (Xg (Yu p t d) (cj p t d)) (Xg (Yu p t d) t))).trans ((((EqF.refl _).mul (Qmy hp hx t)).sub (EqF.refl _)).trans (EqF.ev fun x=>by simp only[Xh,Xc,evI];omega))
    have h:=QiD (p:=p) t x d
    simp only[Xh,Xc] at *
    grind
  have h3:Dv (p:Int) (zl f) (XD (Yx (Yu p t d) (p -1)) [1]):=by
    refine ZB hN (h1.cg (CgV.eqv fun x=> ?_))
    obtain⟨n,rfl⟩: ∃n,p=n+1:=⟨p -1,by omega⟩
    simp only[Xh,Xc,Xl,Xj,Nat.add_sub_cancel,Int.pow_succ]
    grind
  have h4:Dv (p:Int) (zl f) (Xg (XD (Yx (Yu p t d) ((p -1)/2)) [1]) (Xx (Yx (Yu p t d) ((p -1)/2)) [1])):=by
    refine h3.cg (CgV.eqv fun x=> ?_)
    obtain⟨e,he⟩: ∃e,p -1=e+e:=⟨(p -1)/2,by omega⟩
    have he2:(p -1)/2=e:=by omega
    rw[he2,he]
    simp only[Xh,Xd,Xc,Xl,Xj,Int.pow_add]
    grind
  rcases Qp0 hp hf hw (XD (Yx (Yu p t d) ((p -1)/2)) [1]) with h5|h5
  · right
    have h6:=ZB h5 h4
    exact((EqF.ev fun x=>by simp only[Xh,Xd,Xj];omega:EqF p (zl f) _ (XD (Xx (Yx (Yu p t d) ((p -1)/2)) [1]) [1])).trans ((EqF.of_dv h6).sub (EqF.refl [1]))).trans (EqF.ev fun x=>by simp only[Xh,evI];omega)
  · exact .inl (EqF.sub_of (EqF.of_dv h5))
theorem ZE(hp:Xk p): ∀(n:Nat)(f:List Nat),f.length≤n→Zw p f→ ∃G,Zw p G∧Whole p G∧Dv (p:Int) (zl G) (zl f)
  |0,f,h,hf=>absurd hf.pos (by omega)
  |n+1,f,h,hf=>by
    rcases Classical.em (Whole p f) with hw|hw
    · exact⟨f,hf,hw,Dv.self _⟩
    · obtain⟨G,w,hG,hlt,hw⟩:=QbX hp.1 hf hw
      obtain⟨H,h1,h2,h3⟩:=ZE hp n G (by omega) hG
      exact⟨H,h1,h2,h3.trans ⟨w,hw⟩⟩
structure EdW (p d:Nat) (f:List Nat):Prop where
  mon:Zw p f
  sq:Cop (p:Int) (zl f) (Xn (zl f))
  fix:EqF p (zl f) (cj p [0,1] d) [0,1]
  low: ∀k,1≤k→k<d→Cop (p:Int) (XD (cj p [0,1] k) [0,1]) (zl f)
theorem EdW.deg{f G:List Nat}(hp:Xk p)(hd:1≤d)(h:EdW p d f)(hG:Zw p G)(hw:Whole p G)(hdv:Dv (p:Int) (zl G) (zl f)):G.length=d+1:=by
  have h1:=QfI hp hG hw hd (h.fix.low hdv)
  have hpos:=hG.pos
  rcases Nat.lt_or_ge (G.length -1) d with h2|h2
  · exfalso
    have h3:=(Qi1 hp hG hw).dvs
    have h4:=QbB (h.low (G.length -1) (by omega) h2) hdv
    obtain⟨s,t,k,hk⟩:=h4
    refine YJ hp.1 hG (Qe0 (a:=XD (cj p [0,1] (G.length -1)) [0,1]) ⟨t,s,k,fun x=> ?_⟩ h3)
    have :=hk x
    simp only[Xd,Xc] at *
    grind
  · omega
theorem QoC{f g1 g2 s:List Nat}(hp:Xk p)(hf:Zw p f)(hs:XE p s)(hg1:Zw p g1)(e1:Dv (p:Int) (zl g1) (zl f))(e2:Dv (p:Int) (zl g2) (zl f))(z:Dv (p:Int) (zl g1) (zl s))(nz: ¬Dv (p:Int) (zl g2) (zl s)):
    2≤(XN p s f).length∧(XN p s f).length<f.length:=by
  have hpos:=hf.pos
  have hl:0<s.length+f.length:=by omega
  obtain⟨d1,d2⟩:=QbS hp f.length s f hs hf.can (Nat.le_refl _) hl
  change Dv (p:Int) (zl (XN p s f)) (zl s) at d1
  change Dv (p:Int) (zl (XN p s f)) (zl f) at d2
  have h2:2≤(XN p s f).length:=by
    rcases Nat.lt_or_ge 1 (XN p s f).length with h2|h2
    · exact h2
    · exfalso
      obtain⟨u,v,hu⟩:=ZC hp hs hf.can hl h2
      have h3:EqF p (zl g1) [1] []:=(EqF.cg hu.symm).trans ((((EqF.refl u).mul (EqF.of_dv z)).add ((EqF.refl v).mul (EqF.of_dv e1))).trans (EqF.ev fun x=>by simp only[Xd,Xc,evI];omega))
      exact YJ hp.1 hg1 (EqF.dv h3)
  have hD:=Qac hp hs hf.can hl h2
  refine⟨h2,?_⟩
  have h3:=Qa1 hp.1 hD.mz hf.mz d2
  rcases Nat.lt_or_ge (XN p s f).length f.length with h4|h4
  · exact h4
  · have hle:(XN p s f).length=f.length:=by omega
    have he:=Qg2 hf.mz (by rw[←hle];exact hD.mz) d2
    exact absurd ((e2.cg he.symm).trans d1) nz
theorem QjS{g:List Nat}{t:List Int}(h:EqF p (zl g) (Yx (Yu p t d) ((p -1)/2)) [1]):EqF p (zl g) (QoP p t d) []:=
  (h.sub (EqF.refl [1])).trans (EqF.ev fun x=>by simp only[Xh,evI];omega)
theorem QoS{g s:List Nat}{t:List Int}(hp:Xk p)(h2:p≠2)(hg:Zw p g)(h:EqF p (zl g) (Yx (Yu p t d) ((p -1)/2)) [-1])(hs:EqF p (zl g) (zl s) (QoP p t d)): ¬Dv (p:Int) (zl g) (zl s):=fun hd=>by
  have hp2:=hp.1
  have h1:EqF p (zl g) [-2] []:=((EqF.ev fun x=>by simp only[Xh,Xj];omega:EqF p (zl g) [-2] (XD [-1] [1])).trans (h.symm.sub (EqF.refl [1]))).trans (hs.symm.trans (EqF.of_dv hd))
  obtain⟨k,hk⟩:=Qes hg (EqF.dv h1)
  rcases Int.lt_trichotomy k 0 with hk0|hk0|hk0
  · have :(p:Int)*k≤(p:Int)*(-1):=Int.mul_le_mul_of_nonneg_left (by omega) (by omega)
    omega
  · subst hk0;omega
  · have :(p:Int)*0≤(p:Int)*k:=Int.mul_le_mul_of_nonneg_left (by omega) (by omega)
    omega
theorem QtN{g s:List Nat}{t:List Int}(hp:Xk p)(h2:p≠2)(hd:1≤d)(hg:Zw p g)(h:EqF p (zl g) t [])(hs:EqF p (zl g) (zl s) (QoP p t d)): ¬Dv (p:Int) (zl g) (zl s):=fun hv=>by
  have hp2:=hp.1
  have h1:EqF p (zl g) [-1] []:=(EqF.ev fun x=>by rw[QoQ (by omega) hd,Xj]:EqF p (zl g) [-1] (QoP p [] d)).trans ((h.symm.sepO d).trans (hs.symm.trans (EqF.of_dv hv)))
  obtain⟨k,hk⟩:=Qes hg (EqF.dv h1)
  rcases Int.lt_trichotomy k 0 with hk0|hk0|hk0
  · have :(p:Int)*k≤(p:Int)*(-1):=Int.mul_le_mul_of_nonneg_left (by omega) (by omega)
    omega
  · subst hk0;omega
  · have :(p:Int)*0≤(p:Int)*k:=Int.mul_le_mul_of_nonneg_left (by omega) (by omega)
    omega
theorem EdW.two{f:List Nat}(hp:Xk p)(hd:1≤d)(h:EdW p d f)(hn: ¬Whole p f): ∃g1 g2:List Nat,Zw p g1∧Whole p g1∧Zw p g2∧Whole p g2∧Dv (p:Int) (zl g1) (zl f)∧Dv (p:Int) (zl g2) (zl f)∧
    Cop (p:Int) (zl g1) (zl g2)∧g1.length=d+1∧g2.length=d+1:=by
  obtain⟨G,w,hG,hlt,hw⟩:=QbX hp.1 h.mon hn
  obtain⟨g1,m1,w1,e1⟩:=ZE hp _ G (Nat.le_refl _) hG
  have e1f:Dv (p:Int) (zl g1) (zl f):=e1.trans ⟨w,hw⟩
  rcases hq:XH p f g1 with⟨q,r⟩
  obtain⟨k1,k2,k3⟩:=QaM hp h.mon.mn m1 e1f hq
  have l1:=Qa1 hp.1 m1.mz hG.mz e1
  have a1:=m1.pos;have a2:=hG.pos
  have mq:=k1.monN (by omega)
  obtain⟨g2,m2,w2,e2⟩:=ZE hp _ q (Nat.le_refl _) mq
  have k4:=k2.trans (CgV.comm (zl q) (zl g1))
  have e2f:Dv (p:Int) (zl g2) (zl f):=e2.trans ⟨zl g1,k4⟩
  exact⟨g1,g2,m1,w1,m2,w2,e1f,e2f,QbB (QhE h.sq k4) e2,h.deg hp hd m1 w1 e1f,h.deg hp hd m2 w2 e2f⟩
theorem Qfu(a:Int): ∀i,∃V:Int,∀x,evI (Yu p [a] i) x=V∧ ∃U:Int,∀x,evI (cj p [a] i) x=U
  |0=>⟨1,fun x=>⟨Xj 1 x,a,fun x=>Xj a x⟩⟩
  |i+1=>by
    obtain⟨V,hV⟩:=Qfu a i
    obtain⟨_,U,hU⟩:=hV 0
    exact⟨V*U,fun x=>⟨by rw[Yu,Xc,(hV x).1,hU],U^p,fun x=>by rw[cj,Xl,hU]⟩⟩
theorem QoR{g1 g2 t:List Nat}(hp:Xk p)(h2:p≠2)(m1:Zw p g1)(m2:Zw p g2)(ht:t.length≤1)
    (A:EqF p (zl g1) (Yx (Yu p (zl t) d) ((p -1)/2)) [1])(B:EqF p (zl g2) (Yx (Yu p (zl t) d) ((p -1)/2)) [-1]):False:=by
  have hp2:=hp.1
  have e: ∀x,evI (zl t) x=evI [((t.getD 0 0:Nat):Int)] x:=fun x=>by
    match t,ht with
    | [],_=>simp [zl,evI]
    | [a],_=>simp [zl]
    |_::_::_,h=>simp at h
  obtain⟨V,hV⟩:=Qfu (p:=p) ((t.getD 0 0:Nat):Int) d
  have ev: ∀F:List Int,EqF p F (Yx (Yu p (zl t) d) ((p -1)/2)) [V^ ((p -1)/2)]:=fun F=>(((EqF.ev e).prodJ d).pow _).trans (EqF.ev fun x=>by rw[Xl,(hV x).1,Xj])
  obtain⟨k,hk⟩:=Qes m1 (EqF.dv ((EqF.ev fun x=>by simp only[Xh,Xj]:EqF p (zl g1) [V^ ((p -1)/2) -1] (XD [V^ ((p -1)/2)] [1])).trans ((((ev _).symm.trans A).sub (EqF.refl [1])).trans (EqF.ev fun x=>by simp only[Xh,evI];omega))))
  obtain⟨l,hl⟩:=Qes m2 (EqF.dv ((EqF.ev fun x=>by simp only[Xh,Xj];omega:EqF p (zl g2) [V^ ((p -1)/2)+1] (XD [V^ ((p -1)/2)] [-1])).trans ((((ev _).symm.trans B).sub (EqF.refl [-1])).trans (EqF.ev fun x=>by simp only[Xh,evI];omega))))
  have h3:(p:Int)*(l -k)=2:=by rw[Int.mul_sub];omega
  rcases Int.lt_trichotomy (l -k) 0 with hk0|hk0|hk0
  · have :(p:Int)*(l -k)≤(p:Int)*(-1):=Int.mul_le_mul_of_nonneg_left (by omega) (by omega)
    omega
  · rw[hk0] at h3;omega
  · have :(p:Int)*1≤(p:Int)*(l -k):=Int.mul_le_mul_of_nonneg_left (by omega) (by omega)
    omega
def QwZ(p d:Nat)(f t:List Nat):Prop:=XE p t∧2≤t.length∧t.length≤d+1∧ ∀s,XE p s→EqF p (zl f) (zl s) (QoP p (zl t) d)→2≤(XN p s f).length∧(XN p s f).length<f.length
theorem Qhz{f g1 g2 t:List Nat}(hp:Xk p)(h2:p≠2)(hf:Zw p f)(m1:Zw p g1)(m2:Zw p g2)(e1:Dv (p:Int) (zl g1) (zl f))(e2:Dv (p:Int) (zl g2) (zl f))(hc:XE p t)(hl:t.length≤d+1)
    (A:EqF p (zl g1) (Yx (Yu p (zl t) d) ((p -1)/2)) [1])(B:EqF p (zl g2) (Yx (Yu p (zl t) d) ((p -1)/2)) [-1]):QwZ p d f t:=by
  refine⟨hc,?_,hl,fun s hs he=>QoC hp hf hs m1 e1 e2 (EqF.dv ((he.low e1).trans (QjS A))) (QoS hp h2 m2 B (he.low e2))⟩
  rcases Nat.lt_or_ge 1 t.length with h|h
  · exact h
  · exact(QoR hp h2 m1 m2 h A B).elim
theorem Zh(l:List Nat):(YK l).length≤l.length:=by
  exact QaV _ l
theorem Qdj(f g:List Int):(Xx f g).length=max f.length g.length:=by simp [Xx]
theorem QtO{f:List Nat}(hp:Xk p)(h2:p≠2)(hd:1≤d)(h:EdW p d f)(hn: ¬Whole p f): ∃t,QwZ p d f t:=by
  have hp2:=hp.1
  have hp0:0<p:=by omega
  obtain⟨g1,g2,m1,w1,m2,w2,e1,e2,c12,l1,l2⟩:=h.two hp hd hn
  rcases QjT hp h2 m1 w1 (h.fix.low e1) c12 with hA|hB
  · exact⟨g2,m2.can,by omega,by omega,fun s hs he=>QoC hp h.mon hs m1 e1 e2 (EqF.dv ((he.low e1).trans (QjS hA))) (QtN hp h2 hd m2 (EqF.of_dv (Dv.self _)) (he.low e2))⟩
  have cY:Cop (p:Int) (zl g1) (XD (zl g2) [1]):=by
    rcases Qp0 hp m1 w1 (XD (zl g2) [1]) with h3|h3
    · exact h3
    · exfalso
      have h4:EqF p (zl g1) (zl g2) [1]:=EqF.sub_of (EqF.of_dv h3)
      have h5:EqF p (zl g1) (Yx (Yu p (zl g2) d) ((p -1)/2)) [1]:=((h4.prodJ d).pow _).trans (EqF.ev fun x=>by rw[Xl,QiC,Int.one_pow,Xj])
      exact QoS (s:=[]) hp h2 m1 hB (QjS h5).symm (EqF.dv (EqF.refl _))
  obtain⟨u,v,k,hk⟩:=cY
  obtain⟨r,hrc,hrl,hre⟩:=QoI hp m1 (Xg v (zl g2))
  have hrg:EqF p (zl g1) (Xg (zl r) (XD (zl g2) [1])) (zl g2):=by
    refine(hre.mul (EqF.refl _)).trans ⟨Xf (Xg u (zl g2)) (-1),Xg k (zl g2),fun x=> ?_⟩
    have :=hk x
    simp only[Xd,Xc,Xh,Xm,Xj] at *
    have h3:(evI u x*evI (zl g1) x+evI v x*(evI (zl g2) x -1))*evI (zl g2) x=(1+p*evI k x)*evI (zl g2) x:=by rw[this]
    grind
  have cr1:Cop (p:Int) (zl g1) (zl r):=by
    rcases Qp0 hp m1 w1 (zl r) with h3|h3
    · exact h3
    · exfalso
      have h4:EqF p (zl g1) (zl g2) []:=hrg.symm.trans (((EqF.of_dv h3).mul (EqF.refl _)).trans (EqF.ev fun x=>by simp only[Xc,evI];omega))
      exact YJ hp2 m1 (Qe0 c12 (EqF.dv h4))
  have cr2:Cop (p:Int) (zl g2) (zl r):=by
    rcases Qp0 hp m2 w2 (zl r) with h3| ⟨w,hw⟩
    · exact h3
    · exfalso
      have hz:CgV (p:Int) w []:=YM m2.mz ((CgV.comm (zl g2) w).trans hw.symm) fun i hi=>by
        rw[XX (by rw[Zl];omega)];exact⟨0,by simp⟩
      exact YJ hp2 m1 (Qe0 cr1 (EqF.dv (EqF.cg (hw.trans (CgV.nil_mul hz)))))
  have t2c:=XK hp0 (Xx (zl r) (zl g2))
  have t2e:=YW hp0 (Xx (zl r) (zl g2))
  have t2l:(XR p (Xx (zl r) (zl g2))).length≤d+1:=by
    refine Nat.le_trans (Zh _) ?_
    rw[List.length_map,Qdj,Zl,Zl];omega
  have v1:=QjT hp h2 m1 w1 (h.fix.low e1) cr1
  have v2:=QjT hp h2 m2 w2 (h.fix.low e2) cr2
  have s2:EqF p (zl g2) (Yx (Yu p (zl (XR p (Xx (zl r) (zl g2)))) d) ((p -1)/2)) (Yx (Yu p (zl r) d) ((p -1)/2)):=by
    refine(EqF.prodJ ?_ d).pow _
    exact(EqF.cg t2e).trans (((EqF.refl (zl r)).add (EqF.of_dv (Dv.self _))).trans (EqF.ev fun x=>by simp only[Xd,evI];omega))
  have s1:EqF p (zl g1) (Yx (Yu p (zl (XR p (Xx (zl r) (zl g2)))) d) ((p -1)/2)) (Xg (Yx (Yu p (zl r) d) ((p -1)/2)) [-1]):=by
    have h3:EqF p (zl g1) (zl (XR p (Xx (zl r) (zl g2)))) (Xg (zl r) (zl g2)):=
      (EqF.cg t2e).trans (((EqF.refl (zl r)).add hrg.symm).trans (EqF.ev fun x=>by simp only[Xd,Xc,Xh,Xj];grind))
    refine(((h3.prodJ d).pow _).trans (EqF.ev fun x=> ?_)).trans ((EqF.refl _).mul hB)
    rw[Xl,Xc,Xl,Xl,←Int.mul_pow,QiB]
  rcases v1 with v1|v1<;>rcases v2 with v2|v2
  · exact⟨_,Qhz hp h2 h.mon m2 m1 e2 e1 t2c t2l (s2.trans v2) (s1.trans ((v1.mul (EqF.refl _)).trans (EqF.ev fun x=>by simp only[Xc,Xj];omega)))⟩
  · exact⟨_,Qhz hp h2 h.mon m1 m2 e1 e2 hrc (by omega) v1 v2⟩
  · exact⟨_,Qhz hp h2 h.mon m2 m1 e2 e1 hrc (by omega) v2 v1⟩
  · exact⟨_,Qhz hp h2 h.mon m1 m2 e1 e2 t2c t2l (s1.trans ((v1.mul (EqF.refl _)).trans (EqF.ev fun x=>by simp only[Xc,Xj];omega))) (s2.trans v2)⟩
def sgN(c s:Nat→List Int)(m:Nat):Nat→List Int
  |0=>[]
  |n+1=>Xx (sgN c s m n) (Xg (c n) (Yx (s n) m))
theorem Qla(c s:Nat→List Int)(t:List Int)(m:Nat)(x:Int): ∀n,evI (sgN (fun i=>Xg (c i) (XD (s i) t)) s m n) x=evI (sgN c s (m+1) n) x -evI t x*evI (sgN c s m n) x
  |0=>by simp only[sgN,evI];omega
  |n+1=>by
    have h:=Qla c s t m x n
    simp only[sgN,Xd,Xc,Xh,Xl] at *
    rw[h,Int.pow_succ];grind
theorem Qvf{p:Nat}{F:List Int}(s:Nat→List Int): ∀(n:Nat)(c:Nat→List Int),(∀m,EqF p F (sgN c s m (n+1)) [])→(∀i,1≤i→i≤n→Cop (p:Int) F (XD (s 0) (s i)))→EqF p F (c 0) []
  |0,c,h,_=>(EqF.ev fun x=>by simp only[sgN,Xd,Xc,Xl,evI];grind).trans (h 0)
  |n+1,c,h,hc=>by
    have h1: ∀m,EqF p F (sgN (fun i=>Xg (c i) (XD (s i) (s (n+1)))) s m (n+1)) []:=fun m=>by
      refine(EqF.ev fun x=> ?_).trans (((h (m+1)).sub ((EqF.refl (s (n+1))).mul (h m))).trans (EqF.ev fun x=>by simp only[Xh,Xc,evI];omega))
      have e: ∀m,evI (sgN c s m (n+1+1)) x=evI (sgN c s m (n+1)) x+evI (c (n+1)) x*evI (s (n+1)) x^m:=fun m=>by rw[sgN,Xd,Xc,Xl]
      rw[Qla,Xh,Xc,e,e,Int.pow_succ];grind
    have h2:=Qvf s n _ h1 fun i a b=>hc i a (by omega)
    exact EqF.of_dv (ZB (hc (n+1) (by omega) (Nat.le_refl _)) (EqF.dv ((EqF.ev fun x=>by simp only[Xc];grind).trans h2)))
theorem QtP{d:Nat}{f:List Nat}(hd:1≤d)(h0:EdW 2 d f)(h: ¬Whole 2 f):
    ∃k,2*k+2≤f.length∧ ∀s,XE 2 s→EqF 2 (zl f) (zl s) (QbH 2 (Yx [0,1] (2*k+1)) d)→2≤(XN 2 s f).length∧(XN 2 s f).length<f.length:=by
  have hf:=h0.mon
  have hs:=h0.sq
  have hx:=h0.fix
  have hpr:=QqI.pr
  obtain⟨G,w,e,S⟩:=Qrd (Nat.le_refl 2) hf hs h
  have hpos:=hf.pos
  rcases Classical.em (∃k,2*k+2≤f.length∧ ∀s,XE 2 s→EqF 2 (zl f) (zl s) (QbH 2 (Yx [0,1] (2*k+1)) d)→2≤(XN 2 s f).length∧(XN 2 s f).length<f.length) with h1|h1
  · exact h1
  exfalso
  have hodd: ∀k,2*k+2≤f.length→Kd (zl f) (Yx [0,1] (2*k+1)) d:=by
    intro k hk
    rcases Classical.em (∀s,XE 2 s→EqF 2 (zl f) (zl s) (QbH 2 (Yx [0,1] (2*k+1)) d)→2≤(XN 2 s f).length∧(XN 2 s f).length<f.length) with h2|h2
    · exact absurd ⟨k,hk,h2⟩ h1
    · obtain⟨s,h2⟩:=Classical.not_forall.1 h2
      have h3:XE 2 s∧EqF 2 (zl f) (zl s) (QbH 2 (Yx [0,1] (2*k+1)) d)∧ ¬(2≤(XN 2 s f).length∧(XN 2 s f).length<f.length):=by
        rcases Classical.em (XE 2 s) with h3|h3
        · rcases Classical.em (EqF 2 (zl f) (zl s) (QbH 2 (Yx [0,1] (2*k+1)) d)) with h4|h4
          · exact⟨h3,h4,fun h5=>h2 fun _ _=>h5⟩
          · exact absurd (fun _ h5=>absurd h5 h4) h2
        · exact absurd (fun h5=>absurd h5 h3) h2
      obtain⟨hcs,hes,hbad⟩:=h3
      have hl0:0<s.length+f.length:=by omega
      have hpw:EqF 2 (zl f) (cj 2 (Yx [0,1] (2*k+1)) d) (Yx [0,1] (2*k+1)):=
        (EqF.ev fun x=>by rw[Qkd,←Xl]:EqF 2 (zl f) _ (Yx (cj 2 [0,1] d) (2*k+1))).trans (hx.pow _)
      have hsq:=Qt7 QqI hpw
      have hss:EqF 2 (zl f) (Yx (zl s) 2) (zl s):=(hes.pow 2).trans (hsq.trans hes.symm)
      rcases Nat.lt_or_ge 1 (XN 2 s f).length with h4|h4
      · obtain⟨d1,d2⟩:=QbS hpr f.length s f hcs hf.can (Nat.le_refl _) hl0
        change Dv (2:Int) (zl (XN 2 s f)) (zl s) at d1
        change Dv ((2:Nat):Int) (zl (XN 2 s f)) (zl f) at d2
        have hD:=Qac hpr hcs hf.can hl0 h4
        have h5:=Qa1 (Nat.le_refl 2) hD.mz hf.mz d2
        have hle:(XN 2 s f).length=f.length:=by omega
        have he:=Qg2 hf.mz (by rw[←hle];exact hD.mz) d2
        have h6:Dv (2:Int) (zl f) (zl s):=((Dv.self (zl f)).cg he.symm).trans d1
        exact⟨0,.inl rfl,hes.symm.trans ((EqF.of_dv h6).trans (EqF.ev fun x=>by simp only[evI];omega))⟩
      · have hcop:=(ZC hpr hcs hf.can hl0 h4).symm
        have h5:Dv (2:Int) (zl f) (Xg (zl s) (XD (zl s) [1])):=hss.dvs.cg (CgV.eqv fun x=>by simp only[Xc,Xh,Xl,Xj];grind)
        have h6:=ZB hcop h5
        exact⟨1,.inr rfl,hes.symm.trans (EqF.of_dvs h6)⟩
  have hall: ∀n m,m≤n→m<f.length→Kd (zl f) (Yx [0,1] m) d:=by
    intro n
    induction n with
    |zero=>
        intro m hm _;obtain rfl:m=0:=by omega
        exact Kd.one _ d
    |succ n ih=>
      intro m hm hl
      rcases Nat.eq_zero_or_pos m with rfl|hp
      · exact Kd.one _ d
      rcases Nat.mod_two_eq_zero_or_one m with h2|h2
      · have h3:=(ih (m/2) (by omega) (by omega)).sq
        refine h3.eq (EqF.ev fun x=> ?_)
        rw[Xl,Xl,Xl,←Int.pow_mul,show m/2*2=m by omega]
      · obtain⟨k,rfl⟩: ∃k,m=2*k+1:=⟨m/2,by omega⟩
        exact hodd k (by omega)
  have hany: ∀t:List Int,Kd (zl f) t d:=fun t=>by
    obtain⟨r,hr,hrl,hre⟩:=QoI hpr hf t
    exact(Kd.all (B:=f.length) (fun m hm=>hall m m (Nat.le_refl _) hm) r.length r rfl (by omega) hr.1).eq hre
  have hG: ∀t:List Int,EqF 2 (zl G) (QbH 2 t d) []:=fun t=>by
    obtain⟨c,hc,hk⟩:=hany (Xg t e)
    have hw:EqF 2 w (Xg t e) []:=((EqF.refl t).mul S.zero).trans (EqF.ev fun x=>by simp only[Xc,evI];omega)
    have h2:EqF 2 w [c] []:=((hk.low S.dw).symm.trans (hw.sumJ d)).trans (by
      obtain⟨k,hk,h3⟩:=Kd.nil w d
      exact EqF.ev fun x=>by
        have : ∀d,evI (QbH 2 [] d) x=0:=fun d=>by
          induction d with
          |zero=>rfl
          |succ d ih=>rw[QbH,Xd,ih,QeQ (by omega)];rfl
        rw[this];rfl)
    rcases hc with rfl|rfl
    · have hg:EqF 2 (zl G) (Xg t e) t:=((EqF.refl t).mul S.one).trans (EqF.ev fun x=>by simp only[Xc,Xj];omega)
      exact((hg.symm.sumJ d).trans (hk.low S.dG)).trans (EqF.ev fun x=>by simp only[evI];omega)
    · exact absurd (EqF.dv h2) S.nw
  obtain⟨j,rfl⟩: ∃j,d=j+1:=⟨d -1,by omega⟩
  refine YJ (Nat.le_refl 2) S.mon (EqF.dv (Qvf (cj 2 [0,1]) j (fun _=>[1]) (fun m=>(EqF.ev fun x=> ?_).trans (hG (Yx [0,1] m))) fun i h1 h2=> ?_))
  · have h9: ∀n,evI (sgN (fun _=>[1]) (cj 2 [0,1]) m n) x=evI (QbH 2 (Yx [0,1] m) n) x:=by
      intro n
      induction n with
      |zero=>rfl
      |succ n ih=>simp only[sgN,QbH,Xd,Xc,Xl,ih,Qkd,Xj];grind
    exact h9 _
  · obtain⟨u,v,k,hk⟩:=QbB (h0.low i h1 (by omega)) S.dG
    exact⟨v,Xf u (-1),k,fun x=>by have :=hk x;simp only[Xd,Xc,Xh,Xm,Xj,cj] at *;rw[←this];grind⟩
end Go.Gx
namespace Go.Gx
def Qd3(p N:Nat)(t:List Nat):Prop:=XE p t∧ if p=2 then ∀x:Int,evI (zl t) x=x^ (2*N+1) else vb p t=N+p
def QvU(p:Nat)(t:List Int)(d:Nat):List Int:=if p=2 then QbH p t d else QoP p t d
def Qsk(p:Nat)(f:List Nat)(d:Nat)(t s:List Nat):Prop:=XE p s∧EqF p (zl f) (zl s) (QvU p (zl t) d)
theorem Qwj{p d:Nat}{f:List Nat}(hp:Xk p)(hd:1≤d)(h:EdW p d f)(hl:d+1<f.length):
    ∃N,(p=2∧2*N+2≤f.length∨p≠2∧N+p<p^ (d+1))∧ ∀t s,Qd3 p N t→Qsk p f d t s→2≤(XN p s f).length∧(XN p s f).length<f.length:=by
  have hw: ¬Whole p f:=fun hw=>by have :=QfI hp h.mon hw hd h.fix;omega
  rcases Classical.em (p=2) with h2|h2
  · subst h2
    obtain⟨k,hk,hs⟩:=QtP hd h hw
    refine⟨k,.inl ⟨rfl,hk⟩,fun t s ht hsr=>hs s hsr.1 ?_⟩
    have h3:=ht.2
    rw[if_pos rfl] at h3
    have h4:=hsr.2
    rw[QvU,if_pos rfl] at h4
    exact h4.trans (EqF.sumJ (EqF.ev fun x=>by rw[h3,Xl];simp [evI]) d)
  · obtain⟨t0,hc,h3,h4,hs⟩:=QtO hp h2 hd h hw
    have hp2:=hp.1
    have hlo:p^1≤vb p t0:=by
      refine Nat.le_trans (Nat.pow_le_pow_right (by omega) (show 1≤t0.length -1 by omega)) (QgM (Qf0 hc) (by intro e;subst e;simp at h3) (by omega))
    have hhi:vb p t0<p^ (d+1):=Nat.lt_of_lt_of_le (Qmm t0 hc.1) (Nat.pow_le_pow_right (by omega) h4)
    rw[Nat.pow_one] at hlo
    refine⟨vb p t0 -p,.inr ⟨h2,by omega⟩,fun t s ht hsr=>hs s hsr.1 ?_⟩
    have h5:=ht.2
    rw[if_neg h2] at h5
    have h6:t=t0:=Qsb hp2 t t0 ht.1 hc (by omega)
    have h7:=hsr.2
    rw[QvU,if_neg h2,h6] at h7
    exact h7
theorem EdW.part{p d:Nat}{f g q r:List Nat}(hp:Xk p)(h:EdW p d f)(hg:Zw p g)(hd:Dv (p:Int) (zl g) (zl f))(hlt:g.length<f.length)(hq:XH p f g=(q,r)):
    EdW p d g∧EdW p d q∧CgV (p:Int) (zl f) (Xg (zl g) (zl q))∧q.length<f.length:=by
  obtain⟨h1,h2,h3⟩:=QaM hp h.mon.mn hg hd hq
  have hgp:=hg.pos
  have hdq:Dv (p:Int) (zl q) (zl f):=⟨zl g,h2.trans (CgV.comm _ _)⟩
  refine⟨⟨hg,Qdr h.sq h2,h.fix.low hd,fun k a b=>QbB (h.low k a b) hd⟩,⟨h1.monN (by omega),Qdr h.sq (h2.trans (CgV.comm _ _)),h.fix.low hdq,fun k a b=>QbB (h.low k a b) hdq⟩,h2.trans (CgV.comm _ _),by omega⟩
theorem EdW.whole{p d:Nat}{f:List Nat}(hp:Xk p)(hd:1≤d)(h:EdW p d f)(hl:f.length≤d+1):Whole p f:=by
  rcases Classical.em (Whole p f) with hw|hw
  · exact hw
  · exfalso
    obtain⟨G,w,hG,hlt,hwG⟩:=QbX hp.1 h.mon hw
    obtain⟨g1,m1,w1,e1⟩:=ZE hp _ G (Nat.le_refl _) hG
    have h1:=h.deg hp hd m1 w1 (e1.trans ⟨w,hwG⟩)
    have h2:=Qa1 hp.1 m1.mz hG.mz e1
    have :=hG.pos
    omega
structure Zv (p:Nat) (F:List Int) (l:List (List Nat)):Prop where
  mon: ∀d∈l,Zw p d
  whole: ∀d∈l,Whole p d
  prod:CgV (p:Int) (pL (l.map zl)) F
theorem QvD(a b:List (List Int))(x:Int):evI (pL (a++b)) x=evI (pL a) x*evI (pL b) x:=by
  induction a with
  |nil=>simp [pL,evI]
  |cons c a ih=>simp only[List.cons_append,pL,Xc,ih];grind
theorem Zv.one{p:Nat}{f:List Nat}(h:Zw p f)(hw:Whole p f):Zv p (zl f) [f]:=⟨fun d hd=>by rw[List.mem_singleton.1 hd];exact h,fun d hd=>by rw[List.mem_singleton.1 hd];exact hw,CgV.eqv fun x=>by simp only[List.map,pL,Xc,Xj];omega⟩
theorem Zv.nil(p:Nat):Zv p [1] []:=⟨fun d hd=>by simp at hd,fun d hd=>by simp at hd,CgV.refl _ _⟩
theorem Zv.app{p:Nat}{F G:List Int}{a b:List (List Nat)}(h:Zv p F a)(g:Zv p G b):Zv p (Xg F G) (a++b):=
  ⟨fun d hd=>by rcases List.mem_append.1 hd with h1|h1;exact h.mon d h1;exact g.mon d h1,
   fun d hd=>by rcases List.mem_append.1 hd with h1|h1;exact h.whole d h1;exact g.whole d h1,
   (CgV.eqv fun x=>by rw[List.map_append,QvD,Xc]).trans (h.prod.mul g.prod)⟩
theorem Zv.cg{p:Nat}{F G:List Int}{a:List (List Nat)}(h:Zv p F a)(e:CgV (p:Int) F G):Zv p G a:=⟨h.mon,h.whole,h.prod.trans e⟩
theorem Qtr{a b:List (List Int)}(h:a.Perm b)(x:Int):evI (pL a) x=evI (pL b) x:=by
  induction h with
  |nil=>rfl
  |cons c _ ih=>simp only[pL,Xc,ih]
  |swap c d l=>simp only[pL,Xc];grind
  |trans _ _ h1 h2=>rw[h1,h2]
theorem Zv.perm{p:Nat}{F:List Int}{a b:List (List Nat)}(h:Zv p F a)(e:b.Perm a):Zv p F b:=
  ⟨fun d hd=>h.mon d (e.mem_iff.1 hd),fun d hd=>h.whole d (e.mem_iff.1 hd),(CgV.eqv fun x=>Qtr (e.map zl) x).trans h.prod⟩
theorem Zv.pw{p:Nat}: ∀{l:List (List Nat)}{F:List Int},Zv p F l→Cop (p:Int) F (Xn F)→Pw (p:Int) (l.map zl)
  | [],_,_,_=>trivial
  |d::l,F,h,hs=>by
    have h1:CgV (p:Int) F (Xg (zl d) (pL (l.map zl))):=h.prod.symm
    have h2:=QhE hs h1
    have h3:=Qdr hs h1
    refine⟨fun c hc=>QbB h2 ?_,Zv.pw (F:=pL (l.map zl)) ⟨fun e he=>h.mon e (List.mem_cons_of_mem _ he),fun e he=>h.whole e (List.mem_cons_of_mem _ he),CgV.refl _ _⟩ h3⟩
    have : ∀(L:List (List Int)),c∈L→Dv (p:Int) c (pL L):=by
      intro L
      induction L with
      |nil=>intro h;simp at h
      |cons a L ih=>
        intro hm
        rcases List.mem_cons.1 hm with rfl|hm
        · exact⟨pL L,CgV.comm _ _⟩
        · obtain⟨w,hw⟩:=ih hm
          exact⟨Xg a w,((CgV.refl _ a).mul hw).trans (CgV.eqv fun x=>by simp only[Xc];grind)⟩
    exact this _ hc
structure BdI (p d:Nat) (F:List Int) (L:List (List Nat)) (f w:List Nat):Prop where
  mn:Mn p f
  sq:SqF p f
  fac: ∃R,Zv p R L∧CgV (p:Int) (Xg R (zl f)) F
  can:XE p w
  pow:EqF p (zl f) (zl w) (cj p [0,1] (d -1))
  low: ∀k,1≤k→k<d→Cop (p:Int) (XD (cj p [0,1] k) [0,1]) (zl f)
theorem Qwh{p d:Nat}(hp:Xk p){F:List Int}{L:List (List Nat)}{f w w2 u:List Nat}(h:BdI p d F L f w)(hd:1≤d)(h2:EqF p (zl f) (zl w2) (Yx (zl w) p))(hu:CgV (p:Int) (zl u) (XD (zl w2) [0,1])):
    EqF p (zl f) (zl w2) (cj p [0,1] d)∧EqF p (zl f) (zl u) (XD (cj p [0,1] d) [0,1]):=by
  obtain⟨j,rfl⟩: ∃j,d=j+1:=⟨d -1,by omega⟩
  have h3:EqF p (zl f) (zl w2) (cj p [0,1] (j+1)):=h2.trans (h.pow.pow p)
  exact⟨h3,(EqF.cg hu).trans (h3.sub (EqF.refl _))⟩
theorem BdI.no{p d:Nat}(hp:Xk p){F:List Int}{L:List (List Nat)}{f w w2 u:List Nat}(h:BdI p d F L f w)(hd:1≤d)(hw2:XE p w2)(hu0:XE p u)(h2:EqF p (zl f) (zl w2) (Yx (zl w) p))(hu:CgV (p:Int) (zl u) (XD (zl w2) [0,1]))
    (hg:(XN p u f).length≤1):BdI p (d+1) F L f w2:=by
  obtain⟨h3,h4⟩:=Qwh hp h hd h2 hu
  have hpos:=h.mn.pos
  refine⟨h.mn,h.sq,h.fac,hw2,h3,fun k h5 h6=> ?_⟩
  rcases Nat.lt_or_ge k d with h7|h7
  · exact h.low k h5 h7
  · obtain rfl:k=d:=by omega
    exact QmY (ZC hp hu0 h.mn.can (by omega) hg) h4
theorem BdI.ed{p d:Nat}(hp:Xk p){F:List Int}{L:List (List Nat)}{f w w2 u:List Nat}(h:BdI p d F L f w)(hd:1≤d)(hu0:XE p u)(h2:EqF p (zl f) (zl w2) (Yx (zl w) p))(hu:CgV (p:Int) (zl u) (XD (zl w2) [0,1]))
    (hg:2≤(XN p u f).length):EdW p d (XN p u f):=by
  obtain⟨h3,h4⟩:=Qwh hp h hd h2 hu
  have hpos:=h.mn.pos
  have hl:0<u.length+f.length:=by omega
  have hD:=Qac hp hu0 h.mn.can hl hg
  obtain⟨d1,d2⟩:=QbS hp f.length u f hu0 h.mn.can (Nat.le_refl _) hl
  change Dv (p:Int) (zl (XN p u f)) (zl u) at d1
  change Dv (p:Int) (zl (XN p u f)) (zl f) at d2
  obtain⟨w0,hw0⟩:=d2
  exact⟨hD,Qdr h.sq hw0,EqF.of_dvs (EqF.dv ((h4.low ⟨w0,hw0⟩).symm.trans (EqF.of_dv d1))),fun k a b=>QbB (h.low k a b) ⟨w0,hw0⟩⟩
theorem BdI.yes{p d:Nat}(hp:Xk p){F:List Int}{L L':List (List Nat)}{f w w2 w3 u q r:List Nat}(h:BdI p d F L f w)(hd:1≤d)(hu0:XE p u)(h2:EqF p (zl f) (zl w2) (Yx (zl w) p))(hu:CgV (p:Int) (zl u) (XD (zl w2) [0,1]))
    (hg:2≤(XN p u f).length)(hL:Zv p (zl (XN p u f)) L')(hq:XH p f (XN p u f)=(q,r))(hw3:XE p w3)(h3:EqF p (zl q) (zl w3) (zl w2)):BdI p (d+1) F (L++L') q w3:=by
  obtain⟨h5,h4⟩:=Qwh hp h hd h2 hu
  have hpos:=h.mn.pos
  have hl:0<u.length+f.length:=by omega
  have hD:=Qac hp hu0 h.mn.can hl hg
  obtain⟨d1,d2⟩:=QbS hp f.length u f hu0 h.mn.can (Nat.le_refl _) hl
  change Dv (p:Int) (zl (XN p u f)) (zl f) at d2
  obtain⟨e1,e2,e3⟩:=QaM hp h.mn hD d2 hq
  have hc:=QqZ hp hu0 h.mn h.sq hg hq
  have hdq:Dv (p:Int) (zl q) (zl f):=⟨zl (XN p u f),e2.trans (CgV.comm _ _)⟩
  obtain⟨R,hR,hRF⟩:=h.fac
  refine⟨e1,Qdr h.sq (e2.trans (CgV.comm _ _)),⟨_,hR.app hL,?_⟩,hw3,h3.trans (h5.low hdq),fun k h7 h8=> ?_⟩
  · refine((CgV.eqv fun x=> ?_:CgV (p:Int) _ (Xg R (Xg (zl q) (zl (XN p u f))))).trans ((CgV.refl _ R).mul e2.symm)).trans hRF
    simp only[Xc];grind
  · rcases Nat.lt_or_ge k d with h6|h6
    · exact QbB (h.low k h7 h6) hdq
    · obtain rfl:k=d:=by omega
      exact QmY hc (h4.low hdq)
theorem BdI.start{p:Nat}{f w:List Nat}(hf:Mn p f)(hs:SqF p f)(hw:XE p w)(h:EqF p (zl f) (zl w) [0,1]):BdI p 1 (zl f) [] f w:=
  ⟨hf,hs,⟨[1],Zv.nil p,CgV.eqv fun x=>by simp only[Xc,Xj];omega⟩,hw,h,fun k h2 h3=>by omega⟩
theorem BdI.done1{p d:Nat}{F:List Int}{L:List (List Nat)}{f w:List Nat}(h:BdI p d F L f w)(hl:f.length≤1):Zv p F L:=by
  obtain⟨R,hR,hRF⟩:=h.fac
  have hpos:=h.mn.pos
  have h1:=h.mn.one
  have h2:f=[1]:=by
    match f,hl,hpos,h1 with
    | [a],_,_,h1=>simp [List.getD] at h1;rw[h1]
  refine hR.cg ((CgV.eqv fun x=> ?_).trans hRF)
  rw[h2];simp only[Xc,zl,List.map,evI];grind
theorem Qrs{p d:Nat}{F:List Int}{L:List (List Nat)}{f w G:List Nat}(hp:Xk p)(h:BdI p d F L f w)(hG:Zw p G)(hw:Whole p G)(hdv:Dv (p:Int) (zl G) (zl f)):d+1≤G.length:=by
  have hpos:=hG.pos
  rcases Nat.lt_or_ge (G.length -1) d with h2|h2
  · exfalso
    have h3:=(Qi1 hp hG hw).dvs
    obtain⟨s,t,k,hk⟩:=QbB (h.low (G.length -1) (by omega) h2) hdv
    refine YJ hp.1 hG (Qe0 (a:=XD (cj p [0,1] (G.length -1)) [0,1]) ⟨t,s,k,fun x=> ?_⟩ h3)
    have :=hk x
    simp only[Xd,Xc] at *
    omega
  · omega
theorem BdI.done2{p d:Nat}{F:List Int}{L:List (List Nat)}{f w:List Nat}(hp:Xk p)(h:BdI p d F L f w)(hl:2≤f.length)(hd:f.length -1<2*d):Zv p F (L++[f]):=by
  obtain⟨R,hR,hRF⟩:=h.fac
  refine(hR.app (Zv.one (h.mn.monN hl) ?_)).cg hRF
  rcases Classical.em (Whole p f) with hw|hw
  · exact hw
  · exfalso
    have hf:=h.mn.monN hl
    obtain⟨G,w,hG,hlt,hwG⟩:=QbX hp.1 hf hw
    obtain⟨g1,m1,w1,e1⟩:=ZE hp _ G (Nat.le_refl _) hG
    have e1f:Dv (p:Int) (zl g1) (zl f):=e1.trans ⟨w,hwG⟩
    have a1:=Qrs hp h m1 w1 e1f
    have a2:=Qa1 hp.1 m1.mz hG.mz e1
    rcases hq:XH p f g1 with⟨q,r⟩
    obtain⟨k1,k2,k3⟩:=QaM hp h.mn m1 e1f hq
    have a3:=hG.pos
    have a4:=m1.pos
    obtain⟨g2,m2,w2,e2⟩:=ZE hp _ q (Nat.le_refl _) (k1.monN (by omega))
    have e2f:Dv (p:Int) (zl g2) (zl f):=e2.trans ⟨zl g1,k2.trans (CgV.comm _ _)⟩
    have b1:=Qrs hp h m2 w2 e2f
    have b2:=Qa1 hp.1 m2.mz (k1.monN (by omega)).mz e2
    have :=m2.pos
    omega
end Go.Gx
namespace Go.Gx
theorem QpW{p k x:Nat}{df:List Nat}(hp:0<p)(hx:x=df.getD (k+1) 0*((k+1) % p) % p):x=md p (co (Xn (zl df)) k):=by
  subst hx
  rw[XZ,ZS,QnU hp]
  exact Qfm hp ((Cg.refl p _).mul (Zq (k+1)))
theorem QsD{p n:Nat}{df:List Nat}(h:df.length=n)(h0:n=0):[]=XR p (Xn (zl df)):=by
  rw[List.eq_nil_of_length_eq_zero (h.trans h0)];rfl
theorem QdT{p:Nat}{f g r:List Nat}(hp:0<p)(h:r=(XH p f g).2):EqF p (zl g) (zl r) (zl f):=by
  obtain⟨k,hk⟩:=QbP hp (f:=f) (g:=g) (q:=(XH p f g).1) (r:=r) (by rw[h])
  exact⟨Xf (zl (XH p f g).1) (-1),k,fun x=>by have :=hk x;simp only[Xd,Xc,Xm] at *;grind⟩
theorem Qip{p:Nat}{a b m g r:List Nat}(hp:0<p)(e1:m=Qau p a b)(e2:r=(XH p m g).2):EqF p (zl g) (zl r) (Xg (zl a) (zl b)):=
  (QdT hp e2).trans (EqF.cg (by rw[e1];exact QgQ hp a b))
def PwI(p:Nat)(G f:List Nat)(N:Nat)(R S:List Nat)(n:Nat):Prop:=EqF p (zl G) (Xg (zl R) (Yx (zl S) n)) (Yx (zl f) N)
theorem PwI.start{p N:Nat}{G f R S:List Nat}(h1:EqF p (zl G) (zl R) (zl [1]))(h2:EqF p (zl G) (zl S) (zl f)):PwI p G f N R S N:=
  (h1.mul (h2.pow N)).trans (EqF.ev fun x=>by simp only[Xc,zl,List.map,evI];grind)
theorem QqK(s:Int){n:Nat}(h:n % 2≠0):s^n=s*(s*s)^ (n/2):=by
  have e:n=1+2*(n/2):=by omega
  have e2:s^n=s^ (1+2*(n/2)):=by rw[←e]
  rw[e2,Int.pow_add,Int.pow_mul,show s^2=s*s by grind];grind
theorem Qos(s:Int){n:Nat}(h: ¬n % 2≠0):s^n=(s*s)^ (n/2):=by
  have e:n=2*(n/2):=by omega
  have e2:s^n=s^ (2*(n/2)):=by rw[←e]
  rw[e2,Int.pow_mul,show s^2=s*s by grind]
theorem PwI.odd1{p N n:Nat}{G f R S R' S':List Nat}(h:PwI p G f N R S n)(hn:n % 2≠0)(h1:EqF p (zl G) (zl R') (Xg (zl R) (zl S)))(h2:EqF p (zl G) (zl S') (Xg (zl S) (zl S))):PwI p G f N R' S' (n/2):=
  ((h1.mul (h2.pow (n/2))).trans (EqF.ev fun x=>by simp only[Xc,Xl];rw[QqK _ hn];grind)).trans h
theorem PwI.odd0{p N n:Nat}{G f R S R':List Nat}(h:PwI p G f N R S n)(hn:n % 2≠0)(h0:n/2=0)(h1:EqF p (zl G) (zl R') (Xg (zl R) (zl S))):PwI p G f N R' S (n/2):=by
  rw[h0]
  obtain rfl:n=1:=by omega
  exact((h1.mul (EqF.refl _)).trans (EqF.ev fun x=>by simp only[Xc,Xl];grind)).trans h
theorem PwI.even1{p N n:Nat}{G f R S S':List Nat}(h:PwI p G f N R S n)(hn: ¬n % 2≠0)(h2:EqF p (zl G) (zl S') (Xg (zl S) (zl S))):PwI p G f N R S' (n/2):=
  (((EqF.refl (zl R)).mul (h2.pow (n/2))).trans (EqF.ev fun x=>by simp only[Xc,Xl];rw[Qos _ hn])).trans h
theorem PwI.done{p N n:Nat}{G f R S:List Nat}(h:PwI p G f N R S n)(hn:n=0):EqF p (zl G) (zl R) (Yx (zl f) N):=by
  subst hn
  exact(EqF.ev fun x=>by simp only[Xc,Xl];grind).trans h
theorem Qgl(L:List Nat)(x:Nat):(L++[x]).getD L.length 0=x:=by simp [List.getD]
structure TrI (p N:Nat) (L:List Nat) (k r:Nat):Prop where
  v:vb p L+p^k*r=N+p
  lt: ∀d∈L,d<p
  top:r=0→L.length≠0→0<L.getD (L.length -1) 0
theorem TrI.start{p N:Nat}(hp:0<p):TrI p N [] 0 (N+p):=⟨by simp [vb],fun d hd=>by simp at hd,fun h=>by omega⟩
theorem TrI.step{p N k r x:Nat}{L:List Nat}(h:TrI p N L k r)(hp:0<p)(hl:L.length=k)(hr:0<r)(hx:x=r % p):TrI p N (L++[x]) (k+1) (r/p):=by
  subst hx
  refine⟨?_,Qhg h.lt (Nat.mod_lt _ hp),fun h0 _=> ?_⟩
  · rw[Qj5,hl,←h.v,Nat.add_assoc,Nat.pow_succ,Nat.mul_assoc,←Nat.mul_add]
    congr 2;exact Nat.mod_add_div r p
  · simp only[List.length_append,List.length_singleton,Nat.add_sub_cancel]
    rw[Qgl]
    have :=Nat.mod_add_div r p
    rw[h0] at this;omega
theorem TrI.bound{p N k r:Nat}{L:List Nat}(h:TrI p N L k r)(hp:3≤p)(hN:N+p<18446744073709551616)(hr:0<r):k<64:=by
  rcases Nat.lt_or_ge k 64 with h1|h1
  · exact h1
  · exfalso
    have h2:2^64≤p^k:=Nat.le_trans (Nat.pow_le_pow_left (show 2≤p by omega) 64) (Nat.pow_le_pow_right (by omega) h1)
    have h3:p^k*1≤p^k*r:=Nat.mul_le_mul_left _ hr
    have h4:=h.v
    omega
theorem TrI.done{p N k r:Nat}{L:List Nat}(h:TrI p N L k r)(hp:p≠2)(hr:r=0):Qd3 p N L:=by
  subst hr
  refine⟨⟨h.lt,h.top rfl⟩,?_⟩
  rw[if_neg hp,←h.v];simp
theorem Qpd{n N:Nat}(hn:N=2*n+2):Qd3 2 n ((List.replicate N 0).set (2*n+1) 1):=by
  subst hn
  have e:(List.replicate (2*n+2) 0).set (2*n+1) 1=List.replicate (2*n+1) 0++[1]:=by
    rw[show 2*n+2=(2*n+1)+1 by omega,List.replicate_succ']
    rw[List.set_append_right _ _ (by simp)]
    simp
  rw[e]
  refine⟨⟨fun d hd=> ?_,fun _=> ?_⟩,?_⟩
  · rcases List.mem_append.1 hd with h|h
    · rw[List.eq_of_mem_replicate h];omega
    · rw[List.mem_singleton.1 h];omega
  · simp only[List.length_append,List.length_replicate,List.length_singleton,Nat.add_sub_cancel]
    have h9:=Qgl (List.replicate (2*n+1) 0) 1
    rw[List.length_replicate] at h9
    rw[h9];omega
  · rw[if_pos rfl]
    intro x
    rw[Qfb,List.length_replicate]
    have : ∀m,evI (zl (List.replicate m 0)) x=0:=fun m=>by
      induction m with
      |zero=>rfl
      |succ m ih=>rw[List.replicate_succ];show((0:Nat):Int)+x*evI (zl (List.replicate m 0)) x=0;rw[ih];simp
    rw[this];grind
theorem Qug{p n:Nat}(h:p=2):Qd3 p n ((List.replicate (2*n+2) 0).set (2*n+1) 1):=by subst h;exact Qpd rfl
structure Qmv (p:Nat) (f t:List Nat) (i:Nat) (c s q:List Nat):Prop where
  c:EqF p (zl f) (zl c) (cj p (zl t) i)
  s:EqF p (zl f) (zl s) (QbH p (zl t) (i+1))
  q:p≠2→EqF p (zl f) (zl q) (Yu p (zl t) (i+1))
theorem Qmv.start{p:Nat}{f t c:List Nat}(h:EqF p (zl f) (zl c) (zl t)):Qmv p f t 0 c c c:=
  ⟨h,h.trans (EqF.ev fun x=>by simp only[QbH,cj,Xd,evI];omega),fun _=>h.trans (EqF.ev fun x=>by simp only[Yu,cj,Xc,Xj];omega)⟩
theorem Qsx{p:Nat}(hp:0<p)(f g:List Nat):CgV (p:Int) (zl (Qpr p f g)) (Xx (zl f) (zl g)):=YW hp _
theorem Qmv.next{p i:Nat}{f t c s q c' s' q':List Nat}(hp:0<p)(h:Qmv p f t i c s q)(hc:EqF p (zl f) (zl c') (Yx (zl c) p))(hs:s'=Qpr p s c')(hq:p≠2→EqF p (zl f) (zl q') (Xg (zl q) (zl c'))):Qmv p f t (i+1) c' s' q':=by
  have h1:EqF p (zl f) (zl c') (cj p (zl t) (i+1)):=hc.trans (h.c.pow p)
  exact⟨h1,(EqF.cg (by rw[hs];exact Qsx hp _ _)).trans (h.s.add h1),fun h2=>(hq h2).trans ((h.q h2).mul h1)⟩
theorem Qmv.two{p i d:Nat}{f t c s q:List Nat}(h:Qmv p f t i c s q)(hd:d=i+1)(hp:p=2)(hc:XE p s):Qsk p f d t s:=⟨hc,by subst hd;rw[QvU,if_pos hp];exact h.s⟩
theorem Qmv.odd{p i d:Nat}{f t c s q r u:List Nat}(h:Qmv p f t i c s q)(hd:d=i+1)(hp:p≠2)(hp0:0<p)(hr:EqF p (zl f) (zl r) (Yx (zl q) ((p -1)/2)))(hu:u=QhQ p r [1])(hc:XE p u):Qsk p f d t u:=by
  refine⟨hc,?_⟩
  subst hd
  rw[QvU,if_neg hp,QoP]
  exact(EqF.cg (by rw[hu];exact Qjg hp0 r [1])).trans ((hr.trans ((h.q hp).pow _)).sub (EqF.refl _))
theorem Qnc{p d N n:Nat}{f t s u:List Nat}(hN: ∀t s,Qd3 p N t→Qsk p f d t s→2≤(XN p s f).length∧(XN p s f).length<f.length)(hn:n≤N)(ht:Qd3 p n t)(hs:Qsk p f d t s)(hu:u=XN p s f)(hbad: ¬(1<u.length∧u.length<f.length)):n+1≤N:=by
  rcases Nat.lt_or_ge n N with h|h
  · omega
  · exfalso
    obtain rfl:n=N:=by omega
    have :=hN t s ht hs
    subst hu
    exact hbad ⟨by omega,this.2⟩
theorem Qp7{p d:Nat}{f s u q r:List Nat}(hp:Xk p)(h:EdW p d f)(hs:XE p s)(hu:u=XN p s f)(h1:1<u.length)(h2:u.length<f.length)(hq:XH p f u=(q,r)):
    EdW p d u∧EdW p d q∧CgV (p:Int) (zl f) (Xg (zl u) (zl q))∧q.length<f.length:=by
  subst hu
  have hpos:=h.mon.pos
  have hl:0<s.length+f.length:=by omega
  have hD:=Qac hp hs h.mon.can hl h1
  obtain⟨_,d2⟩:=QbS hp f.length s f hs h.mon.can (Nat.le_refl _) hl
  exact h.part hp hD d2 h2 hq
end Go.Gx
namespace Go.Gx
theorem BdI.size{p d:Nat}{F:List Int}{L:List (List Nat)}{f w u v q r:List Nat}(h:BdI p d F L f w)(hp:Xk p)(hu:XE p u)(hv:v=XN p u f)(hg:1<v.length)(hq:XH p f v=(q,r)):q.length+v.length=f.length+1∧1≤q.length∧XE p q:=by
  subst hv
  have hpos:=h.mn.pos
  have hl:0<u.length+f.length:=by omega
  have hD:=Qac hp hu h.mn.can hl hg
  obtain⟨_,d2⟩:=QbS hp f.length u f hu h.mn.can (Nat.le_refl _) hl
  have h1:=QaM hp h.mn hD d2 hq
  exact⟨h1.2.2,h1.1.pos,h1.1.can⟩
end Go.Gx
namespace Go.Gx
theorem QfB{p:Nat}(hp:Xk p){f:List Nat}(hf:XE p f)(h:(XN p f (XR p (Xn (zl f)))).length=1):Mn p (XS p f)∧SqF p (XS p f):=by
  have hp0:0<p:=by have :=hp.1;omega
  have hc:=XK hp0 (Xn (zl f))
  have h0:0<f.length:=by
    rcases Nat.eq_zero_or_pos f.length with e|e
    · exfalso
      rw[List.eq_nil_of_length_eq_zero e] at h
      have e2:XR p (Xn (zl []))=[]:=rfl
      rw[e2] at h
      have e3:XN p [] []=[]:=rfl
      rw[e3] at h;cases h
    · exact e
  obtain⟨hm,hml,hmc⟩:=QjD hp hf h0
  have h1:=(ZC hp hf hc (by omega) (by omega)).cg (CgV.refl _ _) (YW hp0 _)
  refine⟨hm,?_⟩
  obtain⟨u,v,k,hk⟩:=h1
  obtain⟨a,ha⟩:=hmc
  obtain⟨b,hb⟩:=Qep (⟨a,ha⟩:CgV (p:Int) (zl f) (Xf (zl (XS p f)) (XW f:Nat)))
  have hsc: ∀x,evI (Xn (Xf (zl (XS p f)) (XW f:Nat))) x=(XW f:Nat)*evI (Xn (zl (XS p f))) x:=fun x=>by
    rw[←Xm]
    exact Qc4 (fun i=>by rw[XZ,Xi,Xi,XZ];grind) x
  refine⟨Xf u (XW f:Nat),Xf v (XW f:Nat),XD k (Xx (Xg u a) (Xg v b)),fun x=> ?_⟩
  have h1:=hk x;have h2:=ha x;have h3:=hb x
  rw[hsc] at h3
  simp only[Xd,Xh,Xc,Xm,Xj] at *
  rw[h2,h3] at h1
  grind
end Go.Gx
