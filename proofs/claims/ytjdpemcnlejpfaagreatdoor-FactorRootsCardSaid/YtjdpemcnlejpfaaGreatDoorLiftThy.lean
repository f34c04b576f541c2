/-
  LiftThy, LiftThy2, LiftThy3, LiftThy4, ZPreds, PZPreds, IntPreds, ListPreds, ModPreds
-/
import Derived.Test.YtjdpemcnlejpfaaGreatDoorGcdMath
import Derived.Test.YtjdpemcnlejpfaaGreatDoorModDiv
import Derived.Test.YtjdpemcnlejpfaaGreatDoorDivMath2
set_option linter.all false
namespace Go.Gx
theorem Qh8{f:List Int}{x v:Int}(h:evQ f (x:Rat)=((v:Int):Rat)):evI f x=v:=by
  rw[Zn] at h;exact_mod_cast h
theorem Qc4{f g:List Int}(h: ∀i,co f i=co g i)(x:Int):evI f x=evI g x:=Qh8 (by rw[YI _ h,Zn])
theorem QaD(f:List Int)(x:Int):evI (Xa f) x=evI f x:=Qc4 (fun i=>Xo f i) x
theorem Xd(f g:List Int)(x:Int):evI (Xx f g) x=evI f x+evI g x:=Qh8 (by rw[Yn,Zn,Zn,←Rat.intCast_add])
theorem Xh(f g:List Int)(x:Int):evI (XD f g) x=evI f x -evI g x:=Qh8 (by rw[Qcf,Zn,Zn,←Rat.intCast_sub])
theorem Xc(f g:List Int)(x:Int):evI (Xg f g) x=evI f x*evI g x:=Qh8 (by rw[Qa2,Zn,Zn,←Rat.intCast_mul])
theorem Xm(f:List Int)(c x:Int):evI (Xf f c) x=c*evI f x:=Qh8 (by rw[XB,Zn,←Rat.intCast_mul])
theorem QuY{f g:List Int}(h: ∀x:Int,evI f x=evI g x):Xa f=Xa g:=QjI fun x=>by rw[Zn,Zn,h]
theorem Qni{f g:List Int}(h: ∀x:Int,evI f x=evI g x)(i:Nat):co f i=co g i:=by rw[←Xo f,←Xo g,QuY h]
def CgV(m:Int)(f g:List Int):Prop:= ∃h:List Int,∀x:Int,evI f x=evI g x+m*evI h x
theorem CgV.refl(m:Int)(f:List Int):CgV m f f:=⟨[],fun x=>by simp only[evI];grind⟩
theorem CgV.symm{m:Int}{f g:List Int}(h:CgV m f g):CgV m g f:=by
  obtain⟨a,h⟩:=h
  exact⟨Xf a (-1),fun x=>by rw[Xm,h];grind⟩
theorem CgV.trans{m:Int}{f g k:List Int}(h:CgV m f g)(h2:CgV m g k):CgV m f k:=by
  obtain⟨a,h⟩:=h;obtain⟨b,h2⟩:=h2
  exact⟨Xx a b,fun x=>by rw[Xd,h,h2];grind⟩
theorem CgV.mul{m:Int}{f g k l:List Int}(h:CgV m f g)(h2:CgV m k l):CgV m (Xg f k) (Xg g l):=by
  obtain⟨a,h⟩:=h;obtain⟨b,h2⟩:=h2
  exact⟨Xx (Xx (Xg a l) (Xg g b)) (Xf (Xg a b) m),fun x=>by simp only[Xd,Xc,Xm,h,h2];grind⟩
theorem CgV.low{m n:Int}{f g:List Int}(h:CgV (m*n) f g):CgV m f g:=by
  obtain⟨a,h⟩:=h
  exact⟨Xf a n,fun x=>by rw[Xm,h];grind⟩
theorem CgV.dvd{m n:Int}{f g:List Int}(h:CgV n f g)(hd:m∣n):CgV m f g:=by
  obtain⟨k,rfl⟩:=hd
  exact h.low
theorem CgV.cof{m:Int}{f g:List Int}(h:CgV m f g)(i:Nat): ∃k,co f i=co g i+m*k:=by
  obtain⟨a,h⟩:=h
  have h2:=Qni (f:=f) (g:=Xx g (Xf a m)) (fun x=>by rw[Xd,Xm,h]) i
  exact⟨co a i,by rw[h2,Xv,Xi];grind⟩
theorem CgV.of{m:Int}{f g:List Int}(h: ∀i,m∣co f i -co g i):CgV m f g:=by
  refine⟨(List.range (max f.length g.length)).map fun i=>(co f i -co g i)/m,fun x=> ?_⟩
  have e: ∀i,co f i=co (Xx g (Xf ((List.range (max f.length g.length)).map fun i=>(co f i -co g i)/m) m)) i:=fun i=>by
    rw[Xv,Xi,ZA]
    split
    · have :=Int.ediv_mul_cancel (h i);omega
    · rw[XX (f:=f) (by omega),XX (f:=g) (by omega)];simp
  rw[Qc4 e,Xd,Xm]
def Mon(f:List Int)(d:Nat):Prop:=co f d=1∧ ∀i,d<i→co f i=0
theorem YM{m:Int}{C W S:List Int}{d:Nat}(hC:Mon C d)(h:CgV m (Xg C W) S)(hS: ∀i,d≤i→m∣co S i):CgV m W []:=by
  have key: ∀n j,W.length≤j+n→m∣co W j:=by
    intro n
    induction n with
    |zero=>intro j hj;rw[XX (by omega)];exact Int.dvd_zero _
    |succ n ih=>
      intro j hj
      obtain⟨k,hk⟩:=h.cof (d+j)
      rw[Xp,show conv C W (d+j)=Ye (fun i=>co C i*co W (d+j -i)) (d+j+1) from rfl] at hk
      have h1:=QeE (p:=m) (F:=fun i=>co C i*co W (d+j -i)) (i:=d) (d+j+1) (fun a ha hne=>by
        rcases Nat.lt_or_ge a d with h2|h2
        · exact Int.dvd_mul_of_dvd_right (ih (d+j -a) (by omega))
        · rw[hC.2 a (by omega),Int.zero_mul];exact Int.dvd_zero _)
      rw[if_pos (by omega)] at h1
      rw[hC.1,Int.one_mul,show d+j -d=j by omega,hk] at h1
      have h3:=hS (d+j) (by omega)
      have h4:m∣ (co S (d+j)+m*k):=Int.dvd_add h3 (Int.dvd_mul_right _ _)
      have h5:=Int.dvd_sub h4 h1
      rw[show co S (d+j)+m*k -(co S (d+j)+m*k -co W j)=co W j by omega] at h5
      exact h5
  exact CgV.of fun i=>by
    have :=key W.length i (by omega)
    rw[show co ([]:List Int) i=0 by simp [Go.Gx.co]]
    simpa using this
theorem QiT{m:Int}{A C:List Int}{d:Nat}(hm:m≠0)(hA:Mon A d)(hC:Mon C d)(h:CgV m A C): ∃S:List Int,(∀x,evI A x=evI C x+m*evI S x)∧ ∀i,d≤i→co S i=0:=by
  obtain⟨S,hS⟩:=h
  refine⟨S,hS,fun i hi=> ?_⟩
  have h2:=Qni (f:=A) (g:=Xx C (Xf S m)) (fun x=>by rw[Xd,Xm,hS]) i
  rw[Xv,Xi] at h2
  have h3:co A i=co C i:=by
    rcases Nat.lt_or_ge d i with h4|h4
    · rw[hA.2 i h4,hC.2 i h4]
    · obtain rfl:i=d:=by omega
      rw[hA.1,hC.1]
  have h4:co S i*m=0:=by omega
  exact(Int.mul_eq_zero.1 h4).resolve_right hm
theorem QwV{p:Nat}{A B C D u v:List Int}{c d N:Nat}(hp:0<p)(hA:Mon A c)(hC:Mon C c)(hB:Mon B d)(hD:Mon D d)(h1:CgV (p:Int) A C)(h2:CgV (p:Int) B D)(hc:CgV (p:Int) (Xx (Xg u C) (Xg v D)) [1])(h:CgV (((p^N:Nat):Int)) (Xg A B) (Xg C D)):
    ∀n,n≤N→CgV ((p^n:Nat):Int) A C∧CgV ((p^n:Nat):Int) B D:=by
  intro n
  induction n with
  |zero=>intro _;constructor<;>exact CgV.of fun i=>by simp
  |succ n ih=>
    intro hn
    rcases Nat.eq_zero_or_pos n with h0|h0
    · subst h0
      simp only[Nat.zero_add,Nat.pow_one]
      exact⟨h1,h2⟩
    obtain⟨i1,i2⟩:=ih (by omega)
    have hq:((p^n:Nat):Int)≠0:=by have :=Nat.pow_pos (n:=n) hp;omega
    obtain⟨S,hS,lS⟩:=QiT hq hA hC i1
    obtain⟨T,hT,lT⟩:=QiT hq hB hD i2
    obtain⟨E,hE⟩:=hc
    have h':CgV ((p^n:Nat)*(p:Int)) (Xg A B) (Xg C D):=by
      refine h.dvd ?_
      rw[←Int.natCast_mul,←Nat.pow_succ]
      exact_mod_cast Nat.pow_dvd_pow p hn
    obtain⟨K,hK⟩:=h'
    obtain⟨n',rfl⟩: ∃n',n=n'+1:=⟨n -1,by omega⟩
    generalize hQ:((p^ (n'+1):Nat):Int)=q at *
    have hqp:q=((p^n':Nat):Int)*p:=by rw[←hQ,Nat.pow_succ,Int.natCast_mul]
    let K2:=XD K (Xf (Xg S T) ((p^n':Nat):Int))
    have hK2: ∀x,evI S x*evI D x+evI C x*evI T x=p*evI K2 x:=by
      intro x
      have a1:=hK x
      rw[Xc,Xc,hS,hT] at a1
      have a2:evI K2 x=evI K x -((p^n':Nat):Int)*(evI S x*evI T x):=by rw[Xh,Xm,Xc]
      have a3:q*(evI S x*evI D x+evI C x*evI T x)=q*(p*evI K2 x):=by rw[a2];grind
      exact Int.eq_of_mul_eq_mul_left hq a3
    have e1: ∀x,evI u x*evI C x+evI v x*evI D x=1+p*evI E x:=by
      intro x
      have :=hE x
      rw[Xd,Xc,Xc] at this
      simp only[evI] at this
      omega
    have w1:CgV (p:Int) (XD (Xg S u) (Xg v T)) []:=YM (C:=C) (S:=S) hC ⟨XD (Xg S E) (Xg v K2),fun x=>by
      simp only[Xc,Xh]
      have a1:=hK2 x
      have a2:=e1 x
      grind⟩ (fun i hi=>by rw[lS i hi];exact Int.dvd_zero _)
    obtain⟨W,hW⟩:=w1
    have s1: ∀x,evI S x=p*evI (XD (Xx (Xg C W) (Xg v K2)) (Xg S E)) x:=by
      intro x
      have a1:=hK2 x
      have a2:=e1 x
      have a3:=hW x
      simp only[Xh,Xc,Xd,evI] at a3⊢
      grind
    have t1:CgV (p:Int) T []:=YM (C:=C) (S:=[]) hC ⟨XD K2 (Xg D (XD (Xx (Xg C W) (Xg v K2)) (Xg S E))),fun x=>by
      have a1:=hK2 x
      have a2:=s1 x
      simp only[Xh,Xc,Xd,evI] at a2⊢
      grind⟩ (fun i _=>by simp [co])
    obtain⟨T2,hT2⟩:=t1
    have hq2:((p^ (n'+1+1):Nat):Int)=q*p:=by rw[Nat.pow_succ,Int.natCast_mul,hQ]
    rw[hq2]
    exact⟨⟨XD (Xx (Xg C W) (Xg v K2)) (Xg S E),fun x=>by rw[hS,s1];grind⟩,⟨T2,fun x=>by rw[hT,hT2];simp only[evI];grind⟩⟩
end Go.Gx
namespace Go.Gx
theorem CgV.add{m:Int}{f g k l:List Int}(h:CgV m f g)(h2:CgV m k l):CgV m (Xx f k) (Xx g l):=by
  obtain⟨a,h⟩:=h;obtain⟨b,h2⟩:=h2
  exact⟨Xx a b,fun x=>by rw[Xd,Xd,Xd,h,h2];grind⟩
theorem CgV.sub{m:Int}{f g k l:List Int}(h:CgV m f g)(h2:CgV m k l):CgV m (XD f k) (XD g l):=by
  obtain⟨a,h⟩:=h;obtain⟨b,h2⟩:=h2
  exact⟨XD a b,fun x=>by rw[Xh,Xh,Xh,h,h2];grind⟩
theorem CgV.scale{m:Int}{f g:List Int}(h:CgV m f g)(c:Int):CgV m (Xf f c) (Xf g c):=by
  obtain⟨a,h⟩:=h
  exact⟨Xf a c,fun x=>by rw[Xm,Xm,Xm,h];grind⟩
theorem CgV.eqv{m:Int}{f g:List Int}(h: ∀x,evI f x=evI g x):CgV m f g:=⟨[],fun x=>by rw[h];simp [evI]⟩
theorem CgV.trim{m:Int}(f:List Int):CgV m (Xa f) f:=CgV.eqv fun x=>QaD f x
theorem CgV.red{m:Nat}(f:List Int):CgV (m:Int) (Zg m f) f:=CgV.of fun i=>by
  obtain⟨k,hk⟩:=QtD m f i
  exact⟨k,by omega⟩
def pL:List (List Int)→List Int
  | []=>[1]
  |a::l=>Xg a (pL l)
def tL:List (List Int)→List (List Int)→List Int
  |g::gs,s::ss=>Xx (Xg s (pL gs)) (Xg g (tL gs ss))
  |_,_=>[]
def Cop(p:Int)(a b:List Int):Prop:= ∃u v,CgV p (Xx (Xg u a) (Xg v b)) [1]
inductive Fit (p:Int):List (List Int)→List (List Int)→Prop
  |nil:Fit p [] []
  |cons {a b:List Int} {as bs:List (List Int)} (d:Nat) (ha:Mon a d) (hb:Mon b d) (h:CgV p a b) (t:Fit p as bs):Fit p (a::as) (b::bs)
def Pw(p:Int):List (List Int)→Prop
  | []=>True
  |b::bs=>(∀c∈bs,Cop p b c)∧Pw p bs
theorem Cop.prod{p:Int}{b:List Int}: ∀{bs:List (List Int)},(∀c∈bs,Cop p b c)→Cop p b (pL bs)
  | [],_=>⟨[],[1],CgV.eqv fun x=>by simp [Xd,Xc,pL,evI]⟩
  |c::bs,h=>by
    obtain⟨u,v,e,he⟩:=h c (List.mem_cons_self ..)
    obtain⟨u',v',e',he'⟩:=Cop.prod (bs:=bs) fun c hc=>h c (List.mem_cons_of_mem _ hc)
    refine⟨Xx (Xg u (Xx (Xg u' b) (Xg v' (pL bs)))) (Xg (Xg v c) u'),Xg v v',Xx (Xx e e') (Xf (Xg e e') p),fun x=> ?_⟩
    have a1:=he x
    have a2:=he' x
    simp only[Xd,Xc,Xm,pL,evI] at a1 a2⊢
    generalize evI u x=U at *;generalize evI v x=V at *;generalize evI u' x=U' at *;generalize evI v' x=V' at *
    generalize evI b x=B at *;generalize evI c x=C at *;generalize evI (pL bs) x=D at *
    have a3:(U*B+V*C)*(U'*B+V'*D)=(1+p*evI e x)*(1+p*evI e' x):=by rw[a1,a2];grind
    grind
theorem QdF{f g:List Int}{a b:Nat}(hf: ∀i,a≤i→co f i=0)(hg: ∀i,b<i→co g i=0)(i:Nat)(hi:a+b≤i):co (Xg f g) i=0:=by
  rw[Xp]
  refine XQ fun j hj=> ?_
  rcases Nat.lt_or_ge j a with h|h
  · show co f j*co g (i -j)=0
    rw[hg (i -j) (by omega),Int.mul_zero]
  · show co f j*co g (i -j)=0
    rw[hf j h,Int.zero_mul]
theorem Mon.mul{f g:List Int}{a b:Nat}(hf:Mon f a)(hg:Mon g b):Mon (Xg f g) (a+b):=by
  constructor
  · rw[Xp]
    refine(QaU (j:=a) (by omega) fun j hj hne=> ?_).trans ?_
    · rcases Nat.lt_or_ge j a with h|h
      · show co f j*co g (a+b -j)=0
        rw[hg.2 _ (by omega),Int.mul_zero]
      · show co f j*co g (a+b -j)=0
        rw[hf.2 j (by omega),Int.zero_mul]
    · show co f a*co g (a+b -a)=1
      rw[show a+b -a=b by omega,hf.1,hg.1];rfl
  · exact fun i hi=>QdF (a:=a+1) (b:=b) (fun j hj=>hf.2 j (by omega)) hg.2 i (by omega)
theorem Qat:Mon [1] 0:=⟨rfl,fun i hi=>by rw[XX];simp;omega⟩
theorem Fit.prod{p:Int}{as bs:List (List Int)}(h:Fit p as bs): ∃d,Mon (pL as) d∧Mon (pL bs) d∧CgV p (pL as) (pL bs):=by
  induction h with
  |nil=>exact⟨0,Qat,Qat,CgV.refl _ _⟩
  |cons d ha hb h t ih=>obtain⟨e,h1,h2,h3⟩:=ih;exact⟨d+e,ha.mul h1,hb.mul h2,h.mul h3⟩
theorem Qmi{m:Nat}{T P g s T' P':List Int}(h:Qaw m (T,P) (g,s)=(T',P')):CgV (m:Int) T' (Xx (Xg T g) (Xg s P))∧CgV (m:Int) P' (Xg P g):=by
  unfold Qaw at h
  obtain⟨rfl,rfl⟩:=Prod.mk.inj h
  exact⟨(CgV.red _).trans ((CgV.trim _).trans ((CgV.trim _).add (CgV.trim _))),(CgV.red _).trans (CgV.trim _)⟩
theorem Qo7{m:Nat}(gs:List (List Int)): ∀(ss:List (List Int))(T P T2 P2:List Int),gs.length=ss.length→(gs.zip ss).foldl (Qaw m) (T,P)=(T2,P2)→CgV (m:Int) T2 (Xx (Xg T (pL gs)) (Xg P (tL gs ss)))∧CgV (m:Int) P2 (Xg P (pL gs)):=by
  induction gs with
  |nil=>
    intro ss T P T2 P2 h e
    rw[List.zip_nil_left,List.foldl_nil] at e
    obtain⟨rfl,rfl⟩:=Prod.mk.inj e
    exact⟨CgV.eqv fun x=>by simp [Xd,Xc,pL,tL,evI],CgV.eqv fun x=>by simp [Xc,pL,evI]⟩
  |cons g gs ih=>
    intro ss T P T2 P2 h e
    match ss,h,e with
    |s::ss,h,e=>
      rw[List.zip_cons_cons,List.foldl_cons] at e
      rcases hs:Qaw m (T,P) (g,s) with⟨T',P'⟩
      rw[hs] at e
      obtain⟨e1,e2⟩:=Qmi hs
      obtain⟨i1,i2⟩:=ih ss T' P' T2 P2 (by simpa using h) e
      refine⟨i1.trans (((e1.mul (CgV.refl _ _)).add (e2.mul (CgV.refl _ _))).trans (CgV.eqv fun x=> ?_)),i2.trans ((e2.mul (CgV.refl _ _)).trans (CgV.eqv fun x=> ?_))⟩
      · simp only[Xd,Xc,pL,tL];grind
      · simp only[Xc,pL];grind
theorem Qj2{m:Nat}{gs ss:List (List Int)}(h:gs.length=ss.length):CgV (m:Int) (QfM m gs ss).1 (tL gs ss)∧CgV (m:Int) (QfM m gs ss).2 (pL gs):=by
  obtain⟨h1,h2⟩:=Qo7 (m:=m) gs ss [] (Xa [1]) (QfM m gs ss).1 (QfM m gs ss).2 h rfl
  exact⟨h1.trans (CgV.eqv fun x=>by simp [Xd,Xc,QaD,evI]),h2.trans (CgV.eqv fun x=>by simp [Xc,QaD,evI])⟩
theorem Qhs{m d:Nat}{G:List Int}(hG:Mon G d): ∀(n:Nat)(R:List Int),n+d≤R.length→ ∃w,CgV (m:Int) ((Qb1 m G d n R).take d) (XD (R.take (n+d)) (Xg w G))
  |0,R,_=>⟨[],CgV.eqv fun x=>by simp [Qb1,Xh,Xc,evI]⟩
  |n+1,R,h=>by
    rw[Qb1]
    have hc: ∃k:Int,YY m (co R (n+d))=co R (n+d)+m*k:=QfF m _
    split
    · rename_i h0
      obtain⟨w,hw⟩:=Qhs (m:=m) hG n R (by omega)
      refine⟨w,hw.trans ((CgV.of fun i=> ?_).sub (CgV.refl _ _))⟩
      rw[QbM,QbM]
      by_cases h1:i<n+d
      · rw[if_pos h1,if_pos (by omega)];simp
      · rw[if_neg h1]
        split
        · obtain⟨k,hk⟩:=hc
          obtain rfl:i=n+d:=by omega
          rw[h0] at hk
          exact⟨k,by omega⟩
        · simp
    · obtain⟨w,hw⟩:=Qhs (m:=m) hG n (QcO R G n d (YY m (co R (n+d)))) (by rw[Qb4];omega)
      refine⟨Xx w (List.replicate n 0++[YY m (co R (n+d))]),hw.trans ?_⟩
      have key:CgV (m:Int) ((QcO R G n d (YY m (co R (n+d)))).take (n+d)) (XD (R.take (n+1+d)) (Xg (List.replicate n 0++[YY m (co R (n+d))]) G)):=by
        refine CgV.of fun i=> ?_
        rw[ZG,QbM,QbM]
        have e1:co (Xg (List.replicate n 0++[YY m (co R (n+d))]) G) i=if n≤i then YY m (co R (n+d))*co G (i -n) else 0:=by
          rw[Xp]
          have hx: ∀j,co (List.replicate n 0++[YY m (co R (n+d))]) j=if j=n then YY m (co R (n+d)) else 0:=fun j=>by
            unfold co
            rcases Nat.lt_trichotomy j n with h1|h1|h1
            · rw[if_neg (by omega)];simp [List.getD,List.getElem?_append,h1,List.getElem?_replicate]
            · subst h1;simp [List.getD]
            · rw[if_neg (by omega)];simp [List.getD,List.getElem?_append,show ¬j<n by omega,show ¬j -n=0 by omega,show 0<j -n by omega]
          by_cases h1:n≤i
          · rw[if_pos h1]
            refine(QaU (j:=n) (by omega) fun j hj hne=> ?_).trans ?_
            · show co (List.replicate n 0++[YY m (co R (n+d))]) j*co G (i -j)=0
              rw[hx,if_neg hne,Int.zero_mul]
            · show co (List.replicate n 0++[YY m (co R (n+d))]) n*co G (i -n)=_
              rw[hx,if_pos rfl]
          · rw[if_neg h1]
            refine XQ fun j hj=> ?_
            show co (List.replicate n 0++[YY m (co R (n+d))]) j*co G (i -j)=0
            rw[hx,if_neg (by omega),Int.zero_mul]
        rw[e1]
        by_cases h1:i<n+d
        · rw[if_pos h1,if_pos (by omega),Qc0 (by omega)]
          by_cases h2:n≤i
          · rw[if_pos ⟨h2,by omega⟩,if_pos h2];simp
          · rw[if_neg (by omega),if_neg h2];simp
        · rw[if_neg h1]
          rcases Nat.eq_or_lt_of_le (show n+d≤i by omega) with h2|h2
          · subst h2
            rw[if_pos (by omega),if_pos (by omega),show n+d -n=d by omega,hG.1]
            obtain⟨k,hk⟩:=hc
            exact⟨k,by rw[hk];omega⟩
          · rw[if_neg (by omega),if_pos (by omega),hG.2 _ (by omega)];simp
      refine(key.sub (CgV.refl _ _)).trans (CgV.eqv fun x=> ?_)
      simp only[Xh,Xc,Xd];grind
theorem Mon.len{G:List Int}{d:Nat}(h:Mon G d):(Xa G).length=d+1:=by
  have h1:co (Xa G) d=1:=by rw[Xo];exact h.1
  have h2:d<(Xa G).length:=by
    rcases Nat.lt_or_ge d (Xa G).length with h3|h3
    · exact h3
    · rw[XX h3] at h1;cases h1
  rcases Nat.eq_or_lt_of_le (show d+1≤(Xa G).length by omega) with h3|h3
  · omega
  · exfalso
    have h4:=YG (f:=Xa G) (Xs ZM G) (by omega)
    rw[Xo] at h4
    exact h4 (h.2 _ (by omega))
theorem QtF{m d:Nat}{F G:List Int}(hG:Mon G d): ∃w,CgV (m:Int) (QfL m F G) (XD F (Xg w G)):=by
  unfold QfL
  rw[hG.len,Nat.add_sub_cancel]
  rcases Nat.lt_or_ge (Zg m F).length d with h|h
  · refine⟨[],(CgV.red _).trans ?_⟩
    rw[show(Zg m F).length -d=0 by omega,Qb1,List.take_of_length_le (by omega)]
    exact(CgV.red _).trans (CgV.eqv fun x=>by simp [Xh,Xc,evI])
  · obtain⟨w,hw⟩:=Qhs (m:=m) hG ((Zg m F).length -d) (Zg m F) (by omega)
    rw[Nat.min_eq_right h]
    refine⟨w,(CgV.red _).trans (hw.trans (CgV.sub ?_ (CgV.refl _ _)))⟩
    rw[Nat.sub_add_cancel h,List.take_length]
    exact CgV.red _
theorem Qck{m d:Nat}{F G:List Int}(hG:Mon G d)(i:Nat)(hi:d≤i):co (QfL m F G) i=0:=by
  unfold QfL
  rw[hG.len,Nat.add_sub_cancel,Zm,QbM,if_neg (by omega),Qbr]
end Go.Gx
namespace Go.Gx
inductive MS:List (List Int)→List (List Int)→Nat→Prop
  |nil:MS [] [] 0
  |cons {g s:List Int} {gs ss:List (List Int)} {d n:Nat} (hg:Mon g d) (hs: ∀i,d≤i→co s i=0) (t:MS gs ss n):MS (g::gs) (s::ss) (d+n)
theorem MS.len{gs ss:List (List Int)}{n:Nat}(h:MS gs ss n):gs.length=ss.length:=by
  induction h with
  |nil=>rfl
  |cons _ _ _ ih=>simp [ih]
theorem MS.prod{gs ss:List (List Int)}{n:Nat}(h:MS gs ss n):Mon (pL gs) n:=by
  induction h with
  |nil=>exact Qat
  |cons hg _ _ ih=>exact hg.mul ih
theorem MS.deg{gs ss:List (List Int)}{n:Nat}(h:MS gs ss n): ∀i,n≤i→co (tL gs ss) i=0:=by
  induction h with
  |nil=>intro i _;simp [tL,co]
  | @cons g s gs ss d n hg hs t ih=>
    intro i hi
    rw[tL,Xv,QdF hs (fun j hj=>t.prod.2 j hj) i hi]
    have h1:co (Xg g (tL gs ss)) i=co (Xg (tL gs ss) g) i:=by rw[Xp,Xp,ZH]
    rw[h1,QdF (a:=n) (b:=d) ih hg.2 i (by omega)]
    rfl
theorem CgV.sq{q m:Int}{a b:List Int}(hm:m∣q*q)(ha:CgV q a [])(hb:CgV q b []):CgV m (Xg a b) []:=by
  obtain⟨u,hu⟩:=ha;obtain⟨v,hv⟩:=hb
  refine CgV.dvd (n:=q*q) ⟨Xg u v,fun x=> ?_⟩ hm
  rw[Xc,Xc,hu,hv]
  simp only[evI]
  grind
theorem CgV.nil_mul{q:Int}{a b:List Int}(ha:CgV q a []):CgV q (Xg a b) []:=by
  obtain⟨u,hu⟩:=ha
  exact⟨Xg u b,fun x=>by rw[Xc,Xc,hu];simp only[evI];grind⟩
theorem CgV.mul_nil{q:Int}{a b:List Int}(hb:CgV q b []):CgV q (Xg a b) []:=by
  obtain⟨u,hu⟩:=hb
  exact⟨Xg a u,fun x=>by rw[Xc,Xc,hu];simp only[evI];grind⟩
theorem QeP{q m:Nat}{g s μ:List Int}{d:Nat}(hq:(q:Int)∣m)(hg:Mon g d)(hμ:CgV (q:Int) μ []):
    ∃w,CgV (m:Int) (QfL m (Xa (Xg s μ)) g) (XD (Xg s μ) (Xg w g))∧CgV (q:Int) w []:=by
  obtain⟨w,hw⟩:=QtF (m:=m) (F:=Xa (Xg s μ)) hg
  have hw2:CgV (m:Int) (QfL m (Xa (Xg s μ)) g) (XD (Xg s μ) (Xg w g)):=hw.trans ((CgV.trim _).sub (CgV.refl _ _))
  refine⟨w,hw2,?_⟩
  obtain⟨E,hE⟩:=hw2.dvd hq
  obtain⟨U,hU⟩:=hμ
  refine YM (C:=g) (S:=Xf (QfL m (Xa (Xg s μ)) g) (-1)) hg ⟨Xx (Xg s U) E,fun x=> ?_⟩ fun i hi=> ?_
  · have a1:=hE x
    have a2:=hU x
    simp only[Xh,Xc,Xm,Xd,evI] at a1 a2⊢
    rw[a2] at a1
    grind
  · rw[Xi,Qck hg i hi,Int.zero_mul];exact Int.dvd_zero _
theorem Qlj{m:Nat}(hm:2≤m):YY m 1=1:=Qb6 (by omega) (by omega)
theorem Qs2{q m:Nat}{μ:List Int}(hm2:2≤m)(hq:(q:Int)∣m)(hm:(m:Int)∣ (q:Int)*q)(hμ:CgV (q:Int) μ []){gs ss:List (List Int)}{n:Nat}(h:MS gs ss n):
    ∃W,CgV (q:Int) W []∧CgV (m:Int) (pL ((gs.zip ss).map fun p=>QhP m μ p.1 p.2)) (XD (Xx (pL gs) (Xg μ (tL gs ss))) (Xg W (pL gs)))∧MS ((gs.zip ss).map fun p=>QhP m μ p.1 p.2) ss n:=by
  induction h with
  |nil=>exact⟨[],CgV.refl _ _,CgV.eqv fun x=>by simp [pL,tL,Xh,Xd,Xc,evI],.nil⟩
  | @cons g s gs ss d n hg hs t ih=>
    obtain⟨W,h1,h2,h3⟩:=ih
    obtain⟨w,c1,c2⟩:=QeP (s:=s) hq hg hμ
    have n1:CgV (m:Int) (QhP m μ g s) (Xx g (XD (Xg s μ) (Xg w g))):=(CgV.red _).trans ((CgV.trim _).trans ((CgV.refl _ _).add c1))
    have n2:Mon (QhP m μ g s) d:=by
      unfold QhP
      refine⟨?_,fun i hi=> ?_⟩
      · rw[Zm,Xo,Xv,hg.1,Qck hg d (Nat.le_refl _),Int.add_zero,Qlj hm2]
      · rw[Zm,Xo,Xv,hg.2 i hi,Qck hg i (by omega),Int.add_zero,Qbr]
    refine⟨Xx W w,?_,?_,.cons n2 hs h3⟩
    · exact(h1.add c2).trans (CgV.eqv fun x=>by simp [Xd,evI])
    · rw[List.zip_cons_cons,List.map_cons]
      refine(n1.mul h2).trans ?_
      have a1:CgV (q:Int) (XD (Xg s μ) (Xg w g)) []:=((CgV.mul_nil hμ).sub (CgV.nil_mul c2)).trans (CgV.eqv fun x=>by simp [Xh,evI])
      have a2:CgV (q:Int) (XD (Xg μ (tL gs ss)) (Xg W (pL gs))) []:=((CgV.nil_mul hμ).sub (CgV.nil_mul h1)).trans (CgV.eqv fun x=>by simp [Xh,evI])
      obtain⟨E,hE⟩:=CgV.sq hm a1 a2
      refine⟨E,fun x=> ?_⟩
      have a3:=hE x
      simp only[Xh,Xc,Xd,pL,tL,evI] at a3⊢
      generalize evI g x=G at *;generalize evI s x=S at *;generalize evI μ x=M at *;generalize evI w x=w' at *;generalize evI W x=W' at *
      generalize evI (pL gs) x=P at *;generalize evI (tL gs ss) x=T at *;generalize evI E x=E' at *
      have a4:(G+(S*M -w'*G))*(P+M*T -W'*P)=G*P+M*(S*P+G*T) -(W'+w')*(G*P)+(S*M -w'*G)*(M*T -W'*P):=by grind
      rw[a4,a3];grind
theorem QsA{q m:Nat}{ε:List Int}(hm2:2≤m)(hq:(q:Int)∣m)(hε:CgV (q:Int) ε []){gs ss:List (List Int)}{n:Nat}(h:MS gs ss n):
    ∃V,CgV (m:Int) (tL gs ((ss.zip gs).map fun p=>QkN m ε p.1 p.2)) (Xx (XD (tL gs ss) (Xg ε (tL gs ss))) (Xg V (pL gs)))∧MS gs ((ss.zip gs).map fun p=>QkN m ε p.1 p.2) n:=by
  induction h with
  |nil=>exact⟨[],CgV.eqv fun x=>by simp [pL,tL,Xh,Xd,Xc,evI],.nil⟩
  | @cons g s gs ss d n hg hs t ih=>
    obtain⟨V,h2,h3⟩:=ih
    obtain⟨w,c1,_⟩:=QeP (s:=s) hq hg hε
    have n1:CgV (m:Int) (QkN m ε s g) (XD s (XD (Xg s ε) (Xg w g))):=(CgV.red _).trans ((CgV.trim _).trans ((CgV.refl _ _).sub c1))
    have n2: ∀i,d≤i→co (QkN m ε s g) i=0:=fun i hi=>by
      unfold QkN
      rw[Zm,Xo,ZG,hs i hi,Qck hg i hi,Int.sub_zero,Qbr]
    refine⟨Xx V w,?_,.cons hg n2 h3⟩
    rw[List.zip_cons_cons,List.map_cons,tL]
    refine((n1.mul (CgV.refl _ _)).add ((CgV.refl _ _).mul h2)).trans (CgV.eqv fun x=> ?_)
    simp only[Xh,Xc,Xd,pL,tL]
    grind
theorem QwL{q:Int}{F:List Int→List Int→List Int}(hF: ∀g s,(∃d,Mon g d)→CgV q (F g s) g){gs ss:List (List Int)}{n:Nat}(h:MS gs ss n):CgV q (pL ((gs.zip ss).map fun p=>F p.1 p.2)) (pL gs):=by
  induction h with
  |nil=>exact CgV.refl _ _
  |cons hg _ _ ih=>exact(hF _ _ ⟨_,hg⟩).mul ih
theorem QwT{q:Int}{F:List Int→List Int→List Int}(hF: ∀g s,(∃d,Mon g d)→CgV q (F g s) g){gs ss:List (List Int)}{n:Nat}(h:MS gs ss n):CgV q (tL ((gs.zip ss).map fun p=>F p.1 p.2) ss) (tL gs ss):=by
  induction h with
  |nil=>exact CgV.refl _ _
  |cons hg _ t ih=>exact((CgV.refl _ _).mul (QwL hF t)).add ((hF _ _ ⟨_,hg⟩).mul ih)
theorem Qoc{q m:Nat}{μ:List Int}(hq:(q:Int)∣m)(hμ:CgV (q:Int) μ [])(g s:List Int)(hg: ∃d,Mon g d):CgV (q:Int) (QhP m μ g s) g:=by
  obtain⟨d,hg⟩:=hg
  obtain⟨w,c1,c2⟩:=QeP (s:=s) hq hg hμ
  have b1:CgV (q:Int) (XD (Xg s μ) (Xg w g)) []:=((CgV.mul_nil hμ).sub (CgV.nil_mul c2)).trans (CgV.eqv fun y=>by simp [Xh,evI])
  exact((CgV.red _).dvd hq).trans ((CgV.trim _).trans (((CgV.refl _ _).add ((c1.dvd hq).trans b1)).trans (CgV.eqv fun y=>by simp [Xd,evI])))
theorem QvX{q m:Nat}{x ld:Int}{f μ:List Int}{gs ss:List (List Int)}{n:Nat}(hm2:2≤m)(hq:(q:Int)∣m)(hm:(m:Int)∣ (q:Int)*q)(h:MS gs ss n)(hx:(m:Int)∣x*ld -1)(hf:co f n=ld∧ ∀i,n<i→co f i=0)
    (h1:CgV (q:Int) (Xf (pL gs) ld) f)(h2:CgV (q:Int) (tL gs ss) [1])(hμ:CgV (m:Int) μ (XD (Xf f x) (pL gs))):
    CgV (q:Int) μ []∧MS ((gs.zip ss).map fun p=>QhP m μ p.1 p.2) ss n∧CgV (m:Int) (Xf (pL ((gs.zip ss).map fun p=>QhP m μ p.1 p.2)) ld) f:=by
  obtain⟨hx1,hx2⟩: ∃k,x*ld=1+m*k:=by obtain⟨k,hk⟩:=hx;exact⟨k,by omega⟩
  obtain⟨q1,hq1⟩:=hq
  have hμq:CgV (q:Int) μ []:=by
    refine(hμ.dvd ⟨q1,hq1⟩).trans ?_
    obtain⟨E,hE⟩:=h1
    refine⟨Xx (Xf E (-x)) (Xf (pL gs) (q1*hx1)),fun y=> ?_⟩
    have a1:=hE y
    simp only[Xh,Xm,Xd,evI] at a1⊢
    have a2:evI f y=ld*evI (pL gs) y -q*evI E y:=by omega
    rw[a2]
    have a3:x*(ld*evI (pL gs) y -q*evI E y)=(x*ld)*evI (pL gs) y -x*(q*evI E y):=by grind
    rw[a3,hx2,hq1];grind
  obtain⟨W,w1,w2,w3⟩:=Qs2 hm2 ⟨q1,hq1⟩ hm hμq h
  generalize((gs.zip ss).map fun p=>QhP m μ p.1 p.2)=gs' at *
  have hT:CgV (m:Int) (Xg μ (tL gs ss)) μ:=by
    have a1:CgV (q:Int) (XD (tL gs ss) [1]) []:=(h2.sub (CgV.refl _ [1])).trans (CgV.eqv fun y=>by simp [Xh,evI])
    obtain⟨E,hE⟩:=CgV.sq hm hμq a1
    refine⟨E,fun y=> ?_⟩
    have a2:=hE y
    simp only[Xh,Xc,evI] at a2⊢
    grind
  have hpr:CgV (m:Int) (pL gs') (XD (Xf f x) (Xg W (pL gs))):=by
    refine w2.trans ((((CgV.refl _ _).add (hT.trans hμ)).sub (CgV.refl _ _)).trans (CgV.eqv fun y=> ?_))
    simp only[Xh,Xd,Xc,Xm];grind
  have hW:CgV (m:Int) W []:=by
    obtain⟨E,hE⟩:=hpr
    refine YM (C:=pL gs) (S:=XD (Xf f x) (pL gs')) h.prod ⟨E,fun y=> ?_⟩ fun i hi=> ?_
    · have a1:=hE y
      simp only[Xh,Xc,Xm] at a1⊢
      grind
    · rw[ZG,Xi]
      rcases Nat.eq_or_lt_of_le hi with h5|h5
      · subst h5;rw[hf.1,w3.prod.1,Int.mul_comm];exact hx
      · rw[hf.2 i h5,w3.prod.2 i h5];simp
  have hpr2:CgV (m:Int) (pL gs') (Xf f x):=by
    obtain⟨E,hE⟩:=hW
    exact hpr.trans ⟨Xf (Xg E (pL gs)) (-1),fun y=>by simp only[Xh,Xc,Xm,hE,evI];grind⟩
  refine⟨hμq,w3,(hpr2.scale _).trans ⟨Xf f hx1,fun y=> ?_⟩⟩
  simp only[Xm]
  rw[show ld*(x*evI f y)=(x*ld)*evI f y by grind,hx2];grind
theorem QwS{q m:Nat}{ε:List Int}{gs ss:List (List Int)}{n:Nat}(hm2:2≤m)(hq:(q:Int)∣m)(hm:(m:Int)∣ (q:Int)*q)(h:MS gs ss n)(hn:0<n)(h2:CgV (q:Int) (tL gs ss) [1])(hε:CgV (m:Int) ε (XD (tL gs ss) [1])):
    MS gs ((ss.zip gs).map fun p=>QkN m ε p.1 p.2) n∧CgV (m:Int) (tL gs ((ss.zip gs).map fun p=>QkN m ε p.1 p.2)) [1]:=by
  have hεq:CgV (q:Int) ε []:=(hε.dvd hq).trans ((h2.sub (CgV.refl _ _)).trans (CgV.eqv fun y=>by simp [Xh,evI]))
  obtain⟨V,v1,v2⟩:=QsA hm2 hq hεq h
  generalize((ss.zip gs).map fun p=>QkN m ε p.1 p.2)=ss' at *
  have hT2:CgV (m:Int) (tL gs ss') (Xx [1] (Xg V (pL gs))):=by
    obtain⟨E,hE⟩:=CgV.sq hm hεq hεq
    obtain⟨F,hF⟩:=hε
    refine CgV.trans v1 ⟨XD (Xg F (XD ε [1])) E,fun y=> ?_⟩
    have a1:=hE y
    have a2:=hF y
    simp only[Xh,Xc,Xd,evI] at a1 a2⊢
    generalize evI ε y=e at *
    generalize evI (tL gs ss) y=T at *
    generalize evI F y=F' at *
    generalize evI E y=E' at *
    have a3:T=e+1 -m*F':=by omega
    rw[a3];grind
  have hV:CgV (m:Int) V []:=by
    obtain⟨E,hE⟩:=hT2
    refine YM (C:=pL gs) (S:=XD (tL gs ss') [1]) h.prod ⟨Xf E (-1),fun y=> ?_⟩ fun i hi=> ?_
    · have a1:=hE y
      simp only[Xh,Xc,Xd,Xm,evI] at a1⊢
      grind
    · rw[ZG,v2.deg i hi,XX (f:=[1]) (by simp;omega)];simp
  refine⟨v2,hT2.trans ?_⟩
  obtain⟨E,hE⟩:=hV
  exact⟨Xg E (pL gs),fun y=>by simp only[Xd,Xc,hE,evI];grind⟩
theorem QnV{m:Nat}{x ld k:Int}{f P Q:List Int}(hx:x*ld=1+m*k)(hP:CgV (m:Int) P Q):CgV (m:Int) (QlZ m x f ld P) (XD (Xf f x) Q):=by
  unfold QlZ
  refine(CgV.red _).trans ((CgV.trim _).trans ?_)
  refine(((CgV.red _).trans ((CgV.trim _).trans ((CgV.refl _ f).sub ((CgV.trim _).trans (hP.scale _))))).scale x).trans ⟨Xf Q (-k),fun y=> ?_⟩
  simp only[Xh,Xm]
  have :x*(evI f y -ld*evI Q y)=x*evI f y -(x*ld)*evI Q y:=by grind
  rw[this,hx];grind
theorem QwC{m:Nat}{T S:List Int}(h:CgV (m:Int) T S):CgV (m:Int) (exZ m T) (XD S [1]):=(CgV.red _).trans ((CgV.trim _).trans (h.sub (CgV.trim _)))
theorem step_ok{q m:Nat}{x:Int}{f:List Int}{gs ss:List (List Int)}{n:Nat}(hm2:2≤m)(hq:(q:Int)∣m)(hm:(m:Int)∣ (q:Int)*q)(h:MS gs ss n)(hn:0<n)(hx:(m:Int)∣x*ldP f -1)(hf:co f n=ldP f∧ ∀i,n<i→co f i=0)
    (h1:CgV (q:Int) (Xf (pL gs) (ldP f)) f)(h2:CgV (q:Int) (tL gs ss) [1]):
    MS (step0 m x f gs ss) (step1 m x f gs ss) n∧CgV (m:Int) (Xf (pL (step0 m x f gs ss)) (ldP f)) f∧CgV (m:Int) (tL (step0 m x f gs ss) (step1 m x f gs ss)) [1]:=by
  obtain⟨k,hk⟩: ∃k,x*ldP f=1+m*k:=by obtain⟨k,hk⟩:=hx;exact⟨k,by omega⟩
  have hμ:=QnV (f:=f) hk (Qj2 (m:=m) h.len).2
  obtain⟨a1,a2,a3⟩:=QvX hm2 hq hm h hx hf h1 h2 hμ
  have a4:=(QwT (Qoc hq a1) h).trans h2
  obtain⟨b1,b2⟩:=QwS hm2 hq hm a2 hn a4 (QwC (Qj2 (m:=m) a2.len).1)
  exact⟨b1,a3,b2⟩
end Go.Gx
namespace Go.Gx
theorem Qj8(l:List Nat):zl (YK l)=Xa (zl l):=by
  unfold zl YK Xa trimB
  rw[←List.map_reverse,List.dropWhile_map,List.map_reverse]
  have :(ZM∘ fun(a:Nat)=>(a:Int))=isZ:=by
    funext a
    show((a:Int)==0)=(a==0)
    by_cases h:a=0
    · subst h;rfl
    · rw[beq_eq_false_iff_ne.2 (show((a:Nat):Int)≠0 by omega),beq_eq_false_iff_ne.2 h]
  rw[this]
theorem Qbf(l:List Nat)(i:Nat):co (zl (YK l)) i=((l.getD i 0:Nat):Int):=by rw[Qj8,Xo,ZS]
theorem Qie{F:Nat→Nat}(h0:F 0=0)(l:List Nat)(i:Nat):(l.map F).getD i 0=F (l.getD i 0):=by
  simp only[List.getD,List.getElem?_map]
  cases l[i]? with
  |none=>exact h0.symm
  |some x=>rfl
theorem QuR{p:Nat}(hp:0<p)(z:Int):(p:Int)∣ ((md p z:Nat):Int) -z:=by
  obtain⟨k,hk⟩:=QlX hp z
  exact⟨-k,by rw[Int.mul_neg];omega⟩
theorem Qce{p:Nat}(a:Nat):(p:Int)∣ ((a % p:Nat):Int) -(a:Int):=by
  obtain⟨k,hk⟩:=Zq (p:=p) a
  exact⟨k,by omega⟩
theorem YW{p:Nat}(hp:0<p)(l:List Int):CgV (p:Int) (zl (XR p l)) l:=CgV.of fun i=>by
  rw[XR,Qbf,ZK l i (Yb p)]
  exact QuR hp _
theorem QbK{p:Nat}(hp:0<p)(f:List Nat):CgV (p:Int) (zl (XO p f)) (zl f):=by rw[Qez];exact YW hp _
theorem QgQ{p:Nat}(hp:0<p)(f g:List Nat):CgV (p:Int) (zl (Qau p f g)) (Xg (zl f) (zl g)):=(YW hp _).trans ((QbK hp f).mul (QbK hp g))
theorem Qjg{p:Nat}(hp:0<p)(f g:List Nat):CgV (p:Int) (zl (QhQ p f g)) (XD (zl f) (zl g)):=YW hp _
theorem Qen{p:Nat}(f:List Nat)(c:Nat):CgV (p:Int) (zl (Qbp p f c)) (Xf (zl f) c):=CgV.of fun i=>by
  rw[Qbp,Qbf,Xi,ZS,Qie (by simp)]
  have :=Qce (p:=p) (f.getD i 0*c)
  rwa [Int.natCast_mul] at this
theorem Qfa(c x:Int): ∀n,evI (List.replicate n 0++[c]) x=c*x^n
  |0=>by simp [evI]
  |n+1=>by rw[List.replicate_succ,List.cons_append,evI,Qfa c x n,Int.pow_succ];grind
theorem QmM{c:Int}{G:List Int}{n:Nat}(i:Nat):co (Xg (List.replicate n 0++[c]) G) i=if n≤i then c*co G (i -n) else 0:=by
  rw[Xp]
  have hx: ∀j,co (List.replicate n 0++[c]) j=if j=n then c else 0:=fun j=>by
    unfold co
    rcases Nat.lt_trichotomy j n with h1|h1|h1
    · rw[if_neg (by omega)];simp [List.getD,List.getElem?_append,h1,List.getElem?_replicate]
    · subst h1;simp [List.getD]
    · rw[if_neg (by omega)];simp [List.getD,List.getElem?_append,show ¬j<n by omega,show ¬j -n=0 by omega,show 0<j -n by omega]
  by_cases h1:n≤i
  · rw[if_pos h1]
    refine(QaU (j:=n) (by omega) fun j hj hne=> ?_).trans ?_
    · show co (List.replicate n 0++[c]) j*co G (i -j)=0
      rw[hx,if_neg hne,Int.zero_mul]
    · show co (List.replicate n 0++[c]) n*co G (i -n)=_
      rw[hx,if_pos rfl]
  · rw[if_neg h1]
    refine XQ fun j hj=> ?_
    show co (List.replicate n 0++[c]) j*co G (i -j)=0
    rw[hx,if_neg (by omega),Int.zero_mul]
theorem Qq5{q:List Nat}{n:Nat}(h:q.getD n 0=0):q.set n 0=q:=by
  refine List.ext_getElem (by simp) fun i h1 h2=> ?_
  rw[List.getElem_set]
  split
  · rename_i he;subst he;simpa [List.getD,h2] using h.symm
  · rfl
theorem QsV{q:List Nat}{n c:Nat}(hn:n<q.length)(h:q.getD n 0=0)(x:Int):evI (zl (q.set n c)) x=evI (zl q) x+c*x^n:=by
  have e: ∀i,co (zl (q.set n c)) i=co (Xx (zl q) (List.replicate n 0++[(c:Int)])) i:=fun i=>by
    rw[Xv,ZS,ZS,Qc7 q c i hn]
    have h2:co (List.replicate n 0++[(c:Int)]) i=if i=n then(c:Int) else 0:=by
      unfold co
      rcases Nat.lt_trichotomy i n with h1|h1|h1
      · rw[if_neg (by omega)];simp [List.getD,List.getElem?_append,h1,List.getElem?_replicate]
      · subst h1;simp [List.getD]
      · rw[if_neg (by omega)];simp [List.getD,List.getElem?_append,show ¬i<n by omega,show ¬i -n=0 by omega,show 0<i -n by omega]
    rw[h2]
    split
    · rename_i h3;subst h3;rw[h];simp
    · simp
  rw[Qc4 e,Xd,Qfa]
theorem QgY{p inv:Nat}{g:List Nat}(hp:0<p): ∀(n:Nat)(q r:List Nat),(∀j,j<n→q.getD j 0=0)→n≤q.length→n+(g.length -1)≤r.length→
    CgV (p:Int) (Xx (Xg (zl (Ze p inv g n (q,r)).1) (zl g)) (zl (Ze p inv g n (q,r)).2)) (Xx (Xg (zl q) (zl g)) (zl r))
  |0,q,r,_,_,_=>CgV.refl _ _
  |n+1,q,r,h,hl,hr=>by
    rw[Ze]
    generalize hc:r.getD (n+(g.length -1)) 0*inv % p=c
    have hcp:c<p:=by rw[←hc];exact Nat.mod_lt _ hp
    show CgV (p:Int) (Xx (Xg (zl (Ze p inv g n (q.set n c,if c=0 then r else Qa9 p g n (p -c) g.length r)).1) (zl g)) (zl (Ze p inv g n (q.set n c,if c=0 then r else Qa9 p g n (p -c) g.length r)).2)) _
    have h0:q.getD n 0=0:=h n (by omega)
    split
    · rename_i h1
      subst h1
      rw[Qq5 h0]
      exact QgY hp n q r (fun j hj=>h j (by omega)) (by omega) (by omega)
    · rename_i h1
      refine(QgY hp n (q.set n c) (Qa9 p g n (p -c) g.length r) (fun j hj=> ?_) (by simp;omega) (by rw[YS];omega)).trans ?_
      · rw[Qc7 q c j (by omega),if_neg (by omega)];exact h j (by omega)
      · have key:CgV (p:Int) (zl (Qa9 p g n (p -c) g.length r)) (XD (zl r) (Xg (List.replicate n 0++[(c:Int)]) (zl g))):=by
          refine CgV.of fun i=> ?_
          rw[ZG,QmM,ZS,ZS]
          rcases Nat.lt_or_ge i r.length with hi|hi
          · rw[Zz i hi]
            by_cases h2:n≤i
            · rw[if_pos h2,ZS]
              by_cases h3:i -n<g.length
              · rw[if_pos ⟨h2,h3⟩]
                obtain⟨k1,e1⟩:=Qce (p:=p) (r.getD i 0+(p -c)*g.getD (i -n) 0 % p)
                obtain⟨k2,e2⟩:=Qce (p:=p) ((p -c)*g.getD (i -n) 0)
                refine⟨k1+k2+(g.getD (i -n) 0:Nat),?_⟩
                rw[Int.natCast_add] at e1
                rw[Int.natCast_mul,Int.natCast_sub (by omega)] at e2
                grind
              · rw[if_neg (by omega),show g.getD (i -n) 0=0 by rw[List.getD,List.getElem?_eq_none (by omega)];rfl];simp
            · rw[if_neg h2,if_neg (by omega)];simp
          · rw[show(Qa9 p g n (p -c) g.length r).getD i 0=0 by rw[List.getD,List.getElem?_eq_none (by rw[YS];omega)];rfl,show r.getD i 0=0 by rw[List.getD,List.getElem?_eq_none (by omega)];rfl]
            by_cases h2:n≤i
            · rw[if_pos h2,ZS,show g.getD (i -n) 0=0 by rw[List.getD,List.getElem?_eq_none (by omega)];rfl];simp
            · rw[if_neg h2];simp
        obtain⟨E,hE⟩:=key
        refine⟨E,fun x=> ?_⟩
        have a1:=hE x
        simp only[Xd,Xh,Xc,Qfa,QsV (show n<q.length by omega) h0] at a1⊢
        grind
theorem QlO(l:List Nat)(x:Int):evI (zl (YK l)) x=evI (zl l) x:=by rw[Qj8,QaD]
theorem QbP{p:Nat}{f g q r:List Nat}(hp:0<p)(h:XH p f g=(q,r)):CgV (p:Int) (Xx (Xg (zl q) (zl g)) (zl r)) (zl f):=by
  unfold XH at h
  split at h
  · obtain⟨rfl,rfl⟩:=Prod.mk.inj h
    exact CgV.eqv fun x=>by simp [Xd,Xc,zl,evI]
  · rename_i h1
    obtain⟨rfl,rfl⟩:=Prod.mk.inj h
    have h2:=QgY (inv:=ZL p (g.getD (g.length -1) 0)) (g:=g) hp (f.length -(g.length -1)) (List.replicate (f.length -(g.length -1)) 0) f (fun j hj=>by simp [List.getD,List.getElem?_replicate,hj]) (by simp) (by omega)
    have h3: ∀k x,evI (zl (List.replicate k 0)) x=0:=fun k x=>by
      induction k with
      |zero=>rfl
      |succ k ih=>rw[List.replicate_succ];show(0:Int)+x*evI (zl (List.replicate k 0)) x=0;rw[ih];simp
    obtain⟨E,hE⟩:=h2
    refine⟨E,fun x=> ?_⟩
    have a1:=hE x
    simp only[Xd,Xc,QlO,h3] at a1⊢
    rw[a1];simp
def MdG(p:Int)(G f u F:List Int):Prop:= ∃y,CgV p f (Xx (Xg u F) (Xg y G))
theorem QmP{p:Nat}(hp:Xk p){F G:List Int}: ∀(n:Nat)(f g u v:List Nat),XE p f→XE p g→g.length≤n→0<f.length+g.length→MdG p G (zl f) (zl u) F→MdG p G (zl g) (zl v) F→MdG p G (zl (QaP p n f g)) (zl (Qbg p n f g u v)) F:=by
  have hp0:0<p:=by have :=hp.1;omega
  have fin: ∀(f u:List Nat),0<f.length→MdG p G (zl f) (zl u) F→MdG p G (zl (XS p f)) (zl (Qbp p u (ZL p (XW f)))) F:=by
    intro f u hf ⟨y,hy⟩
    unfold XS
    rw[if_neg (by omega)]
    refine⟨Xf y (ZL p (XW f)),?_⟩
    obtain⟨a,ha⟩:=Qen (p:=p) f (ZL p (XW f))
    obtain⟨b,hb⟩:=Qen (p:=p) u (ZL p (XW f))
    obtain⟨c,hc⟩:=hy
    refine⟨XD (Xx a (Xf c (ZL p (XW f)))) (Xg b F),fun x=> ?_⟩
    have a1:=ha x;have a2:=hb x;have a3:=hc x
    simp only[Xd,Xh,Xc,Xm] at a1 a2 a3⊢
    rw[a1,a2,a3];grind
  intro n
  induction n with
  |zero=>intro f g u v hf hg hl h0 h1 h2;exact fin f u (by omega) h1
  |succ n ih=>
    intro f g u v hf hg hl h0 h1 h2
    rw[QaP,Qbg]
    split
    · exact fin f u (by omega) h1
    · rename_i hne
      rcases hd:XH p f g with⟨q,r⟩
      have hk:=Ym hp hf hg (by omega) hd
      refine ih g r v (QhQ p u (Qau p q v)) hg hk.2.1 (by have :=hk.2.2.1;omega) (by omega) h2 ?_
      obtain⟨y1,z1,e1⟩:=h1
      obtain⟨y2,z2,e2⟩:=h2
      obtain⟨d,ed⟩:=QbP hp0 hd
      obtain⟨s,es⟩:=Qjg hp0 u (Qau p q v)
      obtain⟨m,em⟩:=QgQ hp0 q v
      refine⟨XD y1 (Xg (zl q) y2),Xx (XD (Xx d z1) (Xg (zl q) z2)) (XD (Xg m F) (Xg s F)),fun x=> ?_⟩
      have a1:=e1 x;have a2:=e2 x;have a3:=ed x;have a4:=es x;have a5:=em x
      simp only[Xd,Xh,Xc] at a1 a2 a3 a4 a5⊢
      rw[a4,a5]
      grind
def Dv(p:Int)(a b:List Int):Prop:= ∃w,CgV p b (Xg w a)
theorem QbS{p:Nat}(hp:Xk p): ∀(n:Nat)(f g:List Nat),XE p f→XE p g→g.length≤n→0<f.length+g.length→Dv p (zl (QaP p n f g)) (zl f)∧Dv p (zl (QaP p n f g)) (zl g):=by
  have hp0:0<p:=by have :=hp.1;omega
  have fin: ∀(f:List Nat),XE p f→0<f.length→Dv p (zl (XS p f)) (zl f):=by
    intro f hc hf
    unfold XS
    rw[if_neg (by omega)]
    have hl:=hc.last hf
    obtain⟨a,ha⟩:=Qen (p:=p) f (ZL p (XW f))
    obtain⟨k,hk⟩:=Qce (p:=p) (XW f*ZL p (XW f))
    rw[show XW f*ZL p (XW f) % p=1 from(Qak hp hl.1 hl.2).2,Int.natCast_mul] at hk
    refine⟨[(XW f:Int)],Xf (Xx (Xf (zl f) k) (Xf a (-(XW f:Int)))) 1,fun x=> ?_⟩
    have a1:=ha x
    simp only[Xd,Xc,Xm,evI] at a1⊢
    rw[a1]
    simp only[Int.natCast_one] at hk
    grind
  have nilD: ∀(d:List Int)(g:List Nat),g.length=0→Dv p d (zl g):=fun d g hg=>by
    rw[List.eq_nil_of_length_eq_zero hg];exact⟨[],CgV.eqv fun x=>by simp [zl,Xc,evI]⟩
  intro n
  induction n with
  |zero=>intro f g hf hg hl h0;exact⟨fin f hf (by omega),nilD _ g (by omega)⟩
  |succ n ih=>
    intro f g hf hg hl h0
    rw[QaP]
    split
    · rename_i h1;exact⟨fin f hf (by omega),nilD _ g h1⟩
    · rename_i hne
      rcases hd:XH p f g with⟨q,r⟩
      have hk:=Ym hp hf hg (by omega) hd
      obtain⟨⟨a,a',ha⟩,b,b',hb⟩:=ih g r hg hk.2.1 (by have :=hk.2.2.1;omega) (by omega)
      obtain⟨d,ed⟩:=QbP hp0 hd
      refine⟨⟨Xx (Xg (zl q) a) b,XD (Xx (Xg (zl q) a') b') d,fun x=> ?_⟩,a,a',ha⟩
      have a1:=ha x;have a2:=hb x;have a3:=ed x
      simp only[Xd,Xh,Xc] at a1 a2 a3⊢
      grind
theorem Qgo{p:Nat}(hp:Xk p){f:List Nat}(hf:XE p f)(h0:0<f.length):(XS p f).getD (f.length -1) 0=1:=by
  have hl:=hf.last h0
  have hp1:=hp.1
  have h1:co (zl (XS p f)) (f.length -1)=1:=by
    unfold XS
    rw[if_neg (by omega),Qbp,Qbf,Qie (by simp)]
    show((XW f*ZL p (XW f) % p:Nat):Int)=1
    rw[show XW f*ZL p (XW f) % p=1 from(Qak hp hl.1 hl.2).2];rfl
  rw[ZS] at h1
  exact_mod_cast h1
theorem QcG{p:Nat}(hp:Xk p): ∀(n:Nat)(f g:List Nat),XE p f→XE p g→g.length≤n→0<f.length+g.length→(QaP p n f g).getD ((QaP p n f g).length -1) 0=1:=by
  have fin: ∀(f:List Nat),XE p f→0<f.length→(XS p f).getD ((XS p f).length -1) 0=1:=fun f hc hf=>by rw[Qam hp hc];exact Qgo hp hc hf
  intro n
  induction n with
  |zero=>intro f g hf hg hl h0;exact fin f hf (by omega)
  |succ n ih=>
    intro f g hf hg hl h0
    rw[QaP]
    split
    · exact fin f hf (by omega)
    · rcases hd:XH p f g with⟨q,r⟩
      have hk:=Ym hp hf hg (by omega) hd
      exact ih g r hg hk.2.1 (by have :=hk.2.2.1;omega) (by omega)
theorem Qjv{p:Nat}(hp:Xk p){f g:List Nat}(hf:XE p f)(hg:XE p g)(h0:0<f.length+g.length)(h:(XN p f g).length≤1):XN p f g=[1]:=by
  have h1:=QrK hp hf hg h0
  have h2:=QcG hp g.length f g hf hg (Nat.le_refl _) h0
  change (XN p f g).getD ((XN p f g).length -1) 0=1 at h2
  match XN p f g,h,h1,h2 with
  | [a],_,_,h2=>simp [List.getD] at h2;rw[h2]
  |_::_::_,h,_,_=>simp at h
theorem Qdc{p:Nat}{F G:List Int}:MdG p G F (zl [1]) F∧MdG p G G (zl []) F:=
  ⟨⟨[],CgV.eqv fun x=>by simp [Xd,Xc,zl,evI]⟩,⟨[1],CgV.eqv fun x=>by simp [Xd,Xc,zl,evI]⟩⟩
theorem Qki{p:Nat}(hp:Xk p){f g:List Nat}(hf:XE p f)(hg:XE p g)(h0:0<f.length+g.length)(h:(XN p f g).length≤1):MdG p (zl g) [1] (zl (QmO p f g)) (zl f):=by
  have h1:=QmP hp (F:=zl f) (G:=zl g) g.length f g [1] [] hf hg (Nat.le_refl _) h0 Qdc.1 Qdc.2
  rw[show QaP p g.length f g=[1] from Qjv hp hf hg h0 h] at h1
  exact h1
theorem ZC{p:Nat}(hp:Xk p){f g:List Nat}(hf:XE p f)(hg:XE p g)(h0:0<f.length+g.length)(h:(XN p f g).length≤1):Cop p (zl f) (zl g):=by
  obtain⟨y,hy⟩:=Qki hp hf hg h0 h
  exact⟨_,y,hy.symm⟩
theorem QdO{p:Nat}(hp:Xk p){f g:List Nat}(hf:XE p f)(hg:XE p g)(h0:0<f.length+g.length)(h:Cop p (zl f) (zl g)):(XN p f g).length≤1:=by
  have hp1:=hp.1
  obtain⟨⟨a,a',ha⟩,b,b',hb⟩:=QbS hp g.length f g hf hg (Nat.le_refl _) h0
  obtain⟨u,v,e,he⟩:=h
  have hm:=QcG hp g.length f g hf hg (Nat.le_refl _) h0
  change ∀x,evI (zl f) x=evI (Xg a (zl (XN p f g))) x+_ at ha
  change ∀x,evI (zl g) x=evI (Xg b (zl (XN p f g))) x+_ at hb
  change (XN p f g).getD ((XN p f g).length -1) 0=1 at hm
  rcases Nat.lt_or_ge 1 (XN p f g).length with h1|h1
  · exfalso
    have hM:Mon (zl (XN p f g)) ((XN p f g).length -1):=⟨by rw[ZS,hm];rfl,fun i hi=>by rw[XX];rw[Zl];omega⟩
    have hw:CgV (p:Int) (Xg (zl (XN p f g)) (Xx (Xg u a) (Xg v b))) [1]:=⟨XD e (Xx (Xg u a') (Xg v b')),fun x=>by
      have a1:=ha x;have a2:=hb x;have a3:=he x
      simp only[Xd,Xh,Xc] at a1 a2 a3⊢
      rw[a1,a2] at a3
      grind⟩
    have hz:=YM hM hw (fun i hi=>by rw[XX (f:=[1]) (by simp;omega)];exact Int.dvd_zero _)
    have h3:CgV (p:Int) [1] []:=hw.symm.trans (CgV.mul_nil hz)
    obtain⟨k,hk⟩:=h3.cof 0
    have h4:(1:Int)=p*k:=by simpa [co] using hk
    have h5:(p:Int)∣1:=⟨k,h4⟩
    have h6:=Int.le_of_dvd (by omega) h5
    omega
  · exact h1
end Go.Gx
namespace Go.Gx
open Go.RowKit
def Qwa(g:Bool)(n:Nat):Int:=if g then -(n:Int) else(n:Int)
def ZR(w:World)(S:Nat→Prop)(s:Int)(A:Option Addr)(n c:Nat)(z:Int):Prop:=s=z.sign∧ ∃bs,Qbu 2 w S A n c bs∧Canon isZ bs∧vb 2 bs=z.natAbs
section
variable{w w':World}{S S' G:Nat→Prop}{s:Int}{A:Option Addr}{n c:Nat}{z:Int}
theorem ZR.frmB(h:ZR w S s A n c z)(f:Frm G w w')(hd: ∀b,b<w.heap.size→S b→ ¬G b):ZR w' S s A n c z:=by
  obtain⟨h1,bs,h2,h3⟩:=h;exact⟨h1,bs,h2.frmB f hd,h3⟩
theorem ZR.t(h:ZR w S s A n c z)(f:Frm G w w':=by exact zrd)(hd: ∀b,b<w.heap.size→S b→ ¬G b:=by exact zq6):ZR w' S s A n c z:=h.frmB f hd
theorem ZR.ext(h:ZR w S s A n c z)(f:Ext w w'):ZR w' S s A n c z:=by
  obtain⟨h1,bs,h2,h3⟩:=h;exact⟨h1,bs,h2.ext f,h3⟩
theorem ZR.sub(h:ZR w S s A n c z)(hs: ∀b,b<w.heap.size→S b→S' b):ZR w S' s A n c z:=by
  obtain⟨h1,bs,h2,h3⟩:=h;exact⟨h1,bs,h2.sub hs,h3⟩
theorem ZR.low(h:ZR w S s A n c z):ZR w (· <w.heap.size) s A n c z:=h.sub fun _ hb _=>hb
theorem ZR.cap(h:ZR w S s A n c z):n≤c:=by obtain⟨_,bs,h2,_⟩:=h;exact h2.cap
theorem ZR.max(h:ZR w S s A n c z):c≤9223372036854775807:=by obtain⟨_,bs,h2,_⟩:=h;exact h2.max
theorem ZR.zero:ZR w S 0 none 0 0 0:=⟨rfl,[],Qbu.nil,QcX _,rfl⟩
theorem ZR.len{m:Nat}(h:ZR w S s A n c z)(hz:z.natAbs<2^m):n≤m:=by
  obtain⟨_,bs,h2,h3,h4⟩:=h
  rw[←h2.len]
  exact QmB (B:=2) h3 (by decide) (by rw[h4];exact hz)
theorem ZR.lt(h:ZR w S s A n c z):z.natAbs<2^n:=by
  obtain⟨_,bs,h2,h3,h4⟩:=h
  have :=Qmm bs h2.2
  rw[h2.len,h4] at this
  exact this
theorem ZR.make{g:Bool}{ds bs:List Nat}{s:Int}(h:Qbu 2 w S A n c bs)(e:bs=YK ds)(h0:n≠0)(hs:s=if g then -1 else 1):ZR w S s A n c (Qwa g (vb 2 ds)):=by
  have hv:vb 2 bs=vb 2 ds:=by rw[e,Quk]
  have hc:Canon isZ bs:=by rw[e];exact Xs _ _
  have hp:0<vb 2 ds:=by
    rcases Nat.eq_zero_or_pos (vb 2 ds) with h1|h1
    · have :=Qf1 (B:=2) hc (by decide) (by omega)
      have h2:=h.len
      rw[this] at h2;simp at h2;omega
    · exact h1
  refine⟨?_,bs,h,hc,?_⟩
  · subst hs
    cases g
    · simp only[Qwa,Bool.false_eq_true,if_false];rw[Int.sign_eq_one_of_pos (by omega)]
    · simp only[Qwa,if_true];rw[Int.sign_eq_neg_one_of_neg (by omega)]
  · rw[hv];cases g<;>simp [Qwa]
end
end Go.Gx
namespace Go.Gx
open Go.RowKit
variable{dfs:List Deferred}
structure RZ where
  s:Int
  A:Option Addr
  n:Nat
  c:Nat
  z:Int
def Qbd(l:List RZ):List Value:=l.flatMap fun r=>[.int .i64 r.s,.slice r.A r.n r.c]
theorem Qf5(l:List RZ):(Qbd l).length=l.length*2:=by
  induction l with
  |nil=>rfl
  |cons r l ih=>simp only[Qbd,List.flatMap_cons,List.length_append,List.length_cons] at ih⊢;rw[ih];simp;omega
theorem Qcz(r:RZ)(l:List RZ):Qbd (r::l)= .int .i64 r.s:: .slice r.A r.n r.c::Qbd l:=by simp [Qbd]
theorem Qjf(l:List RZ): ∀k,Qbd (l.take k)=(Qbd l).take (k*2):=by
  induction l with
  |nil=>intro k;simp [Qbd]
  |cons r l ih=>
    intro k
    cases k with
    |zero=>simp [Qbd]
    |succ k=>rw[List.take_succ_cons,Qcz,Qcz,ih,show(k+1)*2=k*2+1+1 by omega];simp
theorem QlE{l:List RZ}: ∀{i:Nat}{r:RZ},l[i]? =some r→(Qbd l)[i*2]? =some (.int .i64 r.s)∧(Qbd l)[i*2+1]? =some (.slice r.A r.n r.c):=by
  induction l with
  |nil=>intro i r h;simp at h
  |cons x l ih=>
    intro i r h
    rw[Qcz]
    cases i with
    |zero=>simp at h;subst h;simp
    |succ i=>
      simp at h
      have :=ih h
      rw[show(i+1)*2=i*2+1+1 by omega]
      simpa using this
def QwX(w:World)(S:Nat→Prop)(M:Nat)(l:List RZ):Prop:= ∀r∈l,ZR w S r.s r.A r.n r.c r.z∧r.n≤M
def PZR(w:World)(S:Nat→Prop)(A:Option Addr)(n c:Nat)(f:List Int)(M:Nat):Prop:= ∃l:List RZ,Rd w S A n c 2 (Qbd l)∧QwX w S M l∧l.map RZ.z=f
section
variable{w w':World}{S S' G:Nat→Prop}{A:Option Addr}{n c M M':Nat}{f:List Int}
theorem PZR.frmB(h:PZR w S A n c f M)(k:Frm G w w')(hd: ∀b,b<w.heap.size→S b→ ¬G b):PZR w' S A n c f M:=by
  obtain⟨l,h1,h2,h3⟩:=h
  exact⟨l,h1.frmB k hd,fun r hr=>⟨(h2 r hr).1.frmB k hd,(h2 r hr).2⟩,h3⟩
theorem PZR.t(h:PZR w S A n c f M)(ff:Frm G w w':=by exact zrd)(hd: ∀b,b<w.heap.size→S b→ ¬G b:=by exact zq6):PZR w' S A n c f M:=h.frmB ff hd
theorem PZR.ext(h:PZR w S A n c f M)(k:Ext w w'):PZR w' S A n c f M:=h.frmB k fun _ _ _ g=>g
theorem PZR.sub(h:PZR w S A n c f M)(hs: ∀b,b<w.heap.size→S b→S' b):PZR w S' A n c f M:=by
  obtain⟨l,h1,h2,h3⟩:=h
  exact⟨l,h1.sub hs,fun r hr=>⟨(h2 r hr).1.sub hs,(h2 r hr).2⟩,h3⟩
theorem PZR.low(h:PZR w S A n c f M):PZR w (· <w.heap.size) A n c f M:=h.sub fun _ hb _=>hb
theorem PZR.le(h:PZR w S A n c f M)(hm:M≤M'):PZR w S A n c f M':=by
  obtain⟨l,h1,h2,h3⟩:=h
  exact⟨l,h1,fun r hr=>⟨(h2 r hr).1,Nat.le_trans (h2 r hr).2 hm⟩,h3⟩
theorem PZR.nil:PZR w S none 0 0 [] M:=⟨[],Rd.nil,fun r hr=>(by cases hr),rfl⟩
theorem PZR.len(h:PZR w S A n c f M):f.length=n:=by
  obtain⟨l,h1,h2,h3⟩:=h
  have :=h1.1;rw[Qf5] at this;rw[←h3];simp;omega
theorem PZR.cap(h:PZR w S A n c f M):n≤c:=by obtain⟨l,h1,_⟩:=h;exact h1.2.1
theorem PZR.max(h:PZR w S A n c f M):c≤9223372036854775807:=by obtain⟨l,h1,_⟩:=h;exact h1.2.2.1
theorem PZR.base(h:PZR w S A n c f M)(hn:0<n): ∃b off,A=some ⟨b,off,none⟩:=by obtain⟨l,h1,_⟩:=h;exact h1.base hn
theorem PZR.take{m:Nat}(h:PZR w S A n c f M)(hm:m≤n):PZR w S A m c (f.take m) M:=by
  obtain⟨l,h1,h2,h3⟩:=h
  refine⟨l.take m,?_,fun r hr=>h2 r (List.mem_of_mem_take hr),by rw[←h3,List.map_take]⟩
  have :=h1.take hm
  rw[←Qjf] at this
  exact this
theorem PZR.at_{b off i:Nat}(h:PZR w S (some ⟨b,off,none⟩) n c f M)(hi:i<n):
    ∃s A' n' c' z',w.cell? ⟨b,off+i*2,none⟩=some (.int .i64 s)∧w.cell? ⟨b,off+i*2+1,none⟩=some (.slice A' n' c')∧ZR w S s A' n' c' z'∧n'≤M∧S b∧b<w.heap.size∧z'=co f i:=by
  have hlen:=h.len
  obtain⟨l,h1,h2,h3⟩:=h
  have hl:i<l.length:=by rw[←h3] at hlen;simp at hlen;omega
  obtain⟨r,hr⟩: ∃r,l[i]? =some r:=⟨_,List.getElem?_eq_getElem hl⟩
  have hc:=QlE hr
  have hm:=h2 _ (List.mem_of_getElem? hr)
  obtain⟨b',off',e,hS,hb,_⟩:=h1.2.2.2 (by omega)
  injection e with e
  injection e with e1 e2
  subst e1 e2
  exact⟨r.s,r.A,r.n,r.c,r.z,h1.cell hc.1,h1.cell hc.2,hm.1,hm.2,hS,hb,by rw[←h3];simp [List.getD,List.getElem?_map,hr]⟩
theorem PZR.one{g:Nat}{t:TypeId}{s:Int}{A':Option Addr}{n' c':Nat}{z:Int}(h:Blk w g t [.int .i64 s,.slice A' n' c'])(hz:ZR w S s A' n' c' z)(hM:n'≤M):PZR w (fun _=>True) (some ⟨g,0,none⟩) 1 1 [z] M:=
  ⟨[⟨s,A',n',c',z⟩],Rd.of_blk h trivial rfl (Nat.le_refl _) (by decide),fun r hr=>by simp at hr;subst hr;exact⟨hz.sub fun _ _ _=>trivial,hM⟩,rfl⟩
theorem PZR.two{g:Nat}{t:TypeId}{s s2:Int}{A' A2:Option Addr}{n' c' n2 c2:Nat}{z z2:Int}{S2:Nat→Prop}(h:Blk w g t [.int .i64 s,.slice A' n' c',.int .i64 s2,.slice A2 n2 c2])(hz:ZR w S s A' n' c' z)(hz2:ZR w S2 s2 A2 n2 c2 z2)(hM:n'≤M)(hM2:n2≤M):
    PZR w (fun _=>True) (some ⟨g,0,none⟩) 2 2 [z,z2] M:=
  ⟨[⟨s,A',n',c',z⟩,⟨s2,A2,n2,c2,z2⟩],Rd.of_blk h trivial rfl (Nat.le_refl _) (by decide),fun r hr=>by
    simp at hr
    rcases hr with h1|h1
    · subst h1;exact⟨hz.sub fun _ _ _=>trivial,hM⟩
    · subst h1;exact⟨hz2.sub fun _ _ _=>trivial,hM2⟩,rfl⟩
end
def Qi3(T:Nat→Prop)(w:World)(B:Nat)(el:TypeId)(A:Option Addr)(n c:Nat)(f:List Int)(M:Nat):Prop:= ∃l:List RZ,Own w B el 2 A n c (Qbd l)∧QwX w (fun b=>Qiq A b∧T b) M l∧l.map RZ.z=f
section
variable{T:Nat→Prop}{w w':World}{B:Nat}{el:TypeId}{S G:Nat→Prop}{A:Option Addr}{n c M:Nat}{f:List Int}
theorem Qi3.nil:Qi3 T w B el none 0 0 [] M:=⟨[],Own.nil,fun r hr=>(by cases hr),rfl⟩
theorem Qi3.ext(h:Qi3 T w B el A n c f M)(k:Ext w w'):Qi3 T w' B el A n c f M:=by
  obtain⟨l,h1,h2,h3⟩:=h
  exact⟨l,h1.ext k,fun r hr=>⟨(h2 r hr).1.ext k,(h2 r hr).2⟩,h3⟩
theorem Qi3.t(h:Qi3 T w B el A n c f M)(ff:Ext w w':=by exact zrd):Qi3 T w' B el A n c f M:=h.ext ff
theorem Qi3.lt(h:Qi3 T w B el A n c f M): ∀a,A=some a→B≤a.block∧a.block<w.heap.size:=by obtain⟨l,h1,_⟩:=h;exact h1.lt
theorem Qi3.cap(h:Qi3 T w B el A n c f M):n≤c:=by obtain⟨l,h1,_⟩:=h;exact h1.cap
theorem Qi3.max(h:Qi3 T w B el A n c f M):c≤9223372036854775807:=by obtain⟨l,h1,_⟩:=h;exact h1.max
theorem Qi3.len(h:Qi3 T w B el A n c f M):f.length=n:=by
  obtain⟨l,h1,h2,h3⟩:=h
  have :=h1.1;rw[Qf5] at this;rw[←h3];simp;omega
end
section
variable{P:Program}{n:Nat}{e:Nat→Value}{w:World}{K:Act→World→Prop}{Q:Exit→Act→World→Prop}{ty:TypeId}{pos:String}{af:Array Edge}{gd:Option (Nat×Bool)}
end
end Go.Gx
namespace Go.Gx
open Go.RowKit
variable{dfs:List Deferred}
section
variable{P:Program}{n:Nat}{e:Nat→Value}{w:World}{K:Act→World→Prop}{Q:Exit→Act→World→Prop}{ty:TypeId}{pos:String}{af:Array Edge}{gd:Option (Nat×Bool)}
end
end Go.Gx
namespace Go.Gx
open Go.RowKit
section
variable{w w':World}{S S' G:Nat→Prop}{A:Option Addr}{n c:Nat}{xs:List Int}
theorem YR.take{m:Nat}(h:YR w S A n c xs)(hm:m≤n):YR w S A m c (xs.take m):=by
  refine⟨?_,fun x hx=>h.2 x (List.mem_of_mem_take hx)⟩
  have :=h.1.take hm
  rw[Nat.mul_one] at this
  rw[List.map_take]
  exact this
end
structure IE where
  A:Option Addr
  n:Nat
  c:Nat
  x:List Int
  k:Int
def IE.m(f:IE):List Int×Int:=(f.x,f.k)
def IE.cells(f:IE):List Value:=[.slice f.A f.n f.c,.int .i64 f.k]
def ZW(l:List IE):List Value:=l.flatMap IE.cells
def QdE(l:List IE):List Value:=l.map fun f=> .slice f.A f.n f.c
theorem Qby(l:List IE):(ZW l).length=l.length*2:=by
  induction l with
  |nil=>rfl
  |cons r l ih=>simp only[ZW,List.flatMap_cons,List.length_append,List.length_cons] at ih⊢;rw[ih];simp [IE.cells];omega
theorem QhT(r:IE)(l:List IE):ZW (r::l)= .slice r.A r.n r.c:: .int .i64 r.k::ZW l:=by simp [ZW,IE.cells]
theorem Qjd{l:List IE}: ∀{i:Nat}{r:IE},l[i]? =some r→(ZW l)[i*2]? =some (.slice r.A r.n r.c)∧(ZW l)[i*2+1]? =some (.int .i64 r.k):=by
  induction l with
  |nil=>intro i r h;simp at h
  |cons x l ih=>
    intro i r h
    rw[QhT]
    cases i with
    |zero=>simp at h;subst h;simp
    |succ i=>
      simp at h
      have :=ih h
      rw[show(i+1)*2=i*2+1+1 by omega]
      simpa using this
def Qv8(w:World)(S:Nat→Prop)(l:List IE):Prop:= ∀f∈l,YR w S f.A f.n f.c f.x
def Zc(w:World)(S:Nat→Prop)(A:Option Addr)(n c:Nat)(l:List IE):Prop:=Rd w S A n c 2 (ZW l)∧Qv8 w S l
def YE(w:World)(S:Nat→Prop)(A:Option Addr)(n c:Nat)(l:List IE):Prop:=Rd w S A n c 1 (QdE l)∧Qv8 w S l
section
variable{w w':World}{S S' G:Nat→Prop}{A:Option Addr}{n c:Nat}{l:List IE}
theorem Zc.frmB(h:Zc w S A n c l)(f:Frm G w w')(hd: ∀b,b<w.heap.size→S b→ ¬G b):Zc w' S A n c l:=⟨h.1.frmB f hd,fun x hx=>(h.2 x hx).frmB f hd⟩
theorem Zc.t(h:Zc w S A n c l)(f:Frm G w w':=by exact zrd)(hd: ∀b,b<w.heap.size→S b→ ¬G b:=by exact zq6):Zc w' S A n c l:=h.frmB f hd
theorem Zc.ext(h:Zc w S A n c l)(f:Ext w w'):Zc w' S A n c l:=⟨h.1.ext f,fun x hx=>(h.2 x hx).ext f⟩
theorem Zc.sub(h:Zc w S A n c l)(hs: ∀b,b<w.heap.size→S b→S' b):Zc w S' A n c l:=⟨h.1.sub hs,fun x hx=>(h.2 x hx).sub hs⟩
theorem Zc.low(h:Zc w S A n c l):Zc w (· <w.heap.size) A n c l:=h.sub fun _ hb _=>hb
theorem Zc.nil:Zc w S none 0 0 []:=⟨Rd.nil,fun f hf=>by cases hf⟩
theorem Zc.len(h:Zc w S A n c l):l.length=n:=by have :=h.1.1;rw[Qby] at this;omega
theorem Zc.base(h:Zc w S A n c l)(hn:0<n): ∃b off,A=some ⟨b,off,none⟩:=h.1.base hn
theorem Zc.at_{b off i:Nat}(h:Zc w S (some ⟨b,off,none⟩) n c l)(hi:i<n):
    ∃f,l[i]? =some f∧w.cell? ⟨b,off+i*2,none⟩=some (.slice f.A f.n f.c)∧w.cell? ⟨b,off+i*2+1,none⟩=some (.int .i64 f.k)∧YR w S f.A f.n f.c f.x∧S b∧b<w.heap.size:=by
  have hl:i<l.length:=by rw[h.len];exact hi
  obtain⟨b',off',e,hS,hb,_⟩:=h.1.2.2.2 (by omega)
  injection e with e
  injection e with e1 e2
  subst e1 e2
  obtain⟨r,hr⟩: ∃r,l[i]? =some r:=⟨_,List.getElem?_eq_getElem hl⟩
  have hc:=Qjd hr
  exact⟨r,hr,h.1.cell hc.1,h.1.cell hc.2,h.2 _ (List.mem_of_getElem? hr),hS,hb⟩
theorem YE.frmB(h:YE w S A n c l)(f:Frm G w w')(hd: ∀b,b<w.heap.size→S b→ ¬G b):YE w' S A n c l:=⟨h.1.frmB f hd,fun x hx=>(h.2 x hx).frmB f hd⟩
theorem YE.t(h:YE w S A n c l)(f:Frm G w w':=by exact zrd)(hd: ∀b,b<w.heap.size→S b→ ¬G b:=by exact zq6):YE w' S A n c l:=h.frmB f hd
theorem YE.ext(h:YE w S A n c l)(f:Ext w w'):YE w' S A n c l:=⟨h.1.ext f,fun x hx=>(h.2 x hx).ext f⟩
theorem YE.sub(h:YE w S A n c l)(hs: ∀b,b<w.heap.size→S b→S' b):YE w S' A n c l:=⟨h.1.sub hs,fun x hx=>(h.2 x hx).sub hs⟩
theorem YE.low(h:YE w S A n c l):YE w (· <w.heap.size) A n c l:=h.sub fun _ hb _=>hb
theorem YE.nil:YE w S none 0 0 []:=⟨Rd.nil,fun f hf=>by cases hf⟩
theorem YE.len(h:YE w S A n c l):l.length=n:=by have :=h.1.1;simp [QdE] at this;omega
theorem YE.base(h:YE w S A n c l)(hn:0<n): ∃b off,A=some ⟨b,off,none⟩:=h.1.base hn
theorem YE.at_{b off i:Nat}(h:YE w S (some ⟨b,off,none⟩) n c l)(hi:i<n):
    ∃f,l[i]? =some f∧w.cell? ⟨b,off+i,none⟩=some (.slice f.A f.n f.c)∧YR w S f.A f.n f.c f.x∧S b∧b<w.heap.size:=by
  have hl:i<l.length:=by rw[h.len];exact hi
  obtain⟨b',off',e,hS,hb,_⟩:=h.1.2.2.2 (by omega)
  injection e with e
  injection e with e1 e2
  subst e1 e2
  obtain⟨r,hr⟩: ∃r,l[i]? =some r:=⟨_,List.getElem?_eq_getElem hl⟩
  have hc:(QdE l)[i]? =some (.slice r.A r.n r.c):=by simp [QdE,hr]
  exact⟨r,hr,h.1.cell hc,h.2 _ (List.mem_of_getElem? hr),hS,hb⟩
theorem YE.one{g:Nat}{t:TypeId}{S1:Nat→Prop}{A1:Option Addr}{n1 c1:Nat}{x1:List Int}(hb:Blk w g t [.slice A1 n1 c1])(h1:YR w S1 A1 n1 c1 x1):YE w (fun _=>True) (some ⟨g,0,none⟩) 1 1 [⟨A1,n1,c1,x1,0⟩]:=by
  refine⟨Rd.of_blk (cs:=QdE [⟨A1,n1,c1,x1,0⟩]) hb trivial rfl (by omega) (by decide),fun x hx=> ?_⟩
  simp at hx
  subst hx
  exact h1.sub fun _ _ _=>trivial
theorem YE.two{g:Nat}{t:TypeId}{S1 S2:Nat→Prop}{A1 A2:Option Addr}{n1 c1 n2 c2:Nat}{x1 x2:List Int}(hb:Blk w g t [.slice A1 n1 c1,.slice A2 n2 c2])(h1:YR w S1 A1 n1 c1 x1)(h2:YR w S2 A2 n2 c2 x2):YE w (fun _=>True) (some ⟨g,0,none⟩) 2 2 [⟨A1,n1,c1,x1,0⟩,⟨A2,n2,c2,x2,0⟩]:=by
  refine⟨Rd.of_blk (cs:=QdE [⟨A1,n1,c1,x1,0⟩,⟨A2,n2,c2,x2,0⟩]) hb trivial rfl (by omega) (by decide),fun x hx=> ?_⟩
  simp at hx
  rcases hx with rfl|rfl
  · exact h1.sub fun _ _ _=>trivial
  · exact h2.sub fun _ _ _=>trivial
end
def Qmq(T:Nat→Prop)(w:World)(B:Nat)(el:TypeId)(A:Option Addr)(n c:Nat)(l:List IE):Prop:=Own w B el 2 A n c (ZW l)∧Qv8 w (fun b=>T b∧Qiq A b) l
section
variable{T:Nat→Prop}{w w':World}{B:Nat}{el:TypeId}{A:Option Addr}{n c:Nat}{l:List IE}
theorem Qmq.nil:Qmq T w B el none 0 0 []:=⟨Own.nil,fun f hf=>by cases hf⟩
theorem Qmq.ext(h:Qmq T w B el A n c l)(k:Ext w w'):Qmq T w' B el A n c l:=⟨h.1.ext k,fun f hf=>(h.2 f hf).ext k⟩
theorem Qmq.t(h:Qmq T w B el A n c l)(f:Ext w w':=by exact zrd):Qmq T w' B el A n c l:=h.ext f
theorem Qmq.len(h:Qmq T w B el A n c l):l.length=n:=by have :=h.1.1;rw[Qby] at this;omega
theorem Qmq.close{g:Nat}{sp:List Value}(hb:B≤g)(h:Blk w g el (ZW l++sp))(hl:(ZW l++sp).length=c*2)(hn:l.length=n)(hnc:n≤c)(hm:c≤Qax)(ha:Qv8 w (fun b=>T b∧b≠g) l):Qmq T w B el (some ⟨g,0,none⟩) n c l:=by
  refine⟨⟨by rw[Qby,hn],.inr ⟨g,c,(ZW l++sp).toArray,rfl,hb,h,hnc,hm,by simpa using hl,?_⟩⟩,fun f hf=>(ha f hf).sub fun b _ hb=>⟨hb.1,fun a ha' e=>by cases ha';exact hb.2 e.symm⟩⟩
  have :(ZW l).length=n*2:=by rw[Qby,hn]
  rw[List.toList_toArray,←this,List.take_left]
end
section
variable{dfs:List Deferred}{P:Program}{n:Nat}{e:Nat→Value}{w:World}{K:Act→World→Prop}{Q:Exit→Act→World→Prop}{ty:TypeId}{pos:String}{af:Array Edge}{gd:Option (Nat×Bool)}
end
end Go.Gx
namespace Go.Gx
open Go.RowKit
structure LK (α:Type) where
  v:α→Value
  R:World→(Nat→Prop)→α→Prop
  one: ∀a,(v a).oneCell'=true
  frmB: ∀{w w':World}{S G:Nat→Prop}{a:α},R w S a→Frm G w w'→(∀b,b<w.heap.size→S b→ ¬G b)→R w' S a
  ext: ∀{w w':World}{S:Nat→Prop}{a:α},R w S a→Ext w w'→R w' S a
  sub: ∀{w:World}{S S':Nat→Prop}{a:α},R w S a→(∀b,b<w.heap.size→S b→S' b)→R w S' a
def Yv{α:Type}(L:LK α)(w:World)(S:Nat→Prop)(A:Option Addr)(n c:Nat)(l:List α):Prop:=Rd w S A n c 1 (l.map L.v)∧ ∀f∈l,L.R w S f
section
variable{α:Type}{L:LK α}{w w':World}{S S' G:Nat→Prop}{A:Option Addr}{n c:Nat}{l:List α}
theorem Yv.frmB(h:Yv L w S A n c l)(f:Frm G w w')(hd: ∀b,b<w.heap.size→S b→ ¬G b):Yv L w' S A n c l:=⟨h.1.frmB f hd,fun x hx=>L.frmB (h.2 x hx) f hd⟩
theorem Yv.t(h:Yv L w S A n c l)(f:Frm G w w':=by exact zrd)(hd: ∀b,b<w.heap.size→S b→ ¬G b:=by exact zq6):Yv L w' S A n c l:=h.frmB f hd
theorem Yv.ext(h:Yv L w S A n c l)(f:Ext w w'):Yv L w' S A n c l:=⟨h.1.ext f,fun x hx=>L.ext (h.2 x hx) f⟩
theorem Yv.sub(h:Yv L w S A n c l)(hs: ∀b,b<w.heap.size→S b→S' b):Yv L w S' A n c l:=⟨h.1.sub hs,fun x hx=>L.sub (h.2 x hx) hs⟩
theorem Yv.low(h:Yv L w S A n c l):Yv L w (· <w.heap.size) A n c l:=h.sub fun _ hb _=>hb
theorem Yv.nil:Yv L w S none 0 0 []:=⟨Rd.nil,fun f hf=>by cases hf⟩
theorem Yv.len(h:Yv L w S A n c l):l.length=n:=by have :=h.1.1;simp at this;omega
theorem Yv.base(h:Yv L w S A n c l)(hn:0<n): ∃b off,A=some ⟨b,off,none⟩:=h.1.base hn
theorem Yv.at_{b off i:Nat}(h:Yv L w S (some ⟨b,off,none⟩) n c l)(hi:i<n):
    ∃f,l[i]? =some f∧w.cell? ⟨b,off+i,none⟩=some (L.v f)∧L.R w S f∧S b∧b<w.heap.size:=by
  have hl:i<l.length:=by rw[h.len];exact hi
  obtain⟨b',off',e,hS,hb,_⟩:=h.1.2.2.2 (by omega)
  injection e with e
  injection e with e1 e2
  subst e1 e2
  obtain⟨r,hr⟩: ∃r,l[i]? =some r:=⟨_,List.getElem?_eq_getElem hl⟩
  have hc:(l.map L.v)[i]? =some (L.v r):=by simp [hr]
  exact⟨r,hr,h.1.cell hc,h.2 _ (List.mem_of_getElem? hr),hS,hb⟩
end
def Qpq{α:Type}(L:LK α)(w:World)(B:Nat)(el:TypeId)(A:Option Addr)(n c:Nat)(l:List α):Prop:=Own w B el 1 A n c (l.map L.v)∧ ∀f∈l,L.R w (fun b=>Qiq A b) f
section
variable{α:Type}{L:LK α}{w w':World}{B:Nat}{el:TypeId}{A:Option Addr}{n c:Nat}{l:List α}
theorem Qpq.nil:Qpq L w B el none 0 0 []:=⟨Own.nil,fun f hf=>by cases hf⟩
theorem Qpq.ext(h:Qpq L w B el A n c l)(k:Ext w w'):Qpq L w' B el A n c l:=⟨h.1.ext k,fun f hf=>L.ext (h.2 f hf) k⟩
theorem Qpq.t(h:Qpq L w B el A n c l)(f:Ext w w':=by exact zrd):Qpq L w' B el A n c l:=h.ext f
theorem Qpq.len(h:Qpq L w B el A n c l):l.length=n:=by have :=h.1.1;simp at this;omega
end
section
variable{dfs:List Deferred}{P:Program}{n:Nat}{e:Nat→Value}{w:World}{K:Act→World→Prop}{Q:Exit→Act→World→Prop}{ty:TypeId}{pos:String}{af:Array Edge}{gd:Option (Nat×Bool)}
end
structure Qja {α β:Type} (L:LK α) (L':LK β) (w:World) (B:Nat) (el el':TypeId) (A:Option Addr) (n c:Nat) (l:List α) (A':Option Addr) (n' c':Nat) (l':List β):Prop where
  a:Own w B el 1 A n c (l.map L.v)
  b:Own w B el' 1 A' n' c' (l'.map L'.v)
  ea: ∀f∈l,L.R w (fun b=>Qiq A b∧Qiq A' b) f
  eb: ∀f∈l',L'.R w (fun b=>Qiq A b∧Qiq A' b) f
  s: ∀x y,A=some x→A'=some y→x.block≠y.block
section
variable{α β:Type}{L:LK α}{L':LK β}{w w':World}{B:Nat}{el el':TypeId}{A A':Option Addr}{n c n' c':Nat}{l:List α}{l':List β}
theorem Qja.nil:Qja L L' w B el el' none 0 0 [] none 0 0 []:=⟨Own.nil,Own.nil,fun f hf=>(by cases hf),fun f hf=>(by cases hf),fun x y h=>(by cases h)⟩
theorem Qja.ext(h:Qja L L' w B el el' A n c l A' n' c' l')(k:Ext w w'):Qja L L' w' B el el' A n c l A' n' c' l':=⟨h.a.ext k,h.b.ext k,fun f hf=>L.ext (h.ea f hf) k,fun f hf=>L'.ext (h.eb f hf) k,h.s⟩
theorem Qja.t(h:Qja L L' w B el el' A n c l A' n' c' l')(f:Ext w w':=by exact zrd):Qja L L' w' B el el' A n c l A' n' c' l':=h.ext f
theorem Qja.swap(h:Qja L L' w B el el' A n c l A' n' c' l'):Qja L' L w B el' el A' n' c' l' A n c l:=
  ⟨h.b,h.a,fun f hf=>L'.sub (h.eb f hf) fun _ _ hs=>⟨hs.2,hs.1⟩,fun f hf=>L.sub (h.ea f hf) fun _ _ hs=>⟨hs.2,hs.1⟩,fun x y hx hy e=>h.s y x hy hx e.symm⟩
theorem Qja.left(h:Qja L L' w B el el' A n c l A' n' c' l'):Yv L w (fun b=>b<w.heap.size) A n c l:=⟨h.a.rd.sub fun _ hb _=>hb,fun f hf=>L.sub (h.ea f hf) fun _ hb _=>hb⟩
theorem Qja.right(h:Qja L L' w B el el' A n c l A' n' c' l'):Yv L' w (fun b=>b<w.heap.size) A' n' c' l':=h.swap.left
end
section
variable{dfs:List Deferred}{P:Program}{n:Nat}{e:Nat→Value}{w:World}{K:Act→World→Prop}{Q:Exit→Act→World→Prop}{ty:TypeId}{pos:String}{af:Array Edge}{gd:Option (Nat×Bool)}
end
structure LE where
  A:Option Addr
  n:Nat
  c:Nat
  f:List IE
def LE.m(x:LE):List (List Int×Int):=x.f.map IE.m
end Go.Gx
namespace Go.Gx
open Go.RowKit
structure NE where
  A:Option Addr
  n:Nat
  c:Nat
  d:List Nat
def NE.zero:NE:=⟨none,0,0,[]⟩
section
variable{α:Type}{L:LK α}{w:World}{S:Nat→Prop}{A:Option Addr}{n c:Nat}{l:List α}
theorem Yv.take{m:Nat}(h:Yv L w S A n c l)(hm:m≤n):Yv L w S A m c (l.take m):=by
  refine⟨?_,fun f hf=>h.2 f (List.mem_of_mem_take hf)⟩
  have :=h.1.take hm
  rw[Nat.mul_one,←List.map_take] at this
  exact this
theorem Yv.of_blk{g:Nat}{t:TypeId}(h:Blk w g t (l.map L.v))(ha: ∀f∈l,L.R w S f)(hS:S g)(hl:l.length=n)(hc:n≤c)(hm:c≤Qax):Yv L w S (some ⟨g,0,none⟩) n c l:=
  ⟨Rd.of_blk h hS (by rw[List.length_map,hl,Nat.mul_one]) hc hm,ha⟩
end
def QhO(w:World)(S:Nat→Prop)(M:Nat)(l:List NE):Prop:= ∀r∈l,Qay w S r.A r.n r.c r.d∧r.n≤M
section
variable{w w':World}{S S' G:Nat→Prop}{M M':Nat}{l l':List NE}
theorem QhO.frmB(h:QhO w S M l)(f:Frm G w w')(hd: ∀b,b<w.heap.size→S b→ ¬G b):QhO w' S M l:=fun r hr=>⟨(h r hr).1.frmB f hd,(h r hr).2⟩
theorem QhO.t(h:QhO w S M l)(f:Frm G w w':=by exact zrd)(hd: ∀b,b<w.heap.size→S b→ ¬G b:=by exact zq6):QhO w' S M l:=h.frmB f hd
theorem QhO.ext(h:QhO w S M l)(f:Ext w w'):QhO w' S M l:=fun r hr=>⟨(h r hr).1.ext f,(h r hr).2⟩
theorem QhO.sub(h:QhO w S M l)(hs: ∀b,b<w.heap.size→S b→S' b):QhO w S' M l:=fun r hr=>⟨(h r hr).1.sub hs,(h r hr).2⟩
theorem QhO.nil:QhO w S M []:=fun r hr=>by cases hr
theorem QhO.app(h:QhO w S M l)(h':QhO w S M l'):QhO w S M (l++l'):=fun x hx=>by
  rcases List.mem_append.1 hx with h1|h1
  · exact h x h1
  · exact h' x h1
end
def Qfo(p:Nat)(g:List Nat)(i:Nat)(l:List (List Nat)):Nat→List Nat
  |0=>[1]
  |k+1=>if k=i then Qfo p g i l k else(XH p (XO p (Qau p (Qfo p g i l k) (l.getD k []))) (XO p g)).2
def Qji(p:Nat)(l:List (List Nat))(i:Nat):List Nat:=(Qb9 p (XO p (Qfo p (l.getD i []) i l l.length)) (XO p (l.getD i []))).2.1
def Qaq(p:Nat)(l:List (List Nat)):List (List Nat):=(List.range l.length).map (Qji p l)
end Go.Gx
