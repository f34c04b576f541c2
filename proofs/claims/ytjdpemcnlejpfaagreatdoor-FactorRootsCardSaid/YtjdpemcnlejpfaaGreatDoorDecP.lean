/-
  DecP, LiftThy7, RecThy, RecThy2, HgtMath, HgtWalk, XgMath, Known, Known2, FzThy, RetMath, LawLift
-/
import Derived.Test.YtjdpemcnlejpfaaGreatDoorGcdMath
import Derived.Test.YtjdpemcnlejpfaaGreatDoorLiftThy5
import Derived.Test.YtjdpemcnlejpfaaGreatDoorSepMath
import Derived.Test.YtjdpemcnlejpfaaGreatDoorNatMath
import Derived.Test.YtjdpemcnlejpfaaGreatDoorLiftThy
import Derived.Test.YtjdpemcnlejpfaaGreatDoorDivMath2
set_option linter.all false
namespace Go.Gx
structure DE (p:QP) (f:List Int×Nat):Prop where
  n:Nrm f.1
  d:2≤f.1.length
  k1:1≤f.2
  v: ∀π,Irr π→va π (P f.1)=if va π p=f.2 then 1 else 0
structure DL (p:QP) (k:Nat) (fs:List (List Int×Nat)):Prop where
  e: ∀f∈fs,DE p f
  lt: ∀f∈fs,f.2<k
  asc:fs.Pairwise fun a b=>a.2<b.2
  all: ∀π,Irr π→1≤va π p→va π p<k→ ∃f∈fs,f.2=va π p
theorem DL.nil{p:QP}:DL p 1 []:=⟨by simp,by simp,List.Pairwise.nil,fun π hπ h1 h2=>by omega⟩
theorem DL.skip{p g:QP}{k:Nat}{fs:List (List Int×Nat)}(h:DL p k fs)(hg:dg g≤1)(g0:g≠0)(vg: ∀π,Irr π→va π g=if va π p=k then 1 else 0):DL p (k+1) fs:=by
  refine⟨h.e,fun f hf=>by have :=h.lt f hf;omega,h.asc,fun π hπ h1 h2=> ?_⟩
  by_cases hk:va π p=k
  · have h3:=vg π hπ
    rw[if_pos hk] at h3
    have :=QfZ hπ g0
    omega
  · exact h.all π hπ h1 (by omega)
theorem DL.more{p:QP}{k:Nat}{fs:List (List Int×Nat)}{f:List Int×Nat}(h:DL p k fs)(hf:DE p f)(hk:f.2=k):DL p (k+1) (fs++[f]):=by
  refine⟨fun x hx=> ?_,fun x hx=> ?_,?_,fun π hπ h1 h2=> ?_⟩
  · rcases List.mem_append.1 hx with h3|h3
    · exact h.e x h3
    · simp at h3;subst h3;exact hf
  · rcases List.mem_append.1 hx with h3|h3
    · have :=h.lt x h3;omega
    · simp at h3;subst h3;omega
  · refine List.pairwise_append.2 ⟨h.asc,List.pairwise_singleton _ _,fun a ha b hb=> ?_⟩
    simp at hb;subst hb;rw[hk];exact h.lt a ha
  · by_cases h3:va π p=k
    · exact⟨f,by simp,by rw[hk,h3]⟩
    · obtain⟨x,hx,e⟩:=h.all π hπ h1 (by omega)
      exact⟨x,List.mem_append_left _ hx,e⟩
noncomputable def Qfw:List (List Int×Nat)→QP
  | []=>1
  |f::fs=>P f.1^f.2*Qfw fs
theorem Qfx: ∀fs:List (List Int×Nat),(∀f∈fs,Nrm f.1)→ ∃b,Nrm b∧P b=Qfw fs
  | [],_=>⟨[1],Nrm.one,QP.eq fun x=>by simp only[Qfw,v_P,v_1,evQ];rw[Yt];grind⟩
  |f::fs,h=>by
    obtain⟨b,hb,e⟩:=Qfx fs fun x hx=>h x (by simp [hx])
    obtain⟨a,ha,e'⟩:=(h f (by simp)).pow f.2
    exact⟨Xa (Xg a b),ha.mul hb,by rw[Yf,Zb,e,e'];rfl⟩
theorem QhK{p π:QP}(hπ:Irr π): ∀fs:List (List Int×Nat),(∀f∈fs,DE p f)→fs.Pairwise (fun a b=>a.2<b.2)→((∃f∈fs,f.2=va π p)→va π (Qfw fs)=va π p)∧((∀f∈fs,f.2≠va π p)→va π (Qfw fs)=0)
  | [],_,_=>⟨fun⟨f,hf,_⟩=>absurd hf (by simp),fun _=>Qv2 hπ (by decide)⟩
  |f::fs,h,ha=>by
    have⟨ih1,ih2⟩:=QhK hπ fs (fun x hx=>h x (by simp [hx])) (List.pairwise_cons.1 ha).2
    have hf:=h f (by simp)
    obtain⟨b,hb,e⟩:=Qfx fs fun x hx=>(h x (by simp [hx])).n
    have hm:va π (Qfw (f::fs))=f.2*va π (P f.1)+va π (Qfw fs):=by
      show va π (P f.1^f.2*Qfw fs)=_
      rw[Qaz hπ (ZP hf.n.ne _) (by rw[←e];exact hb.ne),QgC hπ hf.n.ne]
    have hv:=hf.v π hπ
    constructor
    · rintro⟨x,hx,ex⟩
      rcases List.mem_cons.1 hx with h1|h1
      · subst h1
        rw[if_pos ex.symm] at hv
        rw[hm,hv,ih2 fun y hy=>by have :=(List.pairwise_cons.1 ha).1 y hy;omega]
        omega
      · have :f.2≠va π p:=by have :=(List.pairwise_cons.1 ha).1 x h1;omega
        rw[if_neg fun e'=>this e'.symm] at hv
        rw[hm,hv,ih1 ⟨x,h1,ex⟩];omega
    · intro hn
      rw[if_neg fun e'=>hn f (by simp) e'.symm] at hv
      rw[hm,hv,ih2 fun y hy=>hn y (by simp [hy])];omega
theorem DL.prod{p:List Int}{k:Nat}{fs:List (List Int×Nat)}(h:DL (P p) k fs)(hp:Nrm p)(hd: ∀π,Irr π→va π (P p)<k):Qfw fs=P p:=by
  obtain⟨b,hb,e⟩:=Qfx fs fun x hx=>(h.e x hx).n
  have :b=p:=hb.eq_va hp fun π hπ=>by
    have⟨h1,h2⟩:=QhK hπ fs h.e h.asc
    rw[e]
    rcases Nat.eq_zero_or_pos (va π (P p)) with h0|h0
    · rw[h2 fun f hf=>by have :=(h.e f hf).k1;omega,h0]
    · exact h1 (h.all π hπ h0 (hd π hπ))
  rw[←e,this]
theorem DE.sqf{p:QP}{f:List Int×Nat}(h:DE p f):InI (P f.1) (der (P f.1)) 1:=(Qav h.n.ne).2 fun π hπ=>by rw[h.v π hπ];split<;>omega
theorem DE.new{p rest other U:QP}{k:Nat}{l:List Int}(h:Yun p k rest other U)(hg:Qcv rest other (P l))(hn:Nrm l)(hd:2≤l.length)(hk:1≤k):DE p (l,k):=⟨hn,hd,hk,fun π hπ=>(h.gcd hg).2 π hπ⟩
theorem QpZ{p rest other U:QP}{k:Nat}(h:Yun p k rest other U)(h2:2≤dg rest):2≤dg U:=by
  obtain⟨π,hπ,hd⟩:=Qbl h2
  have h1:=(XM hπ h.r0).1 hd
  have h3:=QfZ hπ h.u0
  rw[h.vr π hπ] at h1
  rw[h.vu π hπ] at h3
  have :k≤va π p:=by apply Classical.byContradiction;intro hn;rw[if_neg hn] at h1;omega
  omega
def QwY(F:List Int)(u:Int)(fs:List (List Int×Nat)):Prop:=P F≠0∧u=Yc F∧(∃k,DL (P (Xr F)) k fs)∧Qfw fs=P (Xr F)
end Go.Gx
namespace Go.Gx
theorem Qkp(x:Int): ∀(L:List (List Int))(p:List Int),evI (Qba p L) x=evI p x*evI (pL L) x
  | [],p=>by simp [Qba,pL,evI]
  |g::L,p=>by
    have h1:Qba p (g::L)=Qba (Xa (Xg p g)) L:=by unfold Qba;rw[List.foldl_cons]
    rw[h1,Qkp x L,QaD,Xc,pL,Xc];grind
theorem QcC{c m z:Int}(h:Int.gcd c m=1)(hd:m∣c*z):m∣z:=by
  have h1:m.natAbs∣c.natAbs*z.natAbs:=by rw[←Int.natAbs_mul];exact Int.natAbs_dvd_natAbs.2 hd
  have h2:Nat.Coprime m.natAbs c.natAbs:=by rw[Nat.Coprime,Nat.gcd_comm];exact h
  exact Int.natAbs_dvd_natAbs.1 (h2.dvd_of_dvd_mul_left h1)
theorem Fit.len{p:Int}{as bs:List (List Int)}(h:Fit p as bs):as.length=bs.length:=by
  induction h with
  |nil=>rfl
  |cons _ _ _ _ _ ih=>simp [ih]
theorem Fit.at{p:Int}{as bs:List (List Int)}(h:Fit p as bs): ∀(i:Nat)(a b:List Int),as[i]? =some a→bs[i]? =some b→ ∃d,Mon a d∧Mon b d∧CgV p a b:=by
  induction h with
  |nil=>intro i a b h;simp at h
  |cons d ha hb h t ih=>
    intro i a b h1 h2
    cases i with
    |zero=>simp at h1 h2;subst h1 h2;exact⟨d,ha,hb,h⟩
    |succ i=>simp at h1 h2;exact ih i a b h1 h2
theorem Mon.same{f:List Int}{a b:Nat}(h:Mon f a)(g:Mon f b):a=b:=by
  rcases Nat.lt_trichotomy a b with h1|h1|h1
  · have :=h.2 b h1;rw[g.1] at this;cases this
  · exact h1
  · have :=g.2 a h1;rw[h.1] at this;cases this
theorem Fit.trans{p:Int}{as bs:List (List Int)}(h:Fit p as bs): ∀{cs:List (List Int)},Fit p bs cs→Fit p as cs:=by
  induction h with
  |nil=>intro cs h;exact h
  |cons d ha hb h t ih=>
    intro cs hc
    cases hc with
    |cons d' hb' hc' h' t'=>
      obtain rfl:=hb.same hb'
      exact .cons d ha hc' (h.trans h') (ih t')
theorem QtE{p d:Nat}(hp:2≤p){g:List Int}(h:Mon g d)(hd:1≤d):Zw p (XR p g)∧(XR p g).length=d+1:=by
  have hp0:0<p:=by omega
  have hco: ∀i,(XR p g).getD i 0=md p (co g i):=fun i=>by
    have h1:co (zl (XR p g)) i=((md p (co g i):Nat):Int):=by rw[XR,Qbf,ZK g i (Yb p)]
    rw[ZS] at h1;exact_mod_cast h1
  have hone:md p 1=1:=by simp [md];rw[Int.emod_eq_of_lt (by omega) (by omega)];rfl
  have hc:=XK hp0 g
  have hl:(XR p g).length=d+1:=by
    rcases Nat.lt_trichotomy (XR p g).length (d+1) with h1|h1|h1
    · exfalso
      have h2:=hco d
      rw[h.1,hone,List.getD,List.getElem?_eq_none (by omega)] at h2
      cases h2
    · exact h1
    · exfalso
      have h2:=(hc.last (by omega)).1
      rw[hco,h.2 _ (by omega),Yb] at h2
      omega
  exact⟨⟨hc,by omega,by rw[hl,Nat.add_sub_cancel,hco,h.1,hone]⟩,hl⟩
theorem Qgq{p:Nat}(hp:2≤p){d:List Nat}(h:Zw p d):XS p (XO p d)=d:=by
  have h2:=h.pos
  have h1:ZL p 1=1:=Qjx (by omega) (by omega) (by rw[Nat.one_mul])
  rw[h.can.nrm]
  unfold XS XW
  rw[if_neg (by omega),h.one,h1]
  have h3:d.map (fun a=>a*1 % p)=d:=by
    refine(List.map_congr_left fun a ha=> ?_).trans (List.map_id d)
    rw[Nat.mul_one,Nat.mod_eq_of_lt (h.can.1 a ha)];rfl
  rw[Qbp,h3,h.can.trim]
end Go.Gx
namespace Go.Gx
theorem Qe8{f g h:List Int}(e:P f=P g*P h)(x:Int):evI f x=evI g x*evI h x:=by
  have h1:=qat e (x:Rat)
  simp only[Xq,v_P,Zn] at h1
  rw[←Rat.intCast_mul] at h1
  exact Rat.intCast_inj.1 h1
inductive Spl {α:Type}:List α→List α→List α→Prop
  |nil:Spl [] [] []
  |l {a:α} {Z S C:List α}:Spl Z S C→Spl (a::Z) (a::S) C
  |r {a:α} {Z S C:List α}:Spl Z S C→Spl (a::Z) S (a::C)
theorem Spl.len{α:Type}{Z S C:List α}(h:Spl Z S C):S.length+C.length=Z.length:=by
  induction h with
  |nil=>rfl
  |l _ ih=>simp;omega
  |r _ ih=>simp;omega
theorem Spl.swap{α:Type}{Z S C:List α}(h:Spl Z S C):Spl Z C S:=by
  induction h with
  |nil=>exact .nil
  |l _ ih=>exact .r ih
  |r _ ih=>exact .l ih
theorem Spl.mem{α:Type}{Z S C:List α}(h:Spl Z S C):(∀a∈S,a∈Z)∧ ∀a∈C,a∈Z:=by
  induction h with
  |nil=>simp
  |l _ ih=>exact⟨fun a ha=>by rcases List.mem_cons.1 ha with rfl|ha;simp;simp [ih.1 a ha],fun a ha=>by simp [ih.2 a ha]⟩
  |r _ ih=>exact⟨fun a ha=>by simp [ih.1 a ha],fun a ha=>by rcases List.mem_cons.1 ha with rfl|ha;simp;simp [ih.2 a ha]⟩
theorem Spl.all{α:Type}: ∀Z:List α,Spl Z Z []
  | []=> .nil
  |_::Z=> .l (Spl.all Z)
theorem Spl.comp{α:Type}{Z S C:List α}(h:Spl Z S C): ∀{T U:List α},Spl S T U→ ∃V,Spl Z T V:=by
  induction h with
  |nil=>intro T U k;cases k;exact⟨_,.nil⟩
  |l _ ih=>
    intro T U k
    cases k with
    |l k=>obtain⟨V,hV⟩:=ih k;exact⟨V,.l hV⟩
    |r k=>obtain⟨V,hV⟩:=ih k;exact⟨_,.r hV⟩
  |r _ ih=>intro T U k;obtain⟨V,hV⟩:=ih k;exact⟨_,.r hV⟩
theorem Spl.map{α β:Type}(f:α→β){Z S C:List α}(h:Spl Z S C):Spl (Z.map f) (S.map f) (C.map f):=by
  induction h with
  |nil=>exact .nil
  |l _ ih=>exact .l ih
  |r _ ih=>exact .r ih
theorem Spl.prod{Z S C:List (List Int)}(h:Spl Z S C)(x:Int):evI (pL Z) x=evI (pL S) x*evI (pL C) x:=by
  induction h with
  |nil=>simp [pL,evI]
  |l _ ih=>simp only[pL,Xc,ih];grind
  |r _ ih=>simp only[pL,Xc,ih];grind
theorem Pw.spl{p:Int}{Z S C:List (List Int)}(h:Spl Z S C):Pw p Z→(∀s∈S,∀c∈C,Cop p s c)∧Pw p S∧Pw p C:=by
  induction h with
  |nil=>exact fun _=>⟨by simp,trivial,trivial⟩
  |l k ih=>
    rintro⟨h1,h2⟩
    have⟨a,b,c⟩:=ih h2
    refine⟨fun s hs d hd=> ?_,⟨fun d hd=>h1 d (k.mem.1 d hd),b⟩,c⟩
    rcases List.mem_cons.1 hs with rfl|hs
    · exact h1 d (k.mem.2 d hd)
    · exact a s hs d hd
  |r k ih=>
    rintro⟨h1,h2⟩
    have⟨a,b,c⟩:=ih h2
    refine⟨fun s hs d hd=> ?_,b,⟨fun d hd=>h1 d (k.mem.2 d hd),c⟩⟩
    rcases List.mem_cons.1 hd with rfl|hd
    · exact(h1 s (k.mem.1 s hs)).symm
    · exact a s hs d hd
theorem Pw.cop{p:Int}{Z S C:List (List Int)}(h:Spl Z S C)(hw:Pw p Z):Cop p (pL S) (pL C):=
  Cop.prod fun c hc=>(Cop.prod fun s hs=>((Pw.spl h hw).1 s hs c hc).symm).symm
structure LZ (p:Nat) (z:List Int×List Nat):Prop where
  mon:Zw p z.2
  whole:Whole p z.2
  up: ∃d,Mon z.1 d∧Mon (zl z.2) d
  cg:CgV (p:Int) z.1 (zl z.2)
abbrev LZs:=List (List Int×List Nat)
def pA(Z:LZs):List Int:=pL (Z.map (·.1))
def pB(Z:LZs):List Int:=pL (Z.map fun z=>zl z.2)
theorem pAB{p:Nat}: ∀{Z:LZs},(∀z∈Z,LZ p z)→ ∃d,Mon (pA Z) d∧Mon (pB Z) d∧CgV (p:Int) (pA Z) (pB Z)∧Z.length≤d
  | [],_=>⟨0,Qat,Qat,CgV.refl _ _,Nat.le_refl _⟩
  |z::Z,h=>by
    obtain⟨e,h1,h2,h3,h4⟩:=pAB (Z:=Z) fun y hy=>h y (by simp [hy])
    have hz:=h z (by simp)
    obtain⟨d,k1,k2⟩:=hz.up
    refine⟨d+e,k1.mul h1,k2.mul h2,hz.cg.mul h3,?_⟩
    have :1≤d:=by
      have h5:=hz.mon.mz
      have h6:=hz.mon.pos
      apply Nat.le_of_not_lt
      intro hn
      have :co (zl z.2) (z.2.length -1)=0:=k2.2 _ (by omega)
      rw[h5.1] at this;omega
    simp;omega
theorem QjH{p:Nat}(hp:Xk p): ∀{Z:LZs}{g:List Nat},(∀z∈Z,LZ p z)→Mn p g→Dv (p:Int) (zl g) (pB Z)→ ∃S C,Spl Z S C∧CgV (p:Int) (zl g) (pB S)
  | [],g,_,hg,hd=>by
    have h0:=Qa1 hp.1 hg.mz Qat hd
    have hg':Mon (zl g) 0:=by have :=hg.mz;rwa [show g.length -1=0 by omega] at this
    exact⟨[],[],.nil,(Qg2 Qat hg' hd).symm⟩
  |z::Z,g,hz,hg,hd=>by
    have hzz:=hz z (by simp)
    have hz': ∀y∈Z,LZ p y:=fun y hy=>hz y (by simp [hy])
    rcases Qp0 hp hzz.mon hzz.whole (zl g) with h|h
    · obtain⟨S,C,h1,h2⟩:=QjH hp hz' hg (ZB h.symm hd)
      exact⟨S,z::C,h1.r,h2⟩
    · obtain⟨q,r,hq⟩: ∃q r,XH p g z.2=(q,r):=⟨_,_,rfl⟩
      obtain⟨m1,⟨l,hl⟩,m3⟩:=QaM hp hg hzz.mon h hq
      have hd':Dv (p:Int) (zl q) (pB Z):=by
        obtain⟨w,k,hk⟩:=hd
        have e:CgV (p:Int) (Xg (zl z.2) (XD (pB Z) (Xg w (zl q)))) []:=by
          refine⟨Xx k (Xg w l),fun x=> ?_⟩
          have a1:=hk x;have a2:=hl x
          simp only[pB,List.map,pL,Xc,Xh,Xd,evI] at a1 a2⊢
          grind
        obtain⟨k,hk⟩:=YM hzz.mon.mz e (fun i _=>by simp [co])
        exact⟨w,k,fun x=>by have :=hk x;simp only[Xh,Xc,evI] at this⊢;omega⟩
      obtain⟨S,C,h1,k,hk⟩:=QjH hp hz' m1 hd'
      refine⟨z::S,C,h1.l,Xx l (Xg (zl z.2) k),fun x=> ?_⟩
      have a1:=hk x;have a2:=hl x
      simp only[pB,List.map,pL,Xc,Xd] at a1 a2⊢
      grind
theorem QeO{m c:Int}{X Y:List Int}(hc:Int.gcd c m=1)(h:CgV m (Xf X c) (Xf Y c)):CgV m X Y:=CgV.of fun i=>by
  obtain⟨t,ht⟩:=h.cof i
  rw[Xi,Xi] at ht
  exact QcC hc ⟨t,by rw[Int.mul_sub,Int.mul_comm c,Int.mul_comm c];omega⟩
theorem Qvh{c m:Int}(h:Int.gcd c m=1): ∃v k:Int,v*c=1+m*k:=by
  obtain⟨u,v,e⟩:=bez c.natAbs m.natAbs
  have e1:Nat.gcd c.natAbs m.natAbs=1:=h
  rw[e1] at e
  obtain⟨s,hs⟩: ∃s:Int,(c.natAbs:Int)=s*c:=by
    rcases Int.natAbs_eq c with h|h
    · exact⟨1,by omega⟩
    · exact⟨-1,by omega⟩
  obtain⟨t,ht⟩: ∃t:Int,(m.natAbs:Int)=t*m:=by
    rcases Int.natAbs_eq m with h|h
    · exact⟨1,by omega⟩
    · exact⟨-1,by omega⟩
  exact⟨u*s,-(v*t),by rw[hs,ht] at e;simp only[Int.natCast_one] at e;grind⟩
theorem Qgp{m:Int}{g:List Int}(hc:Int.gcd (ldP g) m=1)(h0:ldP g≠0): ∃A d,Mon A d∧(Xa g).length=d+1∧CgV m (Xf A (ldP g)) g:=by
  obtain⟨d,hd⟩:=Qa5 h0
  have⟨h1,h2,_⟩:=Zj hd
  obtain⟨v,k,hv⟩:=Qvh hc
  have hco: ∀i,co ((List.range (d+1)).map fun i=>if i=d then 1 else v*co g i) i=if i<d+1 then(if i=d then 1 else v*co g i) else 0:=fun i=>by
    unfold co
    by_cases hi:i<d+1
    · simp [List.getD,hi]
    · simp [List.getD,hi]
  refine⟨(List.range (d+1)).map fun i=>if i=d then 1 else v*co g i,d,⟨by rw[hco];simp,fun i hi=>by rw[hco,if_neg (by omega)]⟩,hd,CgV.of fun i=> ?_⟩
  rw[Xi,hco]
  by_cases hi:i<d+1
  · rw[if_pos hi]
    by_cases he:i=d
    · rw[if_pos he,he,h1];exact⟨0,by omega⟩
    · rw[if_neg he];exact⟨k*co g i,by
          have :v*co g i*ldP g=(v*ldP g)*co g i:=by grind
          rw[this,hv];grind⟩
  · rw[if_neg hi,h2 i (by omega)];exact⟨0,by omega⟩
theorem Qvz{p a:Nat}(hp:2≤p){A:List Int}(h:Mon A a): ∃g,Mn p g∧CgV (p:Int) (zl g) A:=by
  by_cases h0:a=0
  · subst h0
    exact⟨[1],⟨⟨fun d hd=>by simp at hd;omega,fun _=>by simp⟩,by simp,rfl⟩,CgV.eqv fun x=>by rw[QnX h];simp [zl,evI]⟩
  · exact⟨XR p A,(QtE hp h (by omega)).1.mn,YW (by omega) A⟩
theorem QnW{p a b:Nat}(hp:2≤p){A B:List Int}(hA:Mon A a)(hB:Mon B b)(h:CgV (p:Int) A B):a=b:=by
  have h1:=Qa1 hp hA hB ⟨[1],h.symm.trans (CgV.eqv fun x=>by simp [Xc,evI])⟩
  have h2:=Qa1 hp hB hA ⟨[1],h.trans (CgV.eqv fun x=>by simp [Xc,evI])⟩
  omega
theorem QaZ{p N:Nat}(hp:Xk p){c:Int}(h:md p c≠0):Int.gcd c ((p^N:Nat):Int)=1:=QgU hp h
theorem Qbn{p:Nat}{a b:Int}(hp:0<p)(h:md p (a*b)≠0):md p a≠0∧md p b≠0:=by
  constructor<;>intro h0<;>apply h
  · rw[Qfm hp (show Cg p (a*b) 0 from by
      have h1:Cg p a 0:=QcZ hp (by rw[h0,Yb])
      have :=h1.mul (Cg.refl p b);rwa [Int.zero_mul] at this),Yb]
  · rw[Qfm hp (show Cg p (a*b) 0 from by
      have h1:Cg p b 0:=QcZ hp (by rw[h0,Yb])
      have :=(Cg.refl p a).mul h1;rwa [Int.mul_zero] at this),Yb]
theorem QcH{f g h:List Int}(e:P f=P g*P h):ldP f=ldP g*ldP h:=by rw[←Zb] at e;rw[Qcg e,QnJ]
theorem Qof{Z S C:LZs}(h:Spl Z S C)(x:Int):evI (pA Z) x=evI (pA S) x*evI (pA C) x:=Spl.prod (h.map (Prod.fst (α:=List Int) (β:=List Nat))) x
theorem Qfp{p N:Nat}(hp:Xk p){Z:LZs}{f g h:List Int}(hz: ∀z∈Z,LZ p z)(hw:Pw (p:Int) (Z.map fun z=>zl z.2))(hN:1≤N)(hl:md p (ldP f)≠0)(hc:CgV ((p^N:Nat):Int) (Xf (pA Z) (ldP f)) f)(e:P f=P g*P h):
    ∃S C,Spl Z S C∧CgV ((p^N:Nat):Int) (Xf (pA S) (ldP g)) g∧CgV ((p^N:Nat):Int) (Xf (pA C) (ldP h)) h:=by
  have hp2:=hp.1
  have hp0:0<p:=by omega
  have el:=QcH e
  have hl2:=hl
  rw[el] at hl2
  obtain⟨lg,lh⟩:=Qbn hp0 hl2
  have ng:ldP g≠0:=fun h0=>lg (by rw[h0];exact Yb p)
  have nh:ldP h≠0:=fun h0=>lh (by rw[h0];exact Yb p)
  obtain⟨A,a,hA,_,cA⟩:=Qgp (QaZ (N:=N) hp lg) ng
  obtain⟨B,b,hB,_,cB⟩:=Qgp (QaZ (N:=N) hp lh) nh
  have hAB:CgV ((p^N:Nat):Int) (Xg A B) (pA Z):=by
    refine QeO (QaZ (N:=N) hp hl) (CgV.trans ?_ hc.symm)
    obtain⟨s,hs⟩:=cA.mul cB
    refine⟨s,fun x=> ?_⟩
    have a1:=hs x
    rw[Qe8 e x]
    simp only[Xc,Xm] at a1⊢
    rw[el];grind
  have hdp:((p:Nat):Int)∣ ((p^N:Nat):Int):=by
    obtain⟨n,rfl⟩: ∃n,N=n+1:=⟨N -1,by omega⟩
    exact_mod_cast Nat.dvd_of_pow_dvd (Nat.le_refl 1) (by rw[Nat.pow_one];exact⟨p^n,by rw[Nat.pow_succ']⟩)
  obtain⟨g0,hg0,cg0⟩:=Qvz hp2 hA
  obtain⟨dz,_,_,hZ,_⟩:=pAB hz
  have hABp:=hAB.dvd hdp
  obtain⟨S,C,hS,cS⟩:=QjH hp hz hg0 (by
    refine⟨B,hZ.symm.trans (hABp.symm.trans ?_)⟩
    exact(CgV.comm A B).trans ((CgV.refl _ B).mul cg0.symm))
  obtain⟨dS,s1,s2,s3,_⟩:=pAB fun z hz'=>hz z (hS.mem.1 z hz')
  obtain⟨dC,c1,c2,c3,_⟩:=pAB fun z hz'=>hz z (hS.mem.2 z hz')
  have hAS:CgV (p:Int) A (pA S):=cg0.symm.trans (cS.trans s3.symm)
  obtain rfl:=QnW hp2 hA s1 hAS
  have hBC:CgV (p:Int) B (pA C):=by
    have h1:CgV (p:Int) (Xg (pA S) (XD B (pA C))) []:=by
      obtain⟨k,hk⟩:=hABp
      obtain⟨l,hl'⟩:=hAS
      refine⟨XD k (Xg l B),fun x=> ?_⟩
      have a1:=hk x;have a2:=hl' x
      rw[Qof hS x] at a1
      simp only[Xc,Xh,evI] at a1 a2⊢
      grind
    obtain⟨k,hk⟩:=YM s1 h1 (fun i _=>by simp [co])
    exact⟨k,fun x=>by have :=hk x;simp only[Xh,evI] at this;omega⟩
  obtain rfl:=QnW hp2 hB c1 hBC
  have hcop:Cop (p:Int) (pA S) (pA C):=(Pw.cop (hS.map fun z:List Int×List Nat=>zl z.2) hw).cg s3.symm c3.symm
  obtain⟨u,v,huv⟩:=hcop
  have⟨u1,u2⟩:=QwV hp0 hA s1 hB c1 hAS hBC huv (hAB.trans (CgV.eqv fun x=>by rw[Qof hS x,Xc])) N (Nat.le_refl _)
  exact⟨S,C,hS,(u1.symm.scale _).trans cA,(u2.symm.scale _).trans cB⟩
end Go.Gx
namespace Go.Gx
def HB(f:List Int)(m:Nat):Prop:= ∀g h:List Int,P f=P g*P h→ ∀i,2*(ldP f*co g i).natAbs<m
structure QeK (p N:Nat) (Z:LZs) (f:List Int):Prop where
  pr:Xk p
  n1:1≤N
  nrm:Nrm f
  lead:md p (ldP f)≠0
  z: ∀z∈Z,LZ p z
  pw:Pw (p:Int) (Z.map fun z:List Int×List Nat=>zl z.2)
  cg:CgV ((p^N:Nat):Int) (Xf (pA Z) (ldP f)) f
  hb:HB f (p^N)
def GoodS(p N:Nat)(f:List Int)(S:LZs)(g:List Int):Prop:=Nrm g∧2≤g.length∧(∃h,Nrm h∧P f=P g*P h)∧CgV ((p^N:Nat):Int) (Xf (pA S) (ldP g)) g
def QeH(m:Nat)(f:List Int)(S:LZs):List Int:=Zg m (Xf (pA S) (ldP f))
section
variable{p N:Nat}{Z:LZs}{f:List Int}
theorem QeK.two(I:QeK p N Z f):2≤p^N:=by
  have h1:=I.pr.1
  have h2:=I.n1
  calc 2≤p:=h1
    _=p^1:=(Nat.pow_one p).symm
    _≤p^N:=Nat.pow_le_pow_right (by omega) h2
theorem Qcw:P [1]=1:=QP.eq fun x=>by simp only[v_P,v_1,evQ];rw[Yt];grind
theorem QeK.ldb(I:QeK p N Z f):2*(ldP f).natAbs<p^N:=by
  have :=I.hb [1] f (by rw[Qcw,QbD]) 0
  simpa [co] using this
theorem QjK{F G:List Int}(h:P F=P G):Xr F=Xr G:=by
  unfold Xr Yc
  rw[QfO h,Qcg h,Qcd h]
theorem Ql9{g:List Int}(hg:Nrm g){c:Int}(hc:0<c):Xr (Xf g c)=g:=by
  have h0:P (Xf g c)≠0:=by rw[YF];exact QaT (Qpv (XC (by omega))) hg.ne
  have hl:=(Xz _).2 h0
  refine(YD h0).eq hg ?_ ?_
  · rw[QaK hl,Qdz (by have :=XC (Yi hl);grind),YF,Qdz (XC (by omega))];exact XL _
  · rw[QaK hl,Qjo (by have :=XC (Yi hl);grind),YF,Qjo (XC (by omega))];exact XL _
theorem GoodS.red(I:QeK p N Z f){S:LZs}{g h:List Int}(hg:Nrm g)(e:P f=P g*P h)(hc:CgV ((p^N:Nat):Int) (Xf (pA S) (ldP g)) g):
    (∀i,co (QeH (p^N) f S) i=ldP h*co g i)∧P (QeH (p^N) f S)=P (Xf g (ldP h)):=by
  have el:=QcH e
  have h1: ∀i,co (QeH (p^N) f S) i=ldP h*co g i:=fun i=>by
    unfold QeH
    rw[Zm,Xi]
    have hb:=I.hb g h e i
    have hle:(ldP h*co g i).natAbs≤(ldP f*co g i).natAbs:=by
      rw[el,Int.natAbs_mul,Int.natAbs_mul,Int.natAbs_mul]
      have h1:1≤(ldP g).natAbs:=by have :=hg.s;omega
      exact Nat.mul_le_mul_right _ (Nat.le_mul_of_pos_left _ h1)
    rw[←Qb6 (m:=p^N) (a:=ldP h*co g i) (by omega) (by omega)]
    obtain⟨k,hk⟩:=hc.cof i
    rw[Xi] at hk
    refine QdY ⟨ldP h*k,?_⟩
    rw[el,show co (pA S) i*(ldP g*ldP h)=(co (pA S) i*ldP g)*ldP h by grind,hk];grind
  exact⟨h1,QaJ fun i=>by rw[h1,Xi,Int.mul_comm]⟩
theorem GoodS.prim(I:QeK p N Z f){S:LZs}{g:List Int}(h:GoodS p N f S g):Xr (QeH (p^N) f S)=g:=by
  obtain⟨hg,_,⟨h,hh,e⟩,hc⟩:=h
  rw[QjK (GoodS.red I hg e hc).2,Ql9 hg hh.s]
theorem GoodS.deg(I:QeK p N Z f){S:LZs}{g:List Int}(h:GoodS p N f S g){d:Nat}(hd:Mon (pA S) d):g.length=d+1:=by
  obtain⟨hg,_,⟨h,hh,e⟩,hc⟩:=h
  obtain⟨b,hb⟩:=Qa5 (G:=g) (by have :=hg.s;omega)
  have⟨h1,h2,_⟩:=Zj hb
  rw[hg.t] at hb
  have hl:=I.lead
  rw[QcH e] at hl
  have hl:=(Qbn (by have :=I.pr.1;omega) hl).1
  have hgc:=QaZ (N:=N) I.pr hl
  have hdv: ∀i,((p^N:Nat):Int)∣ldP g*co (pA S) i -co g i:=fun i=>by
    obtain⟨k,hk⟩:=hc.cof i
    rw[Xi] at hk
    exact⟨k,by rw[Int.mul_comm (ldP g)];omega⟩
  have h2':=I.two
  rcases Nat.lt_trichotomy b d with hlt|heq|hgt
  · exfalso
    have :=hdv d
    rw[hd.1,h2 d hlt,Int.sub_zero] at this
    have :=QcC hgc this
    have :=Int.le_of_dvd (by omega) this
    omega
  · omega
  · exfalso
    have :=hdv b
    rw[hd.2 b hgt,h1,Int.mul_zero,Int.zero_sub] at this
    have h3:((p^N:Nat):Int)∣ldP g*1:=by rw[Int.mul_one];exact(Int.dvd_neg).1 this
    have :=QcC hgc h3
    have :=Int.le_of_dvd (by omega) this
    omega
theorem GoodS.cst(I:QeK p N Z f){S:LZs}{g:List Int}(h:GoodS p N f S g):YY (p^N) (ldP f*evI (pA S) 0)∣ldP f*evI f 0:=by
  obtain⟨hg,_,⟨h,hh,e⟩,hc⟩:=h
  have e0: ∀l:List Int,evI l 0=co l 0:=fun l=>by cases l<;>simp [evI,co]
  have h1:=(GoodS.red I hg e hc).1 0
  unfold QeH at h1
  rw[Zm,Xi,Int.mul_comm (co (pA S) 0)] at h1
  rw[e0,h1,Qe8 e 0,QcH e,e0,e0]
  exact⟨ldP g*co h 0,by grind⟩
theorem GoodS.dvd(I:QeK p N Z f){S:LZs}{g:List Int}(h:GoodS p N f S g):P (Xr (QeH (p^N) f S))∣P f:=by
  rw[h.prim I]
  obtain⟨_,_,⟨h,_,e⟩,_⟩:=h
  exact⟨P h,by rw[e,XT]⟩
theorem Qlr(I:QeK p N Z f){S:LZs}{d:Nat}(hd:Mon (pA S) d):(Xa (QeH (p^N) f S)).length=d+1∧ldP (QeH (p^N) f S)=ldP f:=by
  have hb:=I.ldb
  have h0:=I.nrm.s
  have e1:co (QeH (p^N) f S) d=ldP f:=by
    unfold QeH;rw[Zm,Xi,hd.1,Int.one_mul];exact Qb6 (by omega) (by omega)
  have e2: ∀i,d<i→co (QeH (p^N) f S) i=0:=fun i hi=>by
    unfold QeH;rw[Zm,Xi,hd.2 i hi,Int.zero_mul,Qbr]
  have e3:=QfH (l:=QeH (p^N) f S) (n:=d+1) (fun i hi=>e2 i (by omega)) (.inr (by rw[Nat.add_sub_cancel,e1];omega))
  exact⟨e3,by rw[← (Zj e3).1,e1]⟩
theorem Qr8(I:QeK p N Z f){S C:LZs}(hS:Spl Z S C)(hS1:1≤S.length){g r:List Int}(hg:g=Xr (QeH (p^N) f S))(e:P f=P r*P g)(ht:Xa r=r):GoodS p N f S g∧QeK p N C r∧ldP g*ldP r=ldP f:=by
  have hp2:=I.pr.1
  obtain⟨d,hd,_,_,hdl⟩:=pAB fun z hz=>I.z z (hS.mem.1 z hz)
  obtain⟨t1,t2⟩:=Qlr I hd
  have hl0:ldP (QeH (p^N) f S)≠0:=by rw[t2];have :=I.nrm.s;omega
  have hgn:Nrm g:=by rw[hg];exact YD ((Xz _).1 hl0)
  have hrn:Nrm r:=I.nrm.quo hgn.s e ht
  have e':P f=P g*P r:=by rw[e,XT]
  have el:=QcH e'
  have hl:=I.lead
  rw[el] at hl
  obtain⟨lg,lr⟩:=Qbn (by omega) hl
  obtain⟨k,hk⟩: ∃k,Yc (QeH (p^N) f S)=k:=⟨_,rfl⟩
  have hco: ∀i,k*co g i=co (QeH (p^N) f S) i:=fun i=>by rw[hg,←hk];exact QeW _ i
  have hkl:k*ldP g=ldP f:=by
    have h1:P (QeH (p^N) f S)=P (Xf g k):=QaJ fun i=>by rw[Xi,Int.mul_comm,hco]
    rw[←t2,Qcg h1,Qda,Int.mul_comm]
  have hlk:md p k≠0:=(Qbn (by omega) (by rw[hkl];exact I.lead)).1
  have hgS:CgV ((p^N:Nat):Int) (Xf (pA S) (ldP g)) g:=by
    refine QeO (c:=k) (QaZ (N:=N) I.pr hlk) (CgV.of fun i=> ?_)
    rw[Xi,Xi,Xi,Int.mul_comm (co g i),hco]
    unfold QeH
    rw[Zm,Xi,Int.mul_assoc,Int.mul_comm (ldP g),hkl]
    obtain⟨t,ht⟩:=QfF (p^N) (co (pA S) i*ldP f)
    exact⟨-t,by rw[ht];grind⟩
  have hlen:g.length=d+1:=by rw[hg,Yz,t1]
  have hrC:CgV ((p^N:Nat):Int) (Xf (pA C) (ldP r)) r:=by
    refine QeO (c:=ldP g) (QaZ (N:=N) I.pr lg) ?_
    have h1:CgV ((p^N:Nat):Int) (Xg (pA S) (XD (Xf r (ldP g)) (Xf (Xf (pA C) (ldP r)) (ldP g)))) []:=by
      obtain⟨a,ha⟩:=hgS
      obtain⟨b,hb⟩:=I.cg
      refine⟨XD (Xg a r) b,fun x=> ?_⟩
      have a1:=ha x;have a2:=hb x
      rw[Qe8 e' x] at a2
      simp only[Xc,Xh,Xm,evI,Qof hS x,el] at a1 a2⊢
      grind
    obtain⟨u,hu⟩:=YM hd h1 (fun i _=>by simp [co])
    exact CgV.symm ⟨u,fun x=>by have :=hu x;simp only[Xh,evI] at this;omega⟩
  refine⟨⟨hgn,by omega,⟨r,hrn,e'⟩,hgS⟩,⟨I.pr,I.n1,hrn,lr,fun z hz=>I.z z (hS.mem.2 z hz),(Pw.spl (hS.map fun z:List Int×List Nat=>zl z.2) I.pw).2.2,hrC,fun a b hab i=> ?_⟩,el.symm⟩
  have h1:=I.hb a (Xg b g) (by rw[Zb,←XI,←hab,e]) i
  refine Nat.lt_of_le_of_lt ?_ h1
  rw[el,Int.natAbs_mul,Int.natAbs_mul,Int.natAbs_mul,Nat.mul_assoc (ldP g).natAbs]
  have :=hgn.s
  exact Nat.mul_le_mul_left 2 (Nat.le_mul_of_pos_left _ (by omega))
def Qmp(p N:Nat)(Z:LZs)(f:List Int)(s:Nat):Prop:= ∀S C g,Spl Z S C→S.length<s→ ¬GoodS p N f S g
theorem Qnu(I:QeK p N Z f){g:List Int}(h:GoodS p N f [] g):False:=by
  have h1:=h.deg I (d:=0) (show Mon (pA []) 0 from Qat)
  have :=h.2.1
  omega
theorem Qmp.one(I:QeK p N Z f):Qmp p N Z f 1:=fun S C g _ hl h=>by
  obtain rfl:S=[]:=List.eq_nil_of_length_eq_zero (by omega)
  exact Qnu I h
theorem Qmp.next{s:Nat}(h:Qmp p N Z f s)(h': ∀S C g,Spl Z S C→S.length=s→ ¬GoodS p N f S g):Qmp p N Z f (s+1):=fun S C g hS hl hg=>by
  rcases Nat.lt_or_ge S.length s with hs|hs
  · exact h S C g hS hs hg
  · exact h' S C g hS (by omega) hg
theorem Qmp.rest{s:Nat}{S C:LZs}{g r:List Int}(h:Qmp p N Z f s)(hS:Spl Z S C)(hg:Nrm g)(e:P f=P r*P g):Qmp p N C r s:=fun T U q hT hl ⟨q1,q2,⟨b,hb,eb⟩,q4⟩=>by
  obtain⟨V,hV⟩:=hS.swap.comp hT
  exact h T V q hV hl ⟨q1,q2,⟨Xa (Xg b g),hb.mul hg,by rw[Yf,Zb,e,eb,XI]⟩,q4⟩
theorem Qbo{g:List Int}(hg:Nrm g)(h2:2≤g.length)(hn: ¬Irr (P g)): ∃a b,Nrm a∧Nrm b∧P g=P a*P b∧2≤a.length∧2≤b.length:=by
  have hd:dg (P g)=g.length:=by rw[Yj,hg.t]
  have h1: ∃a b:QP,P g=a*b∧dg a≠1∧dg b≠1:=by
    apply Classical.byContradiction
    intro hc
    refine hn ⟨by omega,fun a b e=> ?_⟩
    apply Classical.byContradiction
    intro h3
    exact hc ⟨a,b,e,fun h=>h3 (.inl h),fun h=>h3 (.inr h)⟩
  obtain⟨a,b,e,ha,hb⟩:=h1
  have na:a≠0:=fun h=>hg.ne (by rw[e,h,XG])
  have nb:b≠0:=fun h=>hg.ne (by rw[e,h,Ys])
  have pa:=XF.1 na
  have pb:=XF.1 nb
  have hs:=Zd na nb
  rw[←e] at hs
  obtain⟨r,l,hr,el⟩:=Qgx a
  have hl0:P l≠0:=fun h=>na (by rw[el,h,Ys])
  have hA:=YD hl0
  have hla:=(Xz l).2 hl0
  have hda:dg (P (Xr l))=dg a:=by rw[QaK hla,Qar (by have :=XC (Yi hla);grind),el,Qar hr]
  have hdv:P (Xr l)∣P g:=by
    rw[QaK hla,Qdz (by have :=XC (Yi hla);grind)]
    have :K r*P l∣P g:=by rw[←el,e];exact⟨b,XT _ _⟩
    exact(Qdz hr).1 this
  obtain⟨W,hW⟩:=QbR hA.c hdv
  have hW2:P g=P (Xa W)*P (Xr l):=by rw[Yf,hW]
  have hB:=hg.quo hA.s hW2 (XV _)
  have hd2:=Zd hB.ne hA.ne
  rw[←hW2] at hd2
  have l1:dg (P (Xr l))=(Xr l).length:=by rw[Yj,hA.t]
  have l2:dg (P (Xa W))=(Xa W).length:=by rw[Yj,XV]
  exact⟨Xr l,Xa W,hA,hB,by rw[hW2,XT],by omega,by omega⟩
theorem QtB{s:Nat}(I:QeK p N Z f)(h:Qmp p N Z f s){S C:LZs}(hS:Spl Z S C)(hl:S.length≤s){g:List Int}(hg:GoodS p N f S g):Irr (P g):=by
  apply Classical.byContradiction
  intro hn
  have hgg:=hg
  obtain⟨g1,g2,⟨r,hr,e⟩,g4⟩:=hg
  obtain⟨a,b,ha,hb,eab,la,lb⟩:=Qbo g1 g2 hn
  have hlg:md p (ldP g)≠0:=(Qbn (by have :=I.pr.1;omega) (by rw[←QcH e];exact I.lead)).1
  obtain⟨T,U,hT,cT,cU⟩:=Qfp I.pr (fun z hz=>I.z z (hS.mem.1 z hz)) (Pw.spl (hS.map fun z:List Int×List Nat=>zl z.2) I.pw).2.1 I.n1 hlg g4 eab
  obtain⟨V,hV⟩:=hS.comp hT
  obtain⟨V',hV'⟩:=hS.comp hT.swap
  have gT:GoodS p N f T a:=⟨ha,la,⟨Xa (Xg b r),hb.mul hr,by rw[Yf,Zb,e,eab,XI]⟩,cT⟩
  have gU:GoodS p N f U b:=⟨hb,lb,⟨Xa (Xg a r),ha.mul hr,by rw[Yf,Zb,e,eab,←XI,XT (P b)]⟩,cU⟩
  have hlen:=hT.len
  have hU:U.length≠0:=fun h0=>Qnu I (by rw[List.eq_nil_of_length_eq_zero h0] at gU;exact gU)
  exact h T V a hV (by omega) gT
theorem QtA{s:Nat}(I:QeK p N Z f)(h:Qmp p N Z f s)(hs:Z.length<2*s)(h2:2≤f.length):Irr (P f):=by
  apply Classical.byContradiction
  intro hn
  obtain⟨a,b,ha,hb,eab,la,lb⟩:=Qbo I.nrm h2 hn
  obtain⟨T,U,hT,cT,cU⟩:=Qfp I.pr I.z I.pw I.n1 I.lead I.cg eab
  have gT:GoodS p N f T a:=⟨ha,la,⟨b,hb,eab⟩,cT⟩
  have gU:GoodS p N f U b:=⟨hb,lb,⟨a,ha,by rw[eab,XT]⟩,cU⟩
  have hlen:=hT.len
  rcases Nat.lt_or_ge T.length s with h1|h1
  · exact h T U a hT h1 gT
  · exact h U T b hT.swap (by omega) gU
end
end Go.Gx
namespace Go.Gx
def QdN:Nat→Nat
  |0=>1
  |n+1=>(n+1)*QdN n
theorem Qeu: ∀n,1≤QdN n
  |0=>Nat.le_refl _
  |n+1=>Nat.le_trans (Qeu n) (Nat.le_mul_of_pos_left _ (by omega))
theorem Qh9(n:Nat):(QdN (n+1):Int)=((n+1:Nat):Int)*QdN n:=by rw[QdN];push_cast;rfl
def shF(F:Nat→Int):Nat→Int
  |0=>0
  |i+1=>F i
def drF(F:Nat→Int):Nat→Int:=fun i=>((i+1:Nat):Int)*F (i+1)
def ipF(N:Nat)(F U:Nat→Int):Int:=Ye (fun i=>(QdN i:Int)*(F i*U i)) N
def qX:Nat→List Int→(Nat→Int)→Nat→Int
  |_,[],_=>fun _=>0
  |0,c::Q,F=>fun i=>c*F i+shF (qX 0 Q F) i
  |a+1,_::Q,F=>fun i=>shF (qX (a+1) Q F) i+((a+1:Nat):Int)*qX a Q F i
def qD:Nat→List Int→(Nat→Int)→Nat→Int
  |_,[],_=>fun _=>0
  |0,c::Q,F=>fun i=>c*F i+qD 0 Q (drF F) i
  |a+1,_::Q,F=>fun i=>qD (a+1) Q (drF F) i+((a+1:Nat):Int)*qD a Q F i
def pDF:Nat→List Int→(Nat→Int)→Nat→Int
  |_,[],_=>fun _=>0
  |0,c::Q,F=>fun i=>c*F i+pDF 0 Q (drF F) i
  |a+1,_::Q,F=>fun i=>pDF (a+1) Q (drF F) i+pDF a Q F i
theorem QrE(V:Nat→Int)(i:Nat):drF (shF V) i=V i+shF (drF V) i:=by
  cases i with
  |zero=>simp [drF,shF]
  |succ i=>simp only[drF,shF];push_cast;grind
theorem Qg0(F G:Nat→Int):drF (fun i=>F i+G i)=fun i=>drF F i+drF G i:=by
  funext i;simp only[drF,Int.mul_add]
theorem Qm9(c:Int)(F:Nat→Int):drF (fun i=>c*F i)=fun i=>c*drF F i:=by
  funext i;simp only[drF];grind
theorem QhA(F G:Nat→Int):shF (fun i=>F i+G i)=fun i=>shF F i+shF G i:=by
  funext i;cases i<;>simp [shF]
theorem QoT(c:Int)(F:Nat→Int):shF (fun i=>c*F i)=fun i=>c*shF F i:=by
  funext i;cases i<;>simp [shF]
theorem Qk0: ∀(a:Nat)(Q:List Int)(F G:Nat→Int),qX a Q (fun i=>F i+G i)=fun i=>qX a Q F i+qX a Q G i
  |a,[],F,G=>by funext i;cases a<;>simp [qX]
  |0,c::Q,F,G=>by
    funext i;simp only[qX,Qk0 0 Q F G,QhA];grind
  |a+1,c::Q,F,G=>by
    funext i;simp only[qX,Qk0 (a+1) Q F G,Qk0 a Q F G,QhA];grind
theorem QiG(k:Int): ∀(a:Nat)(Q:List Int)(F:Nat→Int),qX a Q (fun i=>k*F i)=fun i=>k*qX a Q F i
  |a,[],F=>by funext i;cases a<;>simp [qX]
  |0,c::Q,F=>by
    funext i;simp only[qX,QiG k 0 Q F,QoT];grind
  |a+1,c::Q,F=>by
    funext i;simp only[qX,QiG k (a+1) Q F,QiG k a Q F,QoT];grind
theorem Qty(a:Nat)(Q:List Int)(i:Nat):qX a Q (fun _=>0) i=0:=by
  have h:=congrFun (QiG 0 a Q fun _=>0) i
  simpa using h
theorem Qhl: ∀(a:Nat)(Q:List Int)(F G:Nat→Int),pDF a Q (fun i=>F i+G i)=fun i=>pDF a Q F i+pDF a Q G i
  |a,[],F,G=>by funext i;cases a<;>simp [pDF]
  |0,c::Q,F,G=>by
    funext i;simp only[pDF,Qg0,Qhl 0 Q (drF F) (drF G)];grind
  |a+1,c::Q,F,G=>by
    funext i;simp only[pDF,Qg0,Qhl (a+1) Q (drF F) (drF G),Qhl a Q F G];grind
theorem Qkn: ∀(a:Nat)(Q:List Int)(F:Nat→Int),drF (qX a Q F)=fun i=>qX (a+1) Q F i+qX a Q (drF F) i
  |a,[],F=>by funext i;cases a<;>simp [qX,drF]
  |0,c::Q,F=>by
    have h:qX 0 (c::Q) F=fun i=>(fun i=>c*F i) i+shF (qX 0 Q F) i:=rfl
    funext i
    rw[h,Qg0,Qm9]
    simp only[QrE,Qkn 0 Q F,QhA,qX];push_cast;grind
  |a+1,c::Q,F=>by
    have h:qX (a+1) (c::Q) F=fun i=>shF (qX (a+1) Q F) i+(fun i=>((a+1:Nat):Int)*qX a Q F i) i:=rfl
    funext i
    rw[h,Qg0,Qm9]
    simp only[QrE,Qkn (a+1) Q F,Qkn a Q F,QhA,qX];push_cast;grind
theorem Qoh: ∀(P:List Int)(n b:Nat)(Q:List Int)(F:Nat→Int)(i:Nat),P.length≤n→pDF 0 P (qX b Q F) i=Ye (fun a=>qX (b+a) Q (pDF a P F) i) n
  | [],n,b,Q,F,i,_=>by
    rw[XQ]
    · simp [pDF]
    · intro a _
      have :pDF a [] F=fun _=>0:=by cases a<;>rfl
      rw[this,Qty]
  |_::P,0,b,Q,F,i,h=>by simp at h
  |c::P,n+1,b,Q,F,i,h=>by
    have h1:P.length≤n:=by simpa using h
    rw[ZQ]
    simp only[pDF,Qkn,Qhl,Qk0,QiG]
    rw[Qoh P n (b+1) Q F i h1,Qoh P (n+1) b Q (drF F) i (by omega),ZQ,Qcl]
    rw[Xt (F:=fun a=>qX (b+1+a) Q (pDF a P F) i) (G:=fun a=>qX (b+(a+1)) Q (pDF a P F) i) fun a _=>by congr 1;omega]
    simp only[Nat.add_zero];grind
theorem Qvi(N:Nat)(V U:Nat→Int)(hU: ∀i,N≤i→U i=0):ipF N (shF V) U=ipF N V (drF U):=by
  cases N with
  |zero=>rfl
  |succ N=>
    have h1:ipF (N+1) V (drF U)=ipF N V (drF U):=by
      simp only[ipF,YA,drF,hU (N+1) (Nat.le_refl _),Int.mul_zero,Int.add_zero]
    rw[h1,ipF,ZQ]
    simp only[shF,Int.zero_mul,Int.mul_zero,Int.zero_add]
    refine Xt fun i _=> ?_
    simp only[Qh9,drF];grind
theorem Qhc(N:Nat)(F G U:Nat→Int):ipF N (fun i=>F i+G i) U=ipF N F U+ipF N G U:=by
  simp only[ipF];rw[←Qcl];exact Xt fun i _=>by grind
theorem Qew(N:Nat)(c:Int)(F U:Nat→Int):ipF N (fun i=>c*F i) U=c*ipF N F U:=by
  simp only[ipF];rw[←Qhv];exact Xt fun i _=>by grind
theorem QbT(N:Nat)(F U:Nat→Int):ipF N F U=ipF N U F:=by
  simp only[ipF];exact Xt fun i _=>by grind
theorem Qhd(N:Nat)(F G U:Nat→Int):ipF N U (fun i=>F i+G i)=ipF N U F+ipF N U G:=by
  rw[QbT,Qhc,QbT,QbT N G]
theorem Qex(N:Nat)(c:Int)(F U:Nat→Int):ipF N U (fun i=>c*F i)=c*ipF N U F:=by
  rw[QbT,Qew,QbT]
theorem Qfi(N:Nat)(U:Nat→Int):ipF N (fun _=>0) U=0:=by
  simp only[ipF];exact XQ fun i _=>by simp
theorem Qkw(N:Nat)(F:Nat→Nat→Int)(U:Nat→Int): ∀n,ipF N U (fun i=>Ye (fun a=>F a i) n)=Ye (fun a=>ipF N U (F a)) n
  |0=>by rw[QbT];exact Qfi N U
  |n+1=>by simp only[Ye];rw[Qhd,Qkw N F U n]
theorem QnB(N:Nat): ∀(a:Nat)(Q:List Int)(F U:Nat→Int),(∀i,N≤i→U i=0)→ipF N (qX a Q F) U=ipF N F (qD a Q U)
  |a,[],F,U,_=>by
    have h1:qX a [] F=fun _=>0:=by cases a<;>rfl
    have h2:qD a [] U=fun _=>0:=by cases a<;>rfl
    rw[h1,h2,QbT N F,Qfi,Qfi]
  |0,c::Q,F,U,hU=>by
    have hd: ∀i,N≤i→drF U i=0:=fun i hi=>by simp [drF,hU (i+1) (by omega)]
    have h:qX 0 (c::Q) F=fun i=>(fun i=>c*F i) i+shF (qX 0 Q F) i:=rfl
    have h':qD 0 (c::Q) U=fun i=>(fun i=>c*U i) i+qD 0 Q (drF U) i:=rfl
    rw[h,h',Qhc,Qew,Qhd,Qex,Qvi N _ U hU,QnB N 0 Q F _ hd]
  |a+1,c::Q,F,U,hU=>by
    have hd: ∀i,N≤i→drF U i=0:=fun i hi=>by simp [drF,hU (i+1) (by omega)]
    have h:qX (a+1) (c::Q) F=fun i=>shF (qX (a+1) Q F) i+(fun i=>((a+1:Nat):Int)*qX a Q F i) i:=rfl
    have h':qD (a+1) (c::Q) U=fun i=>qD (a+1) Q (drF U) i+(fun i=>((a+1:Nat):Int)*qD a Q U i) i:=rfl
    rw[h,h',Qhc,Qew,Qhd,Qex,Qvi N _ U hU,QnB N (a+1) Q F _ hd,QnB N a Q F U hU]
theorem QiF: ∀(a:Nat)(Q:List Int)(F:Nat→Int),qD a Q F=fun i=>(QdN a:Int)*pDF a Q F i
  |a,[],F=>by funext i;cases a<;>simp [qD,pDF]
  |0,c::Q,F=>by
    funext i;simp only[qD,pDF,QiF 0 Q (drF F),QdN];grind
  |a+1,c::Q,F=>by
    funext i;simp only[qD,pDF,QiF (a+1) Q (drF F),QiF a Q F,Qh9];grind
theorem Qog: ∀(a:Nat)(Q:List Int)(F:Nat→Int)(i:Nat),Q.length≤a→pDF a Q F i=0
  |a,[],F,i,_=>by cases a<;>rfl
  |0,_::Q,F,i,h=>by simp at h
  |a+1,c::Q,F,i,h=>by
    have h1:Q.length≤a:=by simpa using h
    simp only[pDF,Qog (a+1) Q (drF F) i (by omega),Qog a Q F i h1];rfl
theorem Qoi(y:Int): ∀(Q:List Int)(F:Nat→Int)(i:Nat),pDF Q.length (Q++[y]) F i=y*F i
  | [],F,i=>by simp [pDF]
  |c::Q,F,i=>by
    show pDF (Q.length+1) (Q++[y]) (drF F) i+pDF Q.length (Q++[y]) F i=_
    rw[Qoi y Q F i,Qog _ _ _ _ (by simp),Int.zero_add]
theorem Qo2(x:Int):0≤x*x:=by rw[←Int.natAbs_mul_self (a:=x)];exact Int.natCast_nonneg _
theorem QnC(N:Nat)(F:Nat→Int):0≤ipF N F F:=by
  unfold ipF
  induction N with
  |zero=>exact Int.le_refl _
  |succ N ih=>
    rw[Ye]
    have :0≤(QdN N:Int)*(F N*F N):=Int.mul_nonneg (by omega) (Qo2 _)
    omega
theorem Qk7{F:Nat→Int}{n k:Nat}(h: ∀i,i<n→0≤F i)(hk:k<n):F k≤Ye F n:=by
  have h0: ∀m,m≤n→0≤Ye F m:=by
    intro m
    induction m with
    |zero=>intro _;exact Int.le_refl _
    |succ m ih=>intro hm;rw[Ye];have :=ih (by omega);have :=h m (by omega);omega
  induction n with
  |zero=>omega
  |succ n ih=>
    rw[Ye]
    rcases Nat.lt_or_ge k n with h1|h1
    · have :=ih (fun i hi=>h i (by omega)) h1 fun m hm=>h0 m (by omega);have :=h n (by omega);omega
    · have :k=n:=by omega
      subst this
      have :=h0 k (by omega);omega
theorem Qs7(G:List Int)(y:Int)(F:Nat→Int)(N:Nat)(hF: ∀i,N≤i→F i=0)(hP: ∀i,N≤i→qX 0 (G++[y]) F i=0):
    (QdN G.length:Int)*(y*y*ipF N F F)≤ipF N (qX 0 (G++[y]) F) (qX 0 (G++[y]) F):=by
  have h1:ipF N (qX 0 (G++[y]) F) (qX 0 (G++[y]) F)=Ye (fun a=>(QdN a:Int)*ipF N (pDF a (G++[y]) F) (pDF a (G++[y]) F)) (G.length+1):=by
    rw[QnB N 0 (G++[y]) F _ hP,QiF]
    have h2:(fun i=>(QdN 0:Int)*pDF 0 (G++[y]) (qX 0 (G++[y]) F) i)=fun i=>Ye (fun a=>qX a (G++[y]) (pDF a (G++[y]) F) i) (G.length+1):=by
      funext i
      rw[Qoh (G++[y]) (G.length+1) 0 (G++[y]) F i (by simp)]
      simp [QdN]
    rw[h2,Qkw]
    refine Xt fun a _=> ?_
    rw[QbT,QnB N a (G++[y]) _ F hF,QiF,Qex]
  rw[h1]
  refine Int.le_trans ?_ (Qk7 (k:=G.length) (fun a _=>Int.mul_nonneg (by omega) (QnC N _)) (by omega))
  have h3:pDF G.length (G++[y]) F=fun i=>y*F i:=funext fun i=>Qoi y G F i
  rw[h3,Qew,Qex]
  refine Int.le_of_eq ?_
  grind
theorem QoD: ∀(Q:List Int)(F:Nat→Int)(k:Nat),qX 0 Q F k=YB (co Q) F k
  | [],F,k=>by
    rw[YB,XQ]
    · rfl
    · intro i _;simp [co]
  |c::Q,F,k=>by
    rw[YB,ZQ]
    simp only[qX]
    have h0:co (c::Q) 0=c:=rfl
    rw[h0,Nat.sub_zero]
    congr 1
    cases k with
    |zero=>rfl
    |succ k=>
      show qX 0 Q F k=_
      rw[QoD Q F k,YB]
      refine Xt fun i _=> ?_
      have h1:co (c::Q) (i+1)=co Q i:=rfl
      rw[h1];congr 2;omega
theorem Qd9: ∀(f:List Int)(i:Nat),(co f i).natAbs≤hgt f
  | [],i=>by simp [co]
  |a::f,0=>by show a.natAbs≤_;rw[hgt];omega
  |a::f,i+1=>by
    have h1:co (a::f) (i+1)=co f i:=rfl
    have :=Qd9 f i
    rw[h1,hgt];omega
theorem Qih{B:Nat}: ∀(f:List Int),(∀i,(co f i).natAbs≤B)→hgt f≤B
  | [],_=>Nat.zero_le _
  |a::f,h=>by
    rw[hgt]
    have h1:a.natAbs≤B:=h 0
    have :=Qih f fun i=>h (i+1)
    omega
def Qs1:Nat→Nat
  |0=>0
  |n+1=>Qs1 n+QdN n
theorem QrM{h:Nat→Int}{H:Nat}(hh: ∀i,(h i).natAbs≤H): ∀N,ipF N h h≤(Qs1 N:Int)*(H*H:Nat)
  |0=>by simp [ipF,Ye,Qs1]
  |N+1=>by
    have h1:=QrM hh N
    have h2:h N*h N≤((H*H:Nat):Int):=by
      rw[←Int.natAbs_mul_self (a:=h N)]
      exact Int.ofNat_le.2 (Nat.mul_le_mul (hh N) (hh N))
    have h3:(QdN N:Int)*(h N*h N)≤(QdN N:Int)*((H*H:Nat):Int):=Int.mul_le_mul_of_nonneg_left h2 (by omega)
    have h4:ipF (N+1) h h=ipF N h h+(QdN N:Int)*(h N*h N):=rfl
    rw[h4,Qs1];push_cast at *;grind
def rtN(n:Nat):Nat:=if n=0 then 0 else if n≤1 then 1 else if n≤4 then 2 else if n≤9 then 3 else if n≤16 then 4 else 5
theorem Qnx{f g:List Int}(hf0:f≠ [])(y:Int)(hy:y≠0)(h8:Qs1 (f.length -1+g.length+1)≤QdN g.length*(2^ (f.length -1+g.length)*rtN (f.length -1+g.length+1)*(2^ (f.length -1+g.length)*rtN (f.length -1+g.length+1)))):
    hgt f≤2^ (f.length -1+g.length)*rtN (f.length+g.length)*hgt (Xg f (g++[y])):=by
  have hl:1≤f.length:=by cases f with |nil=>exact absurd rfl hf0|cons a f=>simp
  obtain⟨m,hm⟩: ∃m,f.length=m+1:=⟨f.length -1,by omega⟩
  refine Qih f fun i=> ?_
  rcases Nat.lt_or_ge i f.length with hi|hi
  rotate_left
  · rw[XX hi];exact Nat.zero_le _
  have hc: ∀k,qX 0 (g++[y]) (co f) k=co (Xg f (g++[y])) k:=fun k=>by
    rw[QoD,Xp];exact Qgb _ _ k
  have hF: ∀k,m+g.length+1≤k→co f k=0:=fun k hk=>XX (by omega)
  have hpl:(Xg f (g++[y])).length≤m+g.length+1:=by
    unfold Xg;split
    · simp
    · simp;omega
  have hP: ∀k,m+g.length+1≤k→qX 0 (g++[y]) (co f) k=0:=fun k hk=>by rw[hc];exact XX (by omega)
  have h1:=Qs7 g y (co f) (m+g.length+1) hF hP
  have h2:=QrM (h:=qX 0 (g++[y]) (co f)) (H:=hgt (Xg f (g++[y]))) (fun k=>by rw[hc];exact Qd9 _ k) (m+g.length+1)
  have h3:(QdN i:Int)*(co f i*co f i)≤ipF (m+g.length+1) (co f) (co f):=
    Qk7 (F:=fun i=>(QdN i:Int)*(co f i*co f i)) (fun k _=>Int.mul_nonneg (by omega) (Qo2 _)) (by omega)
  have h4:co f i*co f i≤(QdN i:Int)*(co f i*co f i):=by
    have hp:=Qeu i
    have h5:(1:Int)*(co f i*co f i)≤(QdN i:Int)*(co f i*co f i):=Int.mul_le_mul_of_nonneg_right (by omega) (Qo2 _)
    omega
  have h6:ipF (m+g.length+1) (co f) (co f)≤y*y*ipF (m+g.length+1) (co f) (co f):=by
    have hn:=QnC (m+g.length+1) (co f)
    have hy2:1≤y*y:=by
      rw[←Int.natAbs_mul_self (a:=y)]
      have :1≤y.natAbs:=by omega
      exact Int.ofNat_le.2 (Nat.mul_le_mul this this)
    have h7:1*ipF (m+g.length+1) (co f) (co f)≤y*y*ipF (m+g.length+1) (co f) (co f):=Int.mul_le_mul_of_nonneg_right hy2 hn
    omega
  rw[show f.length -1=m by omega] at h8
  have h9:(QdN g.length:Int)*(co f i*co f i)≤(QdN g.length:Int)*(y*y*ipF (m+g.length+1) (co f) (co f)):=Int.mul_le_mul_of_nonneg_left (by omega) (by omega)
  have e1:f.length -1+g.length=m+g.length:=by omega
  have e2:f.length+g.length=m+g.length+1:=by omega
  rw[e1,e2]
  generalize hC:2^ (m+g.length)*rtN (m+g.length+1)=C at *
  generalize hH:hgt (Xg f (g++[y]))=H at *
  have h10:((Qs1 (m+g.length+1):Nat):Int)*(H*H:Nat)≤((QdN g.length*(C*C)*(H*H):Nat):Int):=by
    rw[←Int.natCast_mul];exact Int.ofNat_le.2 (Nat.mul_le_mul_right _ h8)
  have h11:(QdN g.length:Int)*(co f i*co f i)≤(QdN g.length:Int)*((C*H*(C*H):Nat):Int):=by
    refine Int.le_trans h9 (Int.le_trans h1 (Int.le_trans h2 (Int.le_trans h10 (Int.le_of_eq ?_))))
    rw[←Int.natCast_mul];congr 1;grind
  have h12:co f i*co f i≤((C*H*(C*H):Nat):Int):=Int.le_of_mul_le_mul_left h11 (by have :=Qeu g.length;omega)
  rw[←Int.natAbs_mul_self (a:=co f i)] at h12
  exact Nat.mul_self_le_mul_self_iff.1 (Int.ofNat_le.1 h12)
theorem QlR: ∀n,n<12→Qs1 (n+1)≤2^n*rtN (n+1)*(2^n*rtN (n+1)):=by decide+kernel
theorem Qha{f g:List Int}(hf0:f≠ [])(y:Int)(hy:y≠0)(hl:f.length+g.length≤12):
    hgt f≤2^ (f.length -1+g.length)*rtN (f.length+g.length)*hgt (Xg f (g++[y])):=by
  have h1:1≤f.length:=by cases f with |nil=>exact absurd rfl hf0|cons a f=>simp
  exact Qnx hf0 y hy (Nat.le_trans (QlR (f.length -1+g.length) (by omega)) (Nat.le_mul_of_pos_left _ (Qeu _)))
end Go.Gx
namespace Go.Gx
theorem or_bit{s k:Nat}(h:s % 2^ (k+1)=0):s|||2^k=s+2^k:=by
  obtain⟨q,hq⟩: ∃q,s=2^ (k+1)*q:=⟨s/2^ (k+1),by have :=Nat.div_add_mod s (2^ (k+1));omega⟩
  subst hq
  exact(Nat.two_pow_add_eq_or_of_lt (Nat.pow_lt_pow_right (by omega) (by omega)) q).symm
def RtI(va s k:Nat):Prop:=s*s≤va∧va<(s+2^k)*(s+2^k)∧s % 2^k=0
theorem RtI.start{va k:Nat}(h:va<2^k*2^k):RtI va 0 k:=⟨Nat.zero_le _,by rwa [Nat.zero_add],Nat.zero_mod _⟩
theorem QqO{k:Nat}(hk:1≤k):2^k=2^ (k -1)+2^ (k -1):=by
  obtain⟨j,rfl⟩: ∃j,k=j+1:=⟨k -1,by omega⟩
  rw[Nat.add_sub_cancel,Nat.pow_succ];omega
theorem RtI.or{va s k:Nat}(h:RtI va s k)(hk:1≤k):s|||2^ (k -1)=s+2^ (k -1):=by
  obtain⟨j,rfl⟩: ∃j,k=j+1:=⟨k -1,by omega⟩
  exact or_bit h.2.2
theorem QkG{s k:Nat}(hk:1≤k)(h:s % 2^k=0):s % 2^ (k -1)=0:=by
  obtain⟨j,rfl⟩: ∃j,k=j+1:=⟨k -1,by omega⟩
  exact Nat.mod_eq_zero_of_dvd (Nat.dvd_trans (Nat.pow_dvd_pow 2 (by omega)) (Nat.dvd_of_mod_eq_zero h))
theorem RtI.yes{va s k t p:Nat}(h:RtI va s k)(hk:1≤k)(ht:t=s+2^ (k -1))(hp:p=t*t)(hle:p≤va):RtI va t (k -1):=by
  have h2:=QqO hk
  subst ht hp
  refine⟨hle,?_,?_⟩
  · rw[show s+2^ (k -1)+2^ (k -1)=s+2^k by omega];exact h.2.1
  · rw[Nat.add_mod,QkG hk h.2.2,Nat.mod_self];rfl
theorem RtI.no{va s k t p:Nat}(h:RtI va s k)(hk:1≤k)(ht:t=s+2^ (k -1))(hp:p=t*t)(hgt:va<p):RtI va s (k -1):=by
  subst ht hp
  exact⟨h.1,hgt,QkG hk h.2.2⟩
theorem RtI.done{va s k:Nat}(h:RtI va s k)(hk:k=0):s*s≤va∧va<(s+1)*(s+1):=by subst hk;exact⟨h.1,h.2.1⟩
theorem Qvr{x n:Nat}(h:x=0∨2^ (n -1)≤x)(hx:x<65536)(h0:x≠0):n≤16:=by
  rcases Nat.lt_or_ge 16 n with h1|h1
  · exfalso
    have :2^16≤2^ (n -1):=Nat.pow_le_pow_right (by omega) (by omega)
    omega
  · exact h1
theorem QjQ{x n:Nat}(h:x<2^n)(hn:n≤2)(h0:1≤x):1*1≤x∧x<(1+1)*(1+1):=by
  have :2^n≤2^2:=Nat.pow_le_pow_right (by omega) hn
  omega
theorem QoL{x n:Nat}(h:x<2^n):x<2^ ((n -1)/2+1)*2^ ((n -1)/2+1):=by
  rw[←Nat.pow_add]
  exact Nat.lt_of_lt_of_le h (Nat.pow_le_pow_right (by omega) (by omega))
theorem QwN{s n:Nat}(h1:s*s≤n)(h2:n<(s+1)*(s+1))(hn:n≤18):s+1=rtN (n+1):=by
  have h3:s≤4:=by
    rcases Nat.lt_or_ge s 5 with h|h
    · omega
    · have :=Nat.mul_le_mul h h;omega
  unfold rtN
  rcases(show s=0∨s=1∨s=2∨s=3∨s=4 by omega) with rfl|rfl|rfl|rfl|rfl<;>(repeat' split)<;>omega
def QmA(l:List Int):Int:=if Xa l=[] then 0 else((rtN (Xa l).length:Nat):Int)*(hgt l:Int)*((2^ ((Xa l).length -1):Nat):Int)
end Go.Gx
namespace Go.Gx
theorem QcF{f:List Int}(hf:f.length≤10):(Xa f).length≤19:=by
  have h1:(Xa f).length≤f.length:=QaV _ _
  omega
end Go.Gx
namespace Go.Gx
theorem Qtd{n x:Nat}(hx:x=2)(h1:x<2^n)(h2:x=0∨2^ (n -1)≤x):n=2:=by
  subst hx
  rcases(show n=0∨n=1∨n=2∨3≤n by omega) with rfl|rfl|rfl|h
  · omega
  · omega
  · rfl
  · have h6:2^2≤2^ (n -1):=Nat.pow_le_pow_right (by omega) (by omega)
    omega
end Go.Gx
namespace Go.Gx
theorem QvC{u v:Int}(h:u*v≤0):v.natAbs≤(u -v).natAbs:=by
  rcases Int.lt_trichotomy u 0 with h1|h1|h1
  · rcases Int.lt_or_le v 0 with h2|h2
    · have :=Int.mul_pos_of_neg_of_neg h1 h2;omega
    · omega
  · omega
  · rcases Int.lt_or_le 0 v with h2|h2
    · have :=Int.mul_pos h1 h2;omega
    · omega
structure XgI (a b R S X Y:Int):Prop where
  g:Int.gcd R S=1
  cx: ∃k:Int,X*a=R+b*k
  cy: ∃k:Int,Y*a=S+b*k
  det:(X*S -Y*R).natAbs=b.natAbs
  sg:(0<R*S→X*Y≤0)∧(R*S<0→0≤X*Y)
  bx:X.natAbs≤b.natAbs
  by_:Y.natAbs≤b.natAbs
theorem XgI.start{a b:Int}(hb:b≠0)(h:Int.gcd a b=1):XgI a b a b 1 0:=
  ⟨h,⟨0,by grind⟩,⟨-1,by grind⟩,by simp,⟨fun _=>by omega,fun _=>by omega⟩,by omega,by omega⟩
theorem Qrl(R S:Int)(hS:S≠0):(0<R*S→0≤R.tdiv S∧0≤S*R.tmod S)∧(R*S<0→R.tdiv S≤0∧S*R.tmod S≤0)∧(0<S*R.tmod S→0<R*S)∧(S*R.tmod S<0→R*S<0)∧(R*S=0→R.tmod S=0):=by
  have hm:=Int.tmod_add_mul_tdiv R S
  have hp: ∀(R:Int),0≤R→0≤R.tmod S:=fun R h=>Int.tmod_nonneg _ h
  have hn: ∀(R:Int),R≤0→R.tmod S≤0:=fun R h=>by
    have h1:=hp (-R) (by omega)
    rw[Int.neg_tmod] at h1;omega
  rcases Int.lt_trichotomy R 0 with h1|h1|h1<;>rcases Int.lt_trichotomy S 0 with h2|h2|h2<;>try omega
  · have r:=hn R (by omega)
    have e:=Int.mul_pos_of_neg_of_neg h1 h2
    have f:=Int.mul_nonneg_of_nonpos_of_nonpos (Int.le_of_lt h2) r
    have q:0≤R.tdiv S:=Int.tdiv_nonneg_of_nonpos_of_nonpos (by omega) (by omega)
    exact⟨fun _=>⟨q,f⟩,fun h=>by omega,fun _=>e,fun h=>by omega,fun h=>by omega⟩
  · have r:=hn R (by omega)
    have e:=Int.mul_neg_of_neg_of_pos h1 h2
    have f:=Int.mul_nonpos_of_nonneg_of_nonpos (Int.le_of_lt h2) r
    have q:R.tdiv S≤0:=by
      have h3:=Int.tdiv_nonneg (a:= -R) (b:=S) (by omega) (by omega)
      rw[Int.neg_tdiv] at h3;omega
    exact⟨fun h=>by omega,fun _=>⟨q,f⟩,fun h=>by omega,fun _=>e,fun h=>by omega⟩
  · subst h1
    simp
  · subst h1
    simp
  · have r:=hp R (by omega)
    have e:=Int.mul_neg_of_pos_of_neg h1 h2
    have f:=Int.mul_nonpos_of_nonpos_of_nonneg (Int.le_of_lt h2) r
    have q:R.tdiv S≤0:=Int.tdiv_nonpos_of_nonneg_of_nonpos (by omega) (by omega)
    exact⟨fun h=>by omega,fun _=>⟨q,f⟩,fun h=>by omega,fun _=>e,fun h=>by omega⟩
  · have r:=hp R (by omega)
    have e:=Int.mul_pos h1 h2
    have f:=Int.mul_nonneg (Int.le_of_lt h2) r
    have q:0≤R.tdiv S:=Int.tdiv_nonneg (by omega) (by omega)
    exact⟨fun _=>⟨q,f⟩,fun h=>by omega,fun _=>e,fun h=>by omega,fun h=>by omega⟩
theorem QwR(y:Int):0≤y*y:=by
  rcases Int.le_total 0 y with h|h
  · exact Int.mul_nonneg h h
  · exact Int.mul_nonneg_of_nonpos_of_nonpos h h
theorem XgI.step{a b R S X Y:Int}(h:XgI a b R S X Y)(hS:S≠0):XgI a b S (R.tmod S) Y (X -R.tdiv S*Y):=by
  have hm:=Int.tmod_add_mul_tdiv R S
  obtain⟨t1,t2,t3,t4,t5⟩:=Qrl R S hS
  have hyy:=QwR Y
  have e0:Y*(X -R.tdiv S*Y)=X*Y -R.tdiv S*(Y*Y):=by grind
  have s1:0<R*S→Y*(X -R.tdiv S*Y)≤0:=fun hp=>by
    have :=h.sg.1 hp
    have :=Int.mul_nonneg (t1 hp).1 hyy
    omega
  have s2:R*S<0→0≤Y*(X -R.tdiv S*Y):=fun hp=>by
    have :=h.sg.2 hp
    have :=Int.mul_nonpos_of_nonpos_of_nonneg (t2 hp).1 hyy
    omega
  have hdet:(Y*R.tmod S -(X -R.tdiv S*Y)*S).natAbs=b.natAbs:=by
    rw[←h.det]
    have :Y*R.tmod S -(X -R.tdiv S*Y)*S= -(X*S -Y*R):=by
      have e1:Y*R=Y*(R.tmod S+S*R.tdiv S):=by rw[hm]
      rw[e1];grind
    rw[this,Int.natAbs_neg]
  refine⟨?_,h.cy,?_,hdet,⟨fun hp=>s1 (t3 hp),fun hp=>s2 (t4 hp)⟩,h.by_,?_⟩
  · have h1:=h.g
    unfold Int.gcd at h1⊢
    rw[Int.natAbs_tmod,Nat.gcd_comm,←Nat.gcd_rec,Nat.gcd_comm]
    exact h1
  · obtain⟨k,hk⟩:=h.cx
    obtain⟨l,hl⟩:=h.cy
    refine⟨k -R.tdiv S*l,?_⟩
    have e1:(X -R.tdiv S*Y)*a=X*a -R.tdiv S*(Y*a):=by grind
    rw[e1,hk,hl]
    have e2:R.tmod S=R -S*R.tdiv S:=by omega
    rw[e2];grind
  · have hopp:(Y*R.tmod S)*((X -R.tdiv S*Y)*S)≤0:=by
      have e1:(Y*R.tmod S)*((X -R.tdiv S*Y)*S)=(Y*(X -R.tdiv S*Y))*(S*R.tmod S):=by grind
      rw[e1]
      rcases Int.lt_trichotomy (R*S) 0 with h1|h1|h1
      · exact Int.mul_nonpos_of_nonneg_of_nonpos (s2 h1) (t2 h1).2
      · rw[t5 h1];simp
      · exact Int.mul_nonpos_of_nonpos_of_nonneg (s1 h1) (t1 h1).2
    have h1:=QvC hopp
    rw[hdet,Int.natAbs_mul] at h1
    have h2:(X -R.tdiv S*Y).natAbs*1≤(X -R.tdiv S*Y).natAbs*S.natAbs:=Nat.mul_le_mul_left _ (by omega)
    omega
theorem XgI.done{a b R X Y:Int}(h:XgI a b R 0 X Y):R.natAbs=1:=by
  have :=h.g
  rwa [Int.gcd_zero_right] at this
end Go.Gx
namespace Go.Gx
theorem Qv6{a b R X R' X':Int}(h: ∃k:Int,X*a=R+b*k)(hR:R.natAbs=1)(hn:R<0)(e1:R'= -R)(e2:X'= -X):R'=1∧ ∃k:Int,X'*a=1+b*k:=by
  obtain⟨k,h⟩:=h
  refine⟨by omega,-k,?_⟩
  rw[e2,show -X*a= -(X*a) by grind,h,show R= -1 by omega];grind
theorem Qv7{a b R X:Int}(h: ∃k:Int,X*a=R+b*k)(hR:R.natAbs=1)(hn: ¬R<0):R=1∧ ∃k:Int,X*a=1+b*k:=by
  obtain⟨k,h⟩:=h
  exact⟨by omega,k,by rw[h,show R=1 by omega]⟩
theorem Que{R S m:Int}(e:m=R.tmod S)(hS:S≠0):m.natAbs<S.natAbs:=by
  rw[e,Int.natAbs_tmod]
  exact Nat.mod_lt _ (by omega)
end Go.Gx
namespace Go.Gx
theorem QbV{f:QP}(h:dg f=2):Irr f:=⟨by omega,fun a b e=>by
  have ha:a≠0:=fun e'=>by rw[e,e',XG,Ya.2 rfl] at h;omega
  have hb:b≠0:=fun e'=>by rw[e,e',Ys,Ya.2 rfl] at h;omega
  have :=Zd ha hb
  rw[←e] at this
  have :=XF.1 ha
  have :=XF.1 hb
  omega⟩
structure Qun (p:List Int):Prop where
  n:Nrm p
  i:Irr (P p)
  d:2≤p.length
  l:p.length≤3
  b:nrm p≤48
def QqT:List (List Int)→QP
  | []=>1
  |p::ps=>P p*QqT ps
def QuB(F:List Int)(u:Int)(ps:List (List Int)):Prop:=(∀p∈ps,Qun p)∧P F=K u*QqT ps∧u.natAbs≤9∧ps.length≤2
end Go.Gx
namespace Go.Gx
def QcQ:List (List Int×Int)→List Int→List (List Int×Int)
  | [],p=>[(p,1)]
  | (q,k)::l,p=>if Xa q=Xa p then(q,k+1)::l else(q,k)::QcQ l p
noncomputable def Qfv:List (List Int×Int)→QP
  | []=>1
  | (p,k)::l=>P p^k.toNat*Qfv l
structure Qd2 (N:Nat) (l:List (List Int×Int)):Prop where
  i: ∀e∈l,Qun e.1
  k: ∀e∈l,1≤e.2∧e.2≤N
  d:l.Pairwise fun a b=>a.1≠b.1
  n:l.length≤N
theorem Qd2.nil:Qd2 0 []:=⟨by simp,by simp,List.Pairwise.nil,by simp⟩
theorem Qdf: ∀(l:List (List Int×Int))(p:List Int)(e:List Int×Int),e∈QcQ l p→(e∈l)∨(∃k,(e.1,k)∈l∧e.2=k+1)∨(e=(p,1))
  | [],p,e,h=>by simp [QcQ] at h;exact .inr (.inr h)
  | (q,k)::l,p,e,h=>by
    rw[QcQ] at h
    split at h
    · rcases List.mem_cons.1 h with h1|h1
      · subst h1;exact .inr (.inl ⟨k,by simp,rfl⟩)
      · exact .inl (by simp [h1])
    · rcases List.mem_cons.1 h with h1|h1
      · subst h1;exact .inl (by simp)
      · rcases Qdf l p e h1 with h2| ⟨k',h2,h3⟩|h2
        · exact .inl (by simp [h2])
        · exact .inr (.inl ⟨k',by simp [h2],h3⟩)
        · exact .inr (.inr h2)
theorem Qi2: ∀(l:List (List Int×Int))(p:List Int),(QcQ l p).length≤l.length+1
  | [],p=>by simp [QcQ]
  | (q,k)::l,p=>by
    rw[QcQ]
    split
    · simp
    · have :=Qi2 l p;simp;omega
theorem Qpm: ∀(l:List (List Int×Int))(p:List Int),(∀e∈l,Qun e.1)→Qun p→(l.Pairwise fun a b=>a.1≠b.1)→(QcQ l p).Pairwise fun a b=>a.1≠b.1
  | [],p,_,_,_=>by simp [QcQ]
  | (q,k)::l,p,hi,hp,hd=>by
    have⟨h1,h2⟩:=List.pairwise_cons.1 hd
    rw[QcQ]
    split
    · exact List.pairwise_cons.2 ⟨fun e he=>h1 e he,h2⟩
    · rename_i hne
      refine List.pairwise_cons.2 ⟨fun e he=> ?_,Qpm l p (fun x hx=>hi x (by simp [hx])) hp h2⟩
      rcases Qdf l p e he with h3| ⟨k',h3,_⟩|h3
      · exact h1 e h3
      · exact h1 (e.1,k') h3
      · subst h3
        intro e
        have e':q=p:=e
        exact hne (by rw[e'])
theorem Qd2.with{N:Nat}{l:List (List Int×Int)}{p:List Int}(h:Qd2 N l)(hp:Qun p):Qd2 (N+1) (QcQ l p):=by
  refine⟨fun e he=> ?_,fun e he=> ?_,Qpm l p h.i hp h.d,Nat.le_trans (Qi2 l p) (by have :=h.n;omega)⟩
  · rcases Qdf l p e he with h3| ⟨k',h3,_⟩|h3
    · exact h.i e h3
    · exact h.i (e.1,k') h3
    · subst h3;exact hp
  · rcases Qdf l p e he with h3| ⟨k',h3,h4⟩|h3
    · have :=h.k e h3;omega
    · have :=h.k _ h3
      dsimp only at this
      omega
    · subst h3;exact⟨by show(1:Int)≤1;omega,by show(1:Int)≤_;omega⟩
theorem Qgv: ∀(l:List (List Int×Int))(p:List Int),(∀e∈l,1≤e.2)→Qfv (QcQ l p)=Qfv l*P p
  | [],p,_=>by
    show P p^ (1:Int).toNat*1=1*P p
    rw[QaE,QbD];exact Qcj _
  | (q,k)::l,p,h=>by
    have hk:1≤k:=h (q,k) (by simp)
    rw[QcQ]
    split
    · rename_i he
      show P q^ (k+1).toNat*Qfv l=P q^k.toNat*Qfv l*P p
      rw[show(k+1).toNat=k.toNat+1 by omega,XP,←Yf p,←he,Yf]
      exact QP.eq fun x=>by simp only[Xq];grind
    · show P q^k.toNat*Qfv (QcQ l p)=P q^k.toNat*Qfv l*P p
      rw[Qgv l p fun e he=>h e (by simp [he]),XI]
theorem Qal{π ρ:QP}(hπ:Irr π)(hρ:Irr ρ)(h:π∣ρ):ρ∣π:=by
  obtain⟨q,e⟩:=h
  rcases hρ.2 q π e with h1|h1
  · obtain⟨r,hr,rfl⟩:=Qbj h1
    rw[e]
    exact(Qdz hr).2 (XL _)
  · have :=hπ.1;omega
theorem QdP{π p:QP}(hπ:Irr π)(hp:Irr p)(h:π∣p):va π p=1:=by
  have h1:=(XM hπ hp.ne).1 h
  have h2:=QfZ hπ hp.ne
  have h3:=Qal hπ hp h
  have h4:=Qaj h3 hπ.ne
  have h5:=Qaj h hp.ne
  apply Classical.byContradiction
  intro hx
  have h6:=(QaW hπ hp.ne 2).2 (by omega)
  have h7:=Qaj h6 hp.ne
  have h8:dg (π^2)+1=dg (π^1)+dg π:=Qe3 hπ.ne 1
  rw[Qcj] at h8
  have :=hπ.1
  omega
def Qpt(Q:QP)(u:Int)(N:Nat)(l:List (List Int×Int)):Prop:=Q=K u*Qfv l∧Qd2 N l
def Qps(Q:QP)(u:Int)(N:Nat)(l:List (List Int×Int))(ps:List (List Int))(k:Nat):Prop:=Q=K u*Qfv l*QqT (ps.drop k)∧Qd2 (N+k) l∧(∀p∈ps,Qun p)
theorem Qpt.enter{Q:QP}{u v:Int}{N:Nat}{l:List (List Int×Int)}{F:List Int}{ps:List (List Int)}(h:Qpt Q u N l)(hs:QuB F v ps):Qps (Q*P F) (u*v) N l ps 0:=by
  refine⟨?_,h.2,hs.1⟩
  rw[h.1,hs.2.1,List.drop_zero,Rat.intCast_mul]
  exact QP.eq fun x=>by simp only[Xq,v_K];grind
theorem Qps.step{Q:QP}{u:Int}{N k:Nat}{l:List (List Int×Int)}{ps:List (List Int)}{p:List Int}(h:Qps Q u N l ps k)(hp:ps[k]? =some p):Qps Q u N (QcQ l p) ps (k+1):=by
  have hd:ps.drop k=p::ps.drop (k+1):=by
    rw[List.getElem?_eq_some_iff] at hp
    obtain⟨hk,rfl⟩:=hp
    exact List.drop_eq_getElem_cons hk
  refine⟨?_,h.2.1.with (h.2.2 p (List.mem_of_getElem? hp)),h.2.2⟩
  rw[h.1,hd,Qgv _ _ fun e he=>(h.2.1.k e he).1]
  show K u*Qfv l*(P p*QqT (ps.drop (k+1)))=_
  exact QP.eq fun x=>by simp only[Xq];grind
def Qxa(Q:QP)(u:Int)(l:List (List Int×Int)):Prop:=(u=0∧Q=0∧l=[])∨(u≠0∧Q=K u*Qfv l∧Qd2 10 l)
theorem Qpt.zero{Q:QP}{u:Int}{N:Nat}{l:List (List Int×Int)}(h:Qpt Q u N l)(h0:u=0):Qxa Q 0 []:= .inl ⟨rfl,by rw[h.1,h0,QfJ];exact QP.eq fun x=>by simp only[Xq,v_K,v_0];grind,rfl⟩
end Go.Gx
namespace Go.Gx
theorem QwH{f g:List Int}(h:Xa f=[]∨Xa g=[]):[]=Xa (Xg f g):=by
  have :P (Xg f g)=P []:=by
    rw[Zb,QdA]
    rcases h with h|h
    · rw[←Yf f,h,QdA,XG]
    · rw[←Yf g,h,QdA,Ys]
  have :=QfO this
  rw[this];rfl
end Go.Gx
namespace Go.Gx
end Go.Gx
namespace Go.Gx
theorem Qhr{a b:QP}(h:a∣b): ∀m:Nat,a^m∣b^m
  |0=>by rw[YO,YO];exact XL _
  |m+1=>by rw[XP,XP];exact Qk2 (Qhr h m) h
structure QgG (f:List Int) (l:List (List Int)):Prop where
  n: ∀h∈l,Nrm h
  irr: ∀h∈l,Irr (P h)
  prod:P (pL l)=P f
theorem XY(a:List Int)(l:List (List Int)):P (pL (a::l))=P a*P (pL l):=by show P (Xg a (pL l))=_;rw[Zb]
theorem Qtq: ∀{l:List (List Int)},(∀h∈l,Nrm h)→P (pL l)≠0
  | [],_=>by show P [1]≠0;rw[Qcw];exact QkP
  |a::l,h=>by rw[XY];exact QaT (h a (by simp)).ne (Qtq fun x hx=>h x (by simp [hx]))
theorem QkS{a:List Int}: ∀{l:List (List Int)},a∈l→P a∣P (pL l)
  |b::l,h=>by
    rw[XY]
    rcases List.mem_cons.1 h with rfl|h
    · exact Qdl _ (XL _)
    · exact XJ _ (QkS h)
theorem QrX{π:QP}(hπ:Irr π): ∀{l:List (List Int)},π∣P (pL l)→ ∃h∈l,π∣P h
  | [],h=>by
    have h1:P (pL [])=1:=Qcw
    rw[h1] at h;exact absurd h (Qfj hπ)
  |a::l,h=>by
    rw[XY] at h
    rcases Qc8 hπ h with h|h
    · exact⟨a,by simp,h⟩
    · obtain⟨x,hx,hd⟩:=QrX hπ h;exact⟨x,by simp [hx],hd⟩
theorem Qhm{a b:List (List Int)}(h:a.Perm b):P (pL a)=P (pL b):=by
  induction h with
  |nil=>rfl
  |cons x _ ih=>rw[XY,XY,ih]
  |swap x y l=>rw[XY,XY,XY,XY,←XI,XT (P y),XI]
  |trans _ _ h1 h2=>rw[h1,h2]
theorem QgG.perm{f:List Int}{l l':List (List Int)}(h:QgG f l)(hp:l'.Perm l):QgG f l':=
  ⟨fun x hx=>h.n x (hp.mem_iff.1 hx),fun x hx=>h.irr x (hp.mem_iff.1 hx),(Qhm hp).trans h.prod⟩
theorem ZX{a b:List Int}(ha:Nrm a)(hb:Nrm b)(ia:Irr (P a))(ib:Irr (P b))(h:P a∣P b):a=b:=ha.eq hb h (Qal ia ib h)
theorem Qjy{a:List Int}(ha:Nrm a)(h:Irr (P a)):2≤a.length:=by
  have :=h.1;rw[Yj,ha.t] at this;exact this
theorem QgG.nodup{f:List Int}{l:List (List Int)}(h:QgG f l)(hs: ∀π,Irr π→va π (P f)≤1):l.Nodup:=by
  obtain⟨hn,hi,hp⟩:=h
  rw[←hp] at hs
  clear hp
  induction l with
  |nil=>exact List.nodup_nil
  |cons a l ih=>
    have hl: ∀x∈l,Nrm x:=fun x hx=>hn x (by simp [hx])
    have hne:=Qtq hl
    have ha:=hn a (by simp)
    have hia:=hi a (by simp)
    refine List.nodup_cons.2 ⟨fun hm=> ?_,ih (fun π hπ=> ?_) hl fun x hx=>hi x (by simp [hx])⟩
    · have h1:=hs _ hia
      rw[XY,Qaz hia ha.ne hne] at h1
      have h2:=(XM hia ha.ne).1 (XL _)
      have h3:=(XM hia hne).1 (QkS hm)
      omega
    · have h1:=hs π hπ
      rw[XY,Qaz hπ ha.ne hne] at h1
      omega
noncomputable def ZO:List (List Int×Nat)→QP
  | []=>1
  |x::l=>P x.1^x.2*ZO l
theorem QbZ: ∀{l:List (List Int×Nat)},(∀x∈l,Nrm x.1)→ ∃b,Nrm b∧P b=ZO l
  | [],_=>⟨[1],Nrm.one,Qcw⟩
  |x::l,h=>by
    obtain⟨b,hb,e⟩:=QbZ (l:=l) fun y hy=>h y (by simp [hy])
    obtain⟨a,ha,e'⟩:=(h x (by simp)).pow x.2
    exact⟨Xa (Xg a b),ha.mul hb,by rw[Yf,Zb,e,e'];rfl⟩
structure Qbb (F:List Int) (fs:List (List Int×Nat)):Prop where
  ne:P F≠0
  n: ∀x∈fs,Nrm x.1
  irr: ∀x∈fs,Irr (P x.1)
  k1: ∀x∈fs,1≤x.2
  v: ∀x∈fs,va (P x.1) (P F)=x.2
  all: ∀π,Irr π→π∣P F→ ∃x∈fs,P x.1∣π
  asc:fs.Pairwise fun a b=>Qbv a.1 b.1<0
section
variable{F:List Int}{fs:List (List Int×Nat)}
theorem Qbb.inj(h:Qbb F fs): ∀x∈fs,∀y∈fs,P x.1∣P y.1→x=y:=fun x hx y hy hd=>by
  have e:=ZX (h.n x hx) (h.n y hy) (h.irr x hx) (h.irr y hy) hd
  have h1:=h.v x hx
  have h2:=h.v y hy
  rw[e] at h1
  exact Prod.ext e (h1.symm.trans h2)
theorem QeJ{π:QP}(hπ:Irr π): ∀{l:List (List Int×Nat)},(∀x∈l,Nrm x.1)→(∀x∈l,Irr (P x.1))→l.Pairwise (fun a b=>a.1≠b.1)→(∀x∈l,π∣P x.1→va π (ZO l)=x.2)∧((∀x∈l,¬π∣P x.1)→va π (ZO l)=0)
  | [],_,_,_=>⟨by simp,fun _=>Qv2 hπ (r:=1) (by decide)⟩
  |a::l,hn,hi,hp=>by
    have hn': ∀x∈l,Nrm x.1:=fun x hx=>hn x (by simp [hx])
    have hi': ∀x∈l,Irr (P x.1):=fun x hx=>hi x (by simp [hx])
    have⟨i1,i2⟩:=QeJ hπ hn' hi' (List.pairwise_cons.1 hp).2
    obtain⟨b,hb,e⟩:=QbZ hn'
    have ha:=hn a (by simp)
    have hm:va π (ZO (a::l))=a.2*va π (P a.1)+va π (ZO l):=by
      show va π (P a.1^a.2*ZO l)=_
      rw[Qaz hπ (ZP ha.ne _) (by rw[←e];exact hb.ne),QgC hπ ha.ne]
    have hz: ¬π∣P a.1→va π (P a.1)=0:=fun h=>by have :=mt (XM hπ ha.ne).2 h;omega
    refine⟨fun x hx hd=> ?_,fun h=> ?_⟩
    · rcases List.mem_cons.1 hx with rfl|hx
      · rw[hm,QdP hπ (hi x (by simp)) hd,i2 fun y hy hy'=> ?_]
        · omega
        · have e1:=Qal hπ (hi x (by simp)) hd
          exact(List.pairwise_cons.1 hp).1 y hy (ZX ha (hn' y hy) (hi x (by simp)) (hi' y hy) (Yq e1 hy'))
      · have hna: ¬π∣P a.1:=fun h=>by
          have e1:=Qal hπ (hi a (by simp)) h
          exact(List.pairwise_cons.1 hp).1 x hx (ZX ha (hn' x hx) (hi a (by simp)) (hi' x hx) (Yq e1 hd))
        rw[hm,hz hna,i1 x hx hd];omega
    · rw[hm,hz (h a (by simp)),i2 fun x hx=>h x (by simp [hx])];omega
theorem Qbb.diff(h:Qbb F fs):fs.Pairwise fun a b=>a.1≠b.1:=h.asc.imp fun {a b} h e=>by rw[e,QbL] at h;omega
theorem Qbb.prod(h:Qbb F fs):ZO fs=P (Xr F):=by
  obtain⟨b,hb,e⟩:=QbZ h.n
  have hpn:=YD h.ne
  have :b=Xr F:=hb.eq_va hpn fun π hπ=>by
    have⟨i1,i2⟩:=QeJ hπ h.n h.irr h.diff
    rw[e,QcP hπ h.ne]
    by_cases hd:π∣P F
    · obtain⟨x,hx,hxd⟩:=h.all π hπ hd
      rw[i1 x hx (Qal (h.irr x hx) hπ hxd),←h.v x hx]
      have hdx:=Qal (h.irr x hx) hπ hxd
      have a1:=QbE (h.irr x hx) h.ne
      have a2:=QbE hπ h.ne
      refine Nat.le_antisymm ?_ ?_
      · refine(QaW hπ h.ne _).1 (Yq (Qhr hdx _) ((QaW (h.irr x hx) h.ne _).2 (Nat.le_refl _)))
      · refine(QaW (h.irr x hx) h.ne _).1 (Yq (Qhr hxd _) ((QaW hπ h.ne _).2 (Nat.le_refl _)))
    · rw[i2 fun x hx hdx=> ?_]
      · have :=mt (XM hπ h.ne).2 hd;omega
      · refine hd (Yq hdx ((XM (h.irr x hx) h.ne).2 ?_))
        have :=h.v x hx;have :=h.k1 x hx;omega
  rw[←e,this]
end
structure Qpu (ds:List (List Int×Nat)) (L:List (List Int×Nat)):Prop where
  n: ∀x∈L,Nrm x.1
  irr: ∀x∈L,Irr (P x.1)
  fr: ∀x∈L,∃d∈ds,d.2=x.2∧P x.1∣P d.1
  all: ∀d∈ds,∀π,Irr π→π∣P d.1→ ∃x∈L,x.2=d.2∧P x.1∣π
  nd:L.Pairwise fun a b=>a.1≠b.1
theorem Qpu.nil:Qpu [] []:=⟨by simp,by simp,by simp,by simp,List.Pairwise.nil⟩
theorem Qpu.more{p:QP}{ds L:List (List Int×Nat)}{d:List Int×Nat}{l:List (List Int)}(h:Qpu ds L)(hd:DE p d)(hds: ∀x∈ds,DE p x∧x.2<d.2)(hl:QgG d.1 l):Qpu (ds++[d]) (L++l.map fun h=>(h,d.2)):=by
  have hdv: ∀x∈l,P x∣P d.1:=fun x hx=>by rw[←hl.prod];exact QkS hx
  refine⟨fun x hx=> ?_,fun x hx=> ?_,fun x hx=> ?_,fun e he π hπ hdπ=> ?_,?_⟩
  · rcases List.mem_append.1 hx with hx|hx
    · exact h.n x hx
    · obtain⟨a,ha,rfl⟩:=List.mem_map.1 hx;exact hl.n a ha
  · rcases List.mem_append.1 hx with hx|hx
    · exact h.irr x hx
    · obtain⟨a,ha,rfl⟩:=List.mem_map.1 hx;exact hl.irr a ha
  · rcases List.mem_append.1 hx with hx|hx
    · obtain⟨d',h1,h2⟩:=h.fr x hx;exact⟨d',List.mem_append_left _ h1,h2⟩
    · obtain⟨a,ha,rfl⟩:=List.mem_map.1 hx
      exact⟨d,by simp,rfl,hdv a ha⟩
  · rcases List.mem_append.1 he with he|he
    · obtain⟨x,hx,h1⟩:=h.all e he π hπ hdπ;exact⟨x,List.mem_append_left _ hx,h1⟩
    · rw[List.mem_singleton.1 he] at hdπ⊢
      rw[←hl.prod] at hdπ
      obtain⟨a,ha,hda⟩:=QrX hπ hdπ
      exact⟨(a,d.2),List.mem_append_right _ (List.mem_map.2 ⟨a,ha,rfl⟩),rfl,Qal hπ (hl.irr a ha) hda⟩
  · refine List.pairwise_append.2 ⟨h.nd,?_,fun a ha b hb e=> ?_⟩
    · refine List.pairwise_map.2 ((hl.nodup fun π hπ=> ?_).imp fun h e=>h e)
      rw[hd.v π hπ];split<;>omega
    · obtain⟨c,hc,rfl⟩:=List.mem_map.1 hb
      obtain⟨d',h1,h2,h3⟩:=h.fr a ha
      have hi:=hl.irr c hc
      have⟨hde,hlt⟩:=hds d' h1
      have v1:=hde.v _ hi
      have v2:=hd.v _ hi
      rw[show a.1=c from e] at h3
      have p1:=(XM hi hde.n.ne).1 h3
      have p2:=(XM hi hd.n.ne).1 (hdv c hc)
      split at v1
      · split at v2
        · omega
        · omega
      · omega
theorem Qpu.done{F:List Int}{ds L L':List (List Int×Nat)}{k:Nat}(h:Qpu ds L)(hF:P F≠0)(hd:DL (P (Xr F)) k ds)(hall: ∀π,Irr π→va π (P (Xr F))<k)(hp:L'.Perm L)(hs:L'.Pairwise fun x y=> ¬Qbv (Xa y.1) (Xa x.1)<0):Qbb F L':=by
  have hm: ∀x,x∈L'↔x∈L:=fun x=>hp.mem_iff
  have hv: ∀x∈L,∃d∈ds,DE (P (Xr F)) d∧d.2=x.2∧va (P x.1) (P F)=x.2:=fun x hx=>by
    obtain⟨d,h1,h2,h3⟩:=h.fr x hx
    have hde:=hd.e d h1
    have v1:=hde.v _ (h.irr x hx)
    have p1:=(XM (h.irr x hx) hde.n.ne).1 h3
    refine⟨d,h1,hde,h2,?_⟩
    rw[←QcP (h.irr x hx) hF]
    split at v1<;>omega
  refine⟨hF,fun x hx=>h.n x ((hm x).1 hx),fun x hx=>h.irr x ((hm x).1 hx),fun x hx=> ?_,fun x hx=> ?_,fun π hπ hdv=> ?_,?_⟩
  · obtain⟨d,_,hde,e,_⟩:=hv x ((hm x).1 hx)
    have :=hde.k1;omega
  · obtain⟨d,_,hde,e,v⟩:=hv x ((hm x).1 hx);exact v
  · have h1:1≤va π (P (Xr F)):=by rw[QcP hπ hF];exact(XM hπ hF).1 hdv
    obtain⟨f,hf,e⟩:=hd.all π hπ h1 (hall π hπ)
    have hde:=hd.e f hf
    have v1:=hde.v π hπ
    rw[if_pos e.symm] at v1
    obtain⟨x,hx,_,h2⟩:=h.all f hf π hπ ((XM hπ hde.n.ne).2 (by omega))
    exact⟨x,(hm x).2 hx,h2⟩
  · have hnd:L'.Pairwise fun a b=>a.1≠b.1:=(hp.pairwise_iff fun h e=>h e.symm).2 h.nd
    refine List.Pairwise.imp_of_mem (fun {a b} ha hb hab=> ?_) (hs.and hnd)
    obtain⟨h1,h2⟩:=hab
    rw[(h.n a ((hm a).1 ha)).t,(h.n b ((hm b).1 hb)).t] at h1
    have h3:=Qbe a.1 b.1
    have h4:Qbv a.1 b.1≠0:=fun h5=>h2 (Qag.1 h5)
    omega
end Go.Gx
namespace Go.Gx
theorem QtC{p:Nat}(hp:0<p){l l':List Int}(h:CgV (p:Int) l l'):XR p l=XR p l':=by
  have key: ∀l:List Int,zl (XR p l)=Xa (zl (XR p l)):=fun l=>by rw[←Qj8,(XK hp l).trim]
  have h1:zl (XR p l)=zl (XR p l'):=by
    rw[key l,key l']
    refine YP fun i=> ?_
    have e: ∀l:List Int,co (zl (XR p l)) i=((md p (co l i):Nat):Int):=fun l=>by rw[XR,Qbf,ZK l i (Yb p)]
    rw[e,e]
    obtain⟨k,hk⟩:=h.cof i
    rw[Qfm hp (show Cg p (co l i) (co l' i) from⟨k,hk⟩)]
  have h3: ∀l:List Nat,(zl l).map Int.toNat=l:=fun l=>by
    unfold zl
    rw[List.map_map]
    exact(List.map_congr_left fun a _=>Int.toNat_natCast a).trans (List.map_id l)
  have h2: ∀a b:List Nat,zl a=zl b→a=b:=fun a b hab=>by rw[←h3 a,hab,h3]
  exact h2 _ _ h1
section
variable{p:Nat}{Gs:List (List Int)}{ds:List (List Nat)}{f:List Int}{c:Int}
end
end Go.Gx
namespace Go.Gx
theorem QbW{p:Nat}(hp:2≤p){ds:List (List Nat)}(h: ∀d∈ds,Zw p d):Ql0 p ds=ds:=by
  unfold Ql0
  conv=>rhs;rw[←List.map_id ds]
  exact List.map_congr_left fun d hd=>Qgq hp (h d hd)
theorem Qrx{p:Nat}(hp:Xk p){ds:List (List Nat)}(hm: ∀d∈ds,Zw p d)(h:CoA p ds):Pw (p:Int) (ds.map zl):=by
  refine Qtx fun i j a b hj ha hb=> ?_
  rw[List.getElem?_map] at ha hb
  obtain⟨x,hx,rfl⟩:=Option.map_eq_some_iff.1 ha
  obtain⟨y,hy,rfl⟩:=Option.map_eq_some_iff.1 hb
  have h1:=hm x (List.mem_of_getElem? hx)
  have h2:=hm y (List.mem_of_getElem? hy)
  have h3:=h i j x y hj hx hy
  unfold GC at h3
  rw[h1.can.nrm,h2.can.nrm] at h3
  have :=h1.pos
  exact ZC hp h1.can h2.can (by omega) h3
theorem QqD{p:Nat}{z:Int}(hp:0<p)(h:md p z≠0): ¬(p:Int)∣z:=fun⟨k,hk⟩=>h (by rw[hk,Qfm hp (show Cg p ((p:Int)*k) 0 from Cg.self k),Yb])
theorem QkC{p k e:Nat}{f:List Int}{ds:List (List Nat)}(hp:Xk p)(hm: ∀d∈ds,Zw p d)(hc:CoA p (Ql0 p ds))(hb: ¬Qut p f (Ql0 p ds)){L0 L1:List (List Int)}
    (h:LReach p k f (Qae p (Ql0 p ds)) (Qae p (Qaq p (Ql0 p ds))) L0 L1 e): ∃n,Qmt p f (Qae p ds) L0 L1 e n:=by
  have hp0:0<p:=by have :=hp.1;omega
  have hl:md p (ldP f)≠0:=fun h=>hb (.inl h)
  have hs:XO p (QcM p [md p (ldP f)] (Ql0 p ds))=XO p (XR p f):=by
    rcases Classical.em (XO p (QcM p [md p (ldP f)] (Ql0 p ds))=XO p (XR p f)) with h1|h1
    · exact h1
    · exact absurd (.inr h1) hb
  rw[QbW hp.1 hm] at hc hs h
  obtain⟨n,hi,_,hn⟩:=QlW hp hm (Qrx hp hm hc) hs
  refine⟨n,QoG hp hi ⟨by simpa [Qae] using hn,fun h0=> ?_⟩ (QqD hp0 hl) h⟩
  have h3:ds=[]:=List.eq_nil_of_length_eq_zero (by simpa [Qae] using h0)
  have h4:=hi.ms
  rw[h3] at h4
  change MS [] _ n at h4
  cases h4;rfl
theorem QkD{p e n:Nat}{f:List Int}{ds:List (List Nat)}{L0 L1:List (List Int)}(hi:Qmt p f (Qae p ds) L0 L1 e n):L0.length=ds.length∧ ∀(i:Nat)(u:List Int),L0[i]? =some u→ ∃d,Mon u d:=by
  have hl:=hi.fit.len
  refine⟨by simpa [Qae] using hl,fun i u hu=> ?_⟩
  obtain⟨b,hb⟩: ∃b,(Qae p ds)[i]? =some b:=⟨_,List.getElem?_eq_getElem (by have :=(List.getElem?_eq_some_iff.1 hu).1;omega)⟩
  obtain⟨d,hM,_⟩:=hi.fit.at i u b hu hb
  exact⟨d,hM⟩
theorem Qte{p k:Nat}{f:List Int}{ds:List (List Nat)}(hp:Xk p)(hm: ∀d∈ds,Zw p d)(hc:CoA p (Ql0 p ds))(hb: ¬Qut p f (Ql0 p ds)):
    ∀L0 L1 e,LReach p k f (Qae p (Ql0 p ds)) (Qae p (Qaq p (Ql0 p ds))) L0 L1 e→ ∀u∈L0,0<(Xa u).length:=fun L0 L1 e h u hu=>by
  obtain⟨n,hi⟩:=QkC hp hm hc hb h
  obtain⟨i,hiu⟩:=List.getElem?_of_mem hu
  obtain⟨d,hM⟩:=(QkD hi).2 i u hiu
  rw[hM.len];omega
theorem QnN{p k e n:Nat}{f:List Int}{A0 L0 L1:List (List Int)}(hi:Qmt p f A0 L0 L1 e n)(hx:e=k∨QfU f L0):CgV ((p^k:Nat):Int) (Xf (pL L0) (ldP f)) f:=by
  rcases hx with h|h
  · subst h;exact hi.pr
  · refine CgV.eqv fun x=> ?_
    unfold QfU at h
    rw[Xm,←QaD f,h,QaD,Qkp,Xj]
theorem QrR{F:List Int}{n:Nat}(h:(Xa F).length=n+1):ldP F=co F n:=by
  unfold ldP
  rw[h,show(((n+1:Nat):Int) -1)=((n:Nat):Int) by omega,QeV,Xo]
theorem QjO{p:Nat}(f:List Int)(i:Nat):(XR p f).getD i 0=md p (co f i):=by
  have h1:=Qbf (f.map (md p)) i
  have h2:(XR p f).getD i 0=(f.map (md p)).getD i 0:=by
    have h3:=ZS (XR p f) i
    unfold XR at h3⊢
    rw[h3] at h1
    exact Int.ofNat_inj.1 h1
  rw[h2,ZK f i (Yb p)]
theorem QeC{p:Nat}(hp:0<p)(f:List Int):(XR p f).length≤(Xa f).length:=by
  rcases Nat.lt_or_ge (Xa f).length (XR p f).length with h|h
  · exfalso
    have h1:=(XK hp f).2 (by omega)
    rw[QjO,←Xo,XX (by omega),Yb] at h1
    omega
  · exact h
theorem QkB{p:Nat}(hp:0<p){f:List Int}(h:md p (ldP f)≠0):(XR p f).length=(Xa f).length∧0<(XR p f).length:=by
  have h0:0<(Xa f).length:=by
    rcases Nat.eq_zero_or_pos (Xa f).length with e|e
    · exfalso;refine h ?_
      have :Xa f=[]:=List.eq_nil_of_length_eq_zero e
      unfold ldP;rw[this]
      have :coI [] ((([]:List Int).length:Int) -1)=0:=by unfold coI;rw[if_pos (by simp)]
      rw[this,Yb]
    · exact e
  obtain⟨n,hn⟩: ∃n,(Xa f).length=n+1:=⟨(Xa f).length -1,by omega⟩
  rw[QrR hn] at h
  have h1:=QeC hp f
  rcases Nat.lt_or_ge n (XR p f).length with h2|h2
  · omega
  · exfalso
    have h3:=QjO (p:=p) f n
    have h4:(XR p f).getD n 0=0:=by
      have :=ZS (XR p f) n
      rw[XX (by rw[Zl];omega)] at this
      omega
    omega
theorem Qqr{p:Nat}(hp:0<p){f:List Int}(h:(XR p f).length=(Xa f).length)(h0:0<(XR p f).length):md p (ldP f)=XW (XR p f)∧md p (ldP f)≠0:=by
  obtain⟨n,hn⟩: ∃n,(Xa f).length=n+1:=⟨(Xa f).length -1,by omega⟩
  have h1:=(XK hp f).2 (by omega)
  have e:XW (XR p f)=md p (ldP f):=by
    unfold XW
    rw[h,hn,Nat.add_sub_cancel,QjO,QrR hn]
  exact⟨e.symm,by rw[←e];unfold XW;omega⟩
theorem Qjw{p:Nat}(hp:Xk p){f:List Int}{ds:List (List Nat)}(hf:Zv p (zl (XS p (XO p (XR p f)))) ds)(h:(XR p f).length=(Xa f).length)(h0:0<(XR p f).length): ¬Qut p f (Ql0 p ds):=by
  have hp0:0<p:=by have :=hp.1;omega
  obtain⟨h1,h2⟩:=Qqr hp0 h h0
  rw[QbW hp.1 hf.mon]
  have hc:=XK hp0 f
  rw[hc.nrm] at hf
  intro hb
  rcases hb with hb|hb
  · exact h2 hb
  · refine hb ?_
    rw[Qez,Qez]
    refine QtC hp0 ((QeB hp0 ds _).trans ?_)
    obtain⟨_,_,h3⟩:=QjD hp hc h0
    refine(((CgV.refl _ _).mul hf.prod).trans ?_).trans h3.symm
    refine CgV.eqv fun x=> ?_
    rw[Xc,Xm,h1]
    simp only[zl,List.map,evI];grind
end Go.Gx
