/-
  F12, F13, F14
-/
import Derived.Test.YtjdpemcnlejpfaaGreatDoorF10
import Derived.Test.YtjdpemcnlejpfaaGreatDoorDecP
import Derived.Test.YtjdpemcnlejpfaaGreatDoorSuitThy
import Derived.Test.YtjdpemcnlejpfaaGreatDoorAmS2
set_option linter.all false
namespace Go.Proofs.YtjdpemcnlejpfaaGreatDoor
open Go.RowKit Go.Gx Go.Am Tryz
structure Qpp (p N:Nat) (f0:List Int) (s:Nat) (Z:LZs) (f:List Int) (fd:List (List Int)):Prop where
  ri:QeK p N Z f
  sm:Qmp p N Z f s
  n: ∀g∈fd,Nrm g
  irr: ∀g∈fd,Irr (P g)
  prod:P f0=P (pL fd)*P f
theorem Qtj{p N:Nat}{Z:LZs}{f:List Int}(I:QeK p N Z f): ∃d,Mon (pA Z) d∧f.length=d+1∧Z.length≤d:=by
  obtain⟨d,h1,_,_,h2⟩:=pAB I.z
  have h0:ldP f≠0:=by have :=I.nrm.s;omega
  have h3:=QrB (q:=p^N) I.two (QaZ (N:=N) I.pr I.lead) h0 h1 I.cg
  rw[I.nrm.t] at h3
  exact⟨d,h1,h3,h2⟩
theorem Qg1: ∀{Z:LZs}{p:Nat},(∀z∈Z,LZ p z)→Mon (pA Z) (Qd8 (Z.map Prod.fst))
  | [],_,_=>Qat
  |z::Z,p,h=>by
    have h1:=Qg1 (Z:=Z) (p:=p) fun y hy=>h y (by simp [hy])
    obtain⟨d,h2,_⟩:=(h z (by simp)).up
    have h3:=h2.len
    have h4:Qd8 ((z::Z).map Prod.fst)=((Xa z.1).length -1)+Qd8 (Z.map Prod.fst):=rfl
    rw[h4,h3,Nat.add_sub_cancel]
    exact h2.mul h1
theorem QtY{Z S C:LZs}(h:Spl Z S C):Qd8 (S.map Prod.fst)+Qd8 (C.map Prod.fst)=Qd8 (Z.map Prod.fst):=by
  have key: ∀(a:List Int)(l:List (List Int)),Qd8 (a::l)=((Xa a).length -1)+Qd8 l:=fun _ _=>rfl
  induction h with
  |nil=>rfl
  |l _ ih=>simp only[List.map_cons,key];omega
  |r _ ih=>simp only[List.map_cons,key];omega
theorem Qvb{f:List Int}{m:Nat}(hb:HB f m)(hn:Nrm f)(i:Nat):(co f i).natAbs<m:=by
  have h:=hb f [1] (by rw[Qcw,QaE]) i
  rw[Int.natAbs_mul] at h
  have h1:1≤(ldP f).natAbs:=by have :=hn.s;omega
  have :=Nat.mul_le_mul_right (co f i).natAbs h1
  omega
theorem Qpp.ok{p N s:Nat}{f0 f:List Int}{Z:LZs}{fd:List (List Int)}{c:List Nat}{r:List Int}(h:Qpp p N f0 s Z f fd)(hc:Asc Z.length 0 c)(hl:c.length=s)(hs:1≤s)(e:P f=P r*P (Xr (QeH (p^N) f (QfA Z c))))(ht:Xa r=r):
    Qpp p N f0 s (Qdh 0 Z c) r (fd++[Xr (QeH (p^N) f (QfA Z c))]):=by
  have hS:=QcN hc
  have hlen:(QfA Z c).length=c.length:=by simp [QfA]
  obtain⟨g1,g2,g3⟩:=Qr8 h.ri hS (by omega) rfl e ht
  refine⟨g2,h.sm.rest hS g1.1 e,fun g hg=> ?_,fun g hg=> ?_,?_⟩
  · rcases List.mem_append.1 hg with hg|hg
    · exact h.n g hg
    · rw[List.mem_singleton.1 hg];exact g1.1
  · rcases List.mem_append.1 hg with hg|hg
    · exact h.irr g hg
    · rw[List.mem_singleton.1 hg];exact QtB h.ri h.sm hS (by omega) g1
  · rw[h.prod,Qhm (List.perm_append_comm (l₁:=fd) (l₂:=[_])),List.singleton_append,XY,e]
    rw[XT (P _) (P (pL fd)),XI,XT (P r)]
theorem Qpp.fin{p N s:Nat}{f0 f:List Int}{Z:LZs}{fd:List (List Int)}(h:Qpp p N f0 s Z f fd)(hs:Z.length<2*s)(h2:2≤f.length):QgG f0 (fd++[f]):=by
  refine⟨fun g hg=> ?_,fun g hg=> ?_,?_⟩
  · rcases List.mem_append.1 hg with hg|hg
    · exact h.n g hg
    · rw[List.mem_singleton.1 hg];exact h.ri.nrm
  · rcases List.mem_append.1 hg with hg|hg
    · exact h.irr g hg
    · rw[List.mem_singleton.1 hg];exact QtA h.ri h.sm hs h2
  · rw[h.prod,Qhm (List.perm_append_comm (l₁:=fd) (l₂:=[f])),List.singleton_append,XY,XT]
theorem Qpp.fin1{p N s:Nat}{f0 f:List Int}{Z:LZs}{fd:List (List Int)}(h:Qpp p N f0 s Z f fd)(h2:f.length=1):QgG f0 fd:=by
  refine⟨h.n,h.irr,?_⟩
  have hn:=h.ri.nrm
  have e:f=[1]:=by
    match f,h2 with
    | [a],_=>
      have h3:=hn.c
      have h4:=hn.s
      have h5:ldP [a]=a:=by
        have h6:=hn.t
        unfold ldP;rw[h6];simp [coI,co]
      rw[h5] at h4
      simp [Xy] at h3
      congr 1;omega
  rw[h.prod,e,Qcw,QaE]
theorem Qsp{p N:Nat}{f:List Int}{Z:LZs}{c:List Nat}{φ:Nat→Bool}(I:QeK p N Z f)(hφ:Qbw f φ)(hc:Asc Z.length 0 c)
    (hf:φ (Qd8 ((QfA Z c).map Prod.fst))=true→YY (p^N) (ldP f*evI (pA (QfA Z c)) 0)∣ldP f*evI f 0→ ¬P (Xr (QeH (p^N) f (QfA Z c)))∣P f): ∀g,¬GoodS p N f (QfA Z c) g:=fun g hg=>by
  have hS:=QcN hc
  have hm:=Qg1 (p:=p) (Z:=QfA Z c) fun z hz=>I.z z (hS.mem.1 z hz)
  have hd:=hg.deg I hm
  refine hf ?_ (hg.cst I) (hg.dvd I)
  obtain⟨hn,_,⟨h,_,e⟩,_⟩:=hg
  have :=hφ g h e
  rwa [hn.t,hd,Nat.add_sub_cancel] at this
theorem Qpp.poss{p N s:Nat}{f0 f:List Int}{Z:LZs}{fd:List (List Int)}{φ:Nat→Bool}(h:Qpp p N f0 s Z f fd)(hφ:Qbw f0 φ):Qbw f φ:=fun g k e=>hφ g (Xg (pL fd) k) (by rw[h.prod,Zb,e,←XI,XT (P (pL fd)),XI])
theorem QtI{s k:Nat}(h:k<s):(List.range k++List.replicate (s -k) 0).set k k=List.range (k+1)++List.replicate (s -(k+1)) 0:=by
  rw[show s -k=(s -(k+1))+1 by omega,List.replicate_succ,List.set_append_right _ _ (by simp),List.length_range,Nat.sub_self,List.set_cons_zero,List.range_succ,List.append_assoc]
  rfl
abbrev CmS:=Option Nat×Nat×List (List Int)×LZs×List Int×Nat
set_option maxHeartbeats 4000000 in
instance Qxx:TK prog 113 (∀{p N:Nat}{f:List Int}{Z:LZs}{φ:Nat→Bool}(_:QeK p N Z f)(_:Qbw f φ)(_:f.length≤17)(_: ∀z∈Z,z.1.length≤32) (_:p^N<BS^18),AC prog 113 [] [pc 18 f,pcs 18 (Z.map Prod.fst),iv 18 ((p^N:Nat):Int),sl 1 ((Qap f.length φ).map Bo)] fun K=> ∀k c (l:List (List Int)),QgG f l→l.length≤17→K [(k,.gro 30 1 (l.map (pc 18)) c)] [gh k l.length c]):=⟨fun {p N f0 Z0 φ} hI0 hφ0 hf17 hz0 hpN=>by
  refine aEnter func113 rfl ntmps113 rfl fun K C hC hK=> ?_
  have hm0:0<p^N:=by have :=hI0.two;omega
  repeat(refine zS ?_;intros)
  rename_i g6
  refine AW.ent (entGro 30 1) ?_
  refine aLoop [3,6] (fun x:CmS=>[(0,pc 18 x.2.2.2.2.1),(1,pcs 18 (x.2.2.2.1.map Prod.fst)),(9,gh x.1 x.2.2.1.length x.2.1),(10,Am.N x.2.2.2.2.2)]) (fun x=>[(x.1,.gro 30 1 (x.2.2.1.map (pc 18)) x.2.1),(some g6,.arr 25 2 [iv 18 ((p^N:Nat):Int)])]) (fun x=>Qpp p N f0 x.2.2.2.2.2 x.2.2.2.1 x.2.2.2.2.1 x.2.2.1∧1≤x.2.2.2.2.2∧(∀z∈x.2.2.2.1,z.1.length≤32)∧x.2.2.1.length+x.2.2.2.2.1.length≤f0.length∧x.2.2.2.2.2≤40) (fun x=>x.2.2.2.1.length+(40 -x.2.2.2.2.2)) ((none,0,[],Z0,f0,1):CmS) ⟨⟨hI0,Qmp.one hI0,by simp,by simp,by rw[show pL []=[1] from rfl,Qcw,QbD]⟩,Nat.le_refl _,hz0,by simp,by show 1≤40;omega⟩ (entL (.cons (le_refl _) (.cons (le_refl _) (.cons Qas (.cons zle .nil)))) zk (HLe.refl _)) fun⟨ko,c0,fd,Z,f,s⟩ ⟨hI,hs1,hz,hfd,hs40⟩=> ?_
  dsimp only at hI hs1 hz hfd hs40⊢
  obtain⟨dZ,hdZ1,hdZ2,hdZ3⟩:=Qtj hI.ri
  have hZm:(Z.map Prod.fst).length=Z.length:=List.length_map ..
  have hφ:=hI.poss hφ0
  repeat(refine zS ?_;intros)
  refine zB ?_ ?_<;>intro h1
  · repeat(refine zS ?_;intros)
    rename_i gs
    refine aLoop [0,1,3,6,9,10,11,25] (fun k:Nat=>[(26,Am.N k)]) (fun k=>[(some gs,.arr 3 1 ((List.range k++List.replicate (s -k) 0).map Am.N)),(ko,.gro 30 1 (fd.map (pc 18)) c0),(some g6,.arr 25 2 [iv 18 ((p^N:Nat):Int)])]) (fun k=>k≤s) (fun k=>s -k) 0 (Nat.zero_le _) (entL (.cons zle .nil) zk (.cons (ob_eq (by simp)) (HLe.refl _))) fun k hk=> ?_
    have hlk:(List.range k++List.replicate (s -k) 0).length=s:=by simp;omega
    repeat(refine zS ?_;intros)
    refine zB ?_ ?_<;>intro h2
    · have hset:=QtI (s:=s) (k:=k) (by omega)
      obtain⟨R,eR⟩: ∃R,List.range k++List.replicate (s -k) 0=R:=⟨_,rfl⟩
      rw[eR] at hlk hset⊢
      repeat(refine zS ?_;intros)
      exact aAgain (k+1) (by show k+1≤s;omega) (by show s -(k+1)<s -k;omega) (entL (.cons zle .nil) zk (.cons (ob_eq (by rw[←hset])) (HLe.refl _)))
    obtain rfl:s=k:=by omega
    repeat(refine zS ?_;intros)
    refine aLoop [0,1,3,6,9,10,11] (fun x:Bool×List Nat=>[(13,Bo x.1)]) (fun x=>[(some gs,.arr 3 1 (x.2.map Am.N)),(ko,.gro 30 1 (fd.map (pc 18)) c0),(some g6,.arr 25 2 [iv 18 ((p^N:Nat):Int)])]) (fun x=>x.2.length=s∧Asc Z.length 0 x.2∧(x.1=true→ ∀c',Asc Z.length 0 c'→c'.length=s→Lx c' x.2→ ∀g,¬GoodS p N f (QfA Z c') g)∧(x.1=false→ ∀S C g,Spl Z S C→S.length=s→ ¬GoodS p N f S g)) (fun x=>bif x.1 then(Z.length+1)^s+1 -rkL Z.length x.2 else 0) (true,List.range s) ⟨by simp,by rw[List.range_eq_range'];exact QeL _ _ _ (Nat.le_refl _) (by omega),fun _ c' hc hl hx=>absurd hx (by rw[List.range_eq_range',←hl];exact QnT hc),fun h=>by cases h⟩ (entL (.cons zle .nil) zk (.cons (ob_eq (by simp)) (HLe.refl _))) fun⟨mo,c⟩ ⟨hcl,hca,hT,hF⟩=> ?_
    dsimp only at hcl hca hT hF⊢
    cases mo
    · have hno:=hF rfl
      repeat(refine zS ?_;intros)
      exact aAgain ((ko,c0,fd,Z,f,s+1):CmS) ⟨⟨hI.ri,hI.sm.next hno,hI.n,hI.irr,hI.prod⟩,by show 1≤s+1;omega,hz,hfd,by show s+1≤40;omega⟩ (by show Z.length+(40 -(s+1))<Z.length+(40 -s);omega) (entL (.cons (le_refl _) (.cons (le_refl _) (.cons (le_refl _) (.cons zle .nil)))) zk (.drop (HLe.refl _)))
    have hT:=hT rfl
    have hsel:=QvT (Z:=Z) (c:=c) fun i hi=>(hca.mem i hi).2
    obtain⟨g0,eg0⟩: ∃g0,Xr (QeH (p^N) f (QfA Z c))=g0:=⟨_,rfl⟩
    have hmS:=Qg1 (p:=p) (Z:=QfA Z c) fun z hz'=>hI.ri.z z ((QcN hca).mem.1 z hz')
    obtain⟨t1,t2⟩:=Qlr hI.ri hmS
    have hg0n:Nrm g0:=by
      rw[←eg0];exact YD ((Xz _).1 (by rw[t2];have :=hI.ri.nrm.s;omega))
    have hdlt:Qd8 ((QfA Z c).map Prod.fst)<f0.length:=by
      have h8:=QtY (QcN hca)
      have h9:=(Qg1 hI.ri.z).same hdZ1
      omega
    subst hcl
    have htry:AC prog 150 [(some gs,.arr 3 1 (c.map Am.N))] [pv 18 f,pcs 18 (Z.map Prod.fst),lsl 1 gs 0 c.length c.length,iv 18 ((p^N:Nat):Int),sl 1 ((Qap f0.length φ).map Bo)] fun K=>(∀r,P f=P r*P g0→r.length=(Xa f).length -((Xa g0).length -1)→K [(some gs,.arr 3 1 (c.map Am.N))] [pc 18 g0,pc (18+(18+g0.length+4)*f.length) r,Bo true])∧((φ (Qd8 (QiP (Z.map Prod.fst) c))=true→YY (p^N) (ldP f*evI (pL (QiP (Z.map Prod.fst) c)) 0)∣ldP f*evI f 0→ ¬P g0∣P f)→K [(some gs,.arr 3 1 (c.map Am.N))] [pc 18 [],pc 18 [],Bo false]):=
      Qxc.k (by decide) hm0 (by omega) (by omega) (fun u hu=>by obtain⟨z,hz1,rfl⟩:=List.mem_map.1 hu;obtain⟨d,hd,_⟩:=(hI.ri.z z hz1).up;exact⟨hz z hz1,by rw[hd.len];omega⟩) ⟨by omega,by omega⟩ (fun i hi=>by rw[hZm];exact(hca.mem i hi).2) (by rw[hsel];exact hdlt) (by rw[hsel];exact eg0.symm) (by have :=hg0n.s;omega) hg0n.c
    rw[hsel] at htry
    repeat(refine zS ?_;intros)
    refine alO (aoCallF (x:= .func 150) (cs:=[]) le_fnv 0 (by exact rfl) htry zas (by exact rfl)) zg ⟨fun r hr hrl=>⟨rfl,?_⟩,fun hbad=>⟨rfl,?_⟩⟩
    · have hri:=(Qr8 hI.ri (QcN hca) (by simp [QfA];omega) rfl (by rw[eg0];exact hr) (Qdm hr hI.ri.nrm.ne hrl)).2.1
      have hrb:=Qvb hri.hb hri.nrm
      have hg2:=Qjy (a:=g0)
      have hok:=hI.ok hca rfl hs1 (by rw[eg0];exact hr) (Qdm hr hI.ri.nrm.ne hrl)
      rw[eg0] at hok
      have hg2:2≤g0.length:=Qjy hg0n (hok.irr g0 (by simp))
      have hsl:=(QcN hca).len
      have hsz:(QfA Z c).length=c.length:=by simp [QfA]
      have hrl2:r.length+1≤f.length:=by rw[hI.ri.nrm.t,hg0n.t] at hrl;omega
      repeat(refine zS ?_;intros)
      rename_i k1 c1
      exact aAgain ((k1,c1,fd++[g0],Qdh 0 Z c,r,c.length):CmS) ⟨hok,hs1,fun z hz'=>hz z ((QcN hca).mem.2 z hz'),by show(fd++[g0]).length+r.length≤f0.length;simp;omega,hs40⟩ (by show(Qdh 0 Z c).length+(40 -c.length)<Z.length+(40 -c.length);omega) (entL (.cons (QcI fun i=>Nat.lt_trans (hrb i) hpN) (.cons (show AV.le (pcs 18 (Qdh 0 (Z.map Prod.fst) c)) (pcs 18 ((Qdh 0 Z c).map Prod.fst)) from .of_eq (by rw[QkR])) (.cons (Qcr (by simp)) (.cons zle .nil)))) zk (.drop (.cons (Qa4 (by rw[List.map_append];rfl)) (HLe.refl _))))
    · have hno:=Qsp hI.ri hφ hca (by rw[eg0];exact hbad)
      have hca':Asc (Z.map Prod.fst).length 0 c:=by rw[hZm];exact hca
      have hn1:(Z.map Prod.fst).length≤1000:=by omega
      have hn2:c.length≤(Z.map Prod.fst).length:=by omega
      repeat(refine zS ?_;intros)
      refine⟨fun c1 hn=>⟨rfl,?_⟩,fun hl=>⟨rfl,?_⟩⟩
      · rw[hZm] at hn
        repeat(refine zS ?_;intros)
        exact aAgain (true,c1) ⟨hn.len,hn.asc,fun _ c' hc hl hx=>(hn.nx c' hc hl hx).elim (fun e=>e▸hno) (hT c' hc hl),fun h=>by cases h⟩ (by
          show(Z.length+1)^c.length+1 -rkL Z.length c1<(Z.length+1)^c.length+1 -rkL Z.length c
          have r1:=QvS hn.len.symm (fun x hx=>Nat.le_of_lt (hca.mem x hx).2) hn.lt
          have r2:=Qq1 (n:=Z.length) (l:=c1) fun x hx=>Nat.le_of_lt (hn.asc.mem x hx).2
          rw[hn.len] at r2
          omega) (entL (.cons zle .nil) zk (HLe.refl _))
      · rw[hZm] at hl
        repeat(refine zS ?_;intros)
        exact aAgain (false,c) ⟨rfl,hca,(fun h=>by cases h),fun _=>Qpe hl fun c' hc hl' hx=>hx.elim (fun e=>e▸hno) (hT c' hc hl')⟩ (by
          show 0<(Z.length+1)^c.length+1 -rkL Z.length c
          have r2:=Qq1 (n:=Z.length) (l:=c) fun x hx=>Nat.le_of_lt (hca.mem x hx).2
          omega) (entL (.cons zle .nil) zk (HLe.refl _))
  repeat(refine zS ?_;intros)
  refine zB ?_ ?_<;>intro h2
  · have hft:=congrArg List.length hI.ri.nrm.t
    have hfin:=hI.fin (by omega) (by omega)
    repeat(refine zS ?_;intros)
    rename_i k1 c1
    refine AX.ent (entH (H':=[(k1,.gro 30 1 ((fd++[f]).map (pc 18)) c1)]) (.cons (Qa4 (by rw[List.map_append];rfl)) (HLe.none _))) ?_
    exact aRet (rs:=[.tmp 8]) rfl rfl (.refl _) (arT zv (Qcr (by simp)) arN) (hK k1 c1 _ hfin (by simp;omega))
  · have hft:=congrArg List.length hI.ri.nrm.t
    have hfin:=hI.fin1 (by omega)
    repeat(refine zS ?_;intros)
    refine AX.ent (entH (H':=[(ko,.gro 30 1 (fd.map (pc 18)) c0)]) (.cons (ob_refl _) (HLe.none _))) ?_
    exact aRet (rs:=[.tmp 8]) rfl rfl (.refl _) (arT zv (le_refl _) arN) (hK ko c0 _ hfin (by omega))⟩
end Go.Proofs.YtjdpemcnlejpfaaGreatDoor
namespace Go.Proofs.YtjdpemcnlejpfaaGreatDoor
open Go.RowKit Go.Gx Go.Am Tryz
structure SpF (f:List Int):Prop where
  n:Nrm f
  sq:Qem (P f) (der (P f))
  len:f.length≤17
  five:2≤f.length→5≤QeU (fun p=>decide (Qbx p f)) (Bof f.length)
  hb:HB f (2*(ldP f*QmA f).natAbs+1)
  b5:2*(ldP f*QmA f).natAbs<2^560
theorem Qtp{f:List Int}(h:Nrm f)(h1:f.length=1):f=[1]:=by
  match f,h1 with
  | [a],_=>
    have h3:=h.c
    have h4:=h.s
    have h5:ldP [a]=a:=by
      have h6:=h.t
      unfold ldP;rw[h6];simp [coI,co]
    rw[h5] at h4
    simp [Xy] at h3
    congr 1;omega
theorem QtZ{f:List Int}(h:Nrm f)(h1:f.length=1):QgG f []:=⟨by simp,by simp,by rw[Qtp h h1];rfl⟩
theorem Qo1{f:List Int}(h:Nrm f)(hi:Irr (P f)):QgG f [f]:=⟨fun g hg=>by rw[List.mem_singleton.1 hg];exact h,fun g hg=>by rw[List.mem_singleton.1 hg];exact hi,by rw[XY];show P f*P [1]=_;rw[Qcw,QaE]⟩
theorem Qvj{f:QP}{r:Rat}(hr:r≠0)(h:Irr f):Irr (K r*f):=by
  refine⟨by rw[Qar hr];exact h.1,fun a b e=> ?_⟩
  have e':f=(K (1/r)*a)*b:=QP.eq fun x=>by
    have a1:=qat e x
    simp only[Xq,v_K] at a1⊢
    rw[Rat.mul_assoc,←a1];grind
  rcases h.2 _ _ e' with h1|h1
  · rw[Qar (by grind)] at h1;exact .inl h1
  · exact .inr h1
theorem Qqo{F:List Int}(h:P F≠0):Irr (P F)↔Irr (P (Xr F)):=by
  have hl:=(Xz F).2 h
  have hc:=XC (Yi hl)
  constructor
  · intro hi;rw[QaK hl];exact Qvj (by grind) hi
  · intro hi;rw[QbJ F];exact Qvj hc hi
theorem QjY{f:List Int}{l:List (List Int)}(h:QgG f l):l.length=1↔Irr (P f):=by
  obtain⟨hn,hi,hp⟩:=h
  match l,hn,hi,hp with
  | [],_,_,hp=>exact⟨fun h=>by simp at h,fun h=>by
      exfalso
      have h1:=h.1
      rw[←hp,show pL []=[1] from rfl,Qcw,Qwi] at h1
      omega⟩
  | [a],_,hi,hp=>exact⟨fun _=>by rw[←hp,XY,show pL []=[1] from rfl,Qcw,QaE];exact hi a (by simp),fun _=>rfl⟩
  |a::b::l,hn,hi,hp=>exact⟨fun h=>by simp at h,fun h=>by
      exfalso
      have ha:=(hi a (by simp)).1
      have hb:=(hi b (by simp)).1
      have hne:=Qtq (l:=l) fun x hx=>hn x (by simp [hx])
      have hd:=Zd (hn b (by simp)).ne hne
      have h0:=XF.1 hne
      rw[XY,XY] at hp
      rcases h.2 _ _ hp.symm with h1|h1
      · omega
      · omega⟩
theorem Qne{M:Nat}{l:List (List Int)}:els 1 (l.map (pc M)):=fun a ha=>by obtain⟨x,_,rfl⟩:=List.mem_map.1 ha;exact QvF
theorem Qnv{t:TypeId}{c:Nat}{f:List Int}:(Ob.gro t 1 [pc 17 f] c).le (.gro t 1 ([f].map (pc 18)) c):=ob_gro (.cons (le_pcc (by decide)) .nil) (Qne (l:=[f]))
set_option maxHeartbeats 2000000 in
instance c60:TK prog 60 (∀{f:List Int}(_:SpF f),AC prog 60 [] [pc 17 f] fun K=> ∀k c (l:List (List Int)),QgG f l→l.length≤17→K [(k,.gro 30 1 (l.map (pc 18)) c)] [gh k l.length c]):=⟨fun {f} hS=>by
  refine aEnter func60 rfl ntmps60 rfl fun K C hC hK=> ?_
  have hn:=hS.n
  have hft:=congrArg List.length hn.t
  have hf17:=hS.len
  have hpos:1≤f.length:=by obtain⟨n,e⟩:=Qa5 (G:=f) (by have :=hn.s;omega);omega
  repeat(refine zS ?_;intros)
  refine zB ?_ ?_<;>intro h1
  · repeat(refine zS ?_;intros)
    refine AX.ent (entGro 30 1) ?_
    exact aRet (rs:=[.tmp 2]) rfl rfl (.cons_cons _ (List.nil_sublist _)) (arT zv Qas arN) (hK none 0 [] (QtZ hn (by omega)) (by simp))
  repeat(refine zS ?_;intros)
  refine zB ?_ ?_<;>intro h2
  · have hirr:=QbV (f:=P f) (by rw[Yj];omega)
    iterate 3 (refine zS ?_;intros)
    refine alO (aoLitG _ rfl zLv (by kernel_rfl) rfl) zg fun g1=> ?_
    repeat(refine zS ?_;intros)
    refine AX.ent (entH (.cons Qnv (HLe.none _))) ?_
    exact aRet (rs:=[.tmp 2]) rfl rfl (.refl _) (arT zv (Qcr (by simp)) arN) (hK (some g1) 1 [f] (Qo1 hn hirr) (by simp))
  have h5:=hS.five (by omega)
  have h2f:2≤f.length:=by omega
  repeat(refine zS ?_;intros)
  rename_i p l φ hB hφ _
  obtain⟨hps,hF,hl17,hl32⟩:=hB
  refine aL2 [0,3,4,5,25,26] (fun k n=>[(6,Am.N n),(27,Am.N k)]) (fun _ _=>[]) (fun k n=>k≤f.length∧n=Qkf φ k∧n≤k) (fun k _=>f.length -k) 0 0 ⟨by omega,rfl,by omega⟩ (entL (.cons zle (.cons zle .nil)) zk (HLe.none _)) fun k n ⟨hk,hn1,hnk⟩=> ?_
  have hbl:(Qap f.length φ).length=f.length:=Qd4
  repeat(refine zS ?_;intros)
  refine zB ?_ ?_<;>intro h3
  · have hg:(Qap f.length φ).getD k false=φ k:=QdB (by omega)
    repeat(refine zS ?_;intros)
    rw[hg]
    cases hφk:φ k
    · repeat(refine zS ?_;intros)
      exact ag2 (k+1) n ⟨by omega,by unfold Qkf;rw[hφk];simpa using hn1,by omega⟩ (entL (.cons zle (.cons zle .nil)) zk (HLe.none _))
    · repeat(refine zS ?_;intros)
      exact ag2 (k+1) (n+1) ⟨by omega,by unfold Qkf;rw[hφk,←hn1];rfl,by omega⟩ (entL (.cons zle (.cons zle .nil)) zk (HLe.none _))
  obtain rfl:k=f.length:=by omega
  repeat(refine zS ?_;intros)
  refine zB ?_ ?_<;>intro h4
  · have hirr:=Qta hn h2f hφ (by omega)
    iterate 3 (refine zS ?_;intros)
    refine alO (aoLitG _ rfl zLv (by kernel_rfl) rfl) zg fun g1=> ?_
    repeat(refine zS ?_;intros)
    refine AX.ent (entH (.cons Qnv (HLe.none _))) ?_
    exact aRet (rs:=[.tmp 2]) rfl rfl (.refl _) (arT zv (Qcr (by simp)) arN) (hK (some g1) 1 [f] (Qo1 hn hirr) (by simp))
  have hlift:AC prog 97 [] [pc 17 f,Qi7 l,W32 p] fun K=> ∀(Z:LZs)(k:Nat),QeK p k Z f→Z.length=l.length→(∀z∈Z,z.1.length≤32)→p^k<BS^18→K [] [pcs 18 (Z.map Prod.fst),it 18 ((p^k:Nat):Int)]:=AC.les (c97.k hps hf17 hn hF hl17 hl32 hS.hb hS.b5) (.cons le_pcv0 (.cons (le_refl _) (.cons (le_refl _) .nil)))
  repeat(refine zS ?_;intros)
  rename_i k1 c1 l1 hsp hl1
  exact aRet (rs:=[.tmp 2]) rfl rfl (.cons_cons _ (List.nil_sublist _)) (arT zv (le_refl _) arN) (hK k1 c1 l1 hsp hl1)⟩
theorem QFf{M M':Nat}{l:List Int}(h: ∀i,(co l i).natAbs<BS^M'):(pc M l).le (pv M' l):=(QcI h).trans le_pcv0
structure FcF (F:List Int) (M:Nat):Prop where
  M:M≤64
  len:F.length≤17
  m: ∃m,HB (Xr F) m∧m≤BS^17
  sp:P F≠0→ ∀g,Nrm g→P g∣P F→Qem (P g) (der (P g))→SpF g
theorem Qnw{f:List Int}{m:Nat}(hb:HB f m)(hn:Nrm f)(hm:m≤BS^17)(i:Nat):(co f i).natAbs<BS^17:=Nat.lt_of_lt_of_le (Qvb hb hn i) hm
instance c24:TK prog 24 (∀{M:Nat}{F:List Int}(_:FcF F M),AC prog 24 [] [pv M F] fun K=> ∀b:Bool,(b=true↔Irr (P F))→K [] [Bo b]):=⟨fun {M F} hF=>by
  refine aEnter func24 rfl ntmps24 rfl fun K C hC hK=> ?_
  obtain⟨hM,hl,⟨m,hb,hm⟩,hsp⟩:=hF
  have hT:=Xe F
  have hni:(Xa F).length<2→ ¬Irr (P F):=fun h hi=>by have :=hi.1;rw[Yj] at this;omega
  repeat(refine zS ?_;intros)
  refine zB ?_ ?_<;>intro h1
  · repeat(refine zS ?_;intros)
    exact aRet1 rfl zv (hK false ⟨(fun h=>by cases h),fun h=>absurd h (hni (by omega))⟩) (le_refl _)
  have hF0:P F≠0:=QaA (by omega)
  have hpn:=YD hF0
  have hpl:=Yz F
  repeat(refine zS ?_;intros)
  rename_i b hbq
  cases b
  · have hnc: ¬Qem (P F) (der (P F)):=fun h=>by have :=hbq.2 h;cases this
    rw[show(!false)=true from rfl]
    repeat(refine zS ?_;intros)
    exact aRet1 rfl zv (hK false ⟨(fun h=>by cases h),fun hi=>absurd ((Qav hF0).2 fun π hπ=>by
      by_cases hd:π∣P F
      · rw[QdP hπ hi hd];omega
      · have :=mt (XM hπ hF0).2 hd;omega) hnc⟩) (le_refl _)
  have hsq:=hbq.1 rfl
  rw[show(!true)=false from rfl]
  have hdp:P (Xr F)∣P F:=by rw[QaK ((Xz F).2 hF0),Qdz (by have :=XC (Yi ((Xz F).2 hF0));grind)];exact XL _
  have hpsq:Qem (P (Xr F)) (der (P (Xr F))):=(Qav hpn.ne).2 fun π hπ=>by rw[QcP hπ hF0];exact(Qav hF0).1 hsq π hπ
  have hS:=hsp hF0 _ hpn hdp hpsq
  have hb17:=Qnw hb hpn hm
  have hspl:AC prog 60 [] [pc M (Xr F)] fun K=> ∀k c (l:List (List Int)),QgG (Xr F) l→l.length≤17→K [(k,.gro 30 1 (l.map (pc 18)) c)] [gh k l.length c]:=AC.les (c60.k hS) (.cons (QcI hb17) .nil)
  repeat(refine zS ?_;intros)
  rename_i k c l hl1 hl2
  have hle:=(QjY hl1).trans (Qqo hF0).symm
  exact aRet1 rfl zv (hK _ (by rw[decide_eq_true_iff,←hle];omega)) (le_refl _)⟩
end Go.Proofs.YtjdpemcnlejpfaaGreatDoor
namespace Go.Proofs.YtjdpemcnlejpfaaGreatDoor
open Go.RowKit Go.Gx Go.Am Tryz
instance c61:TK prog 61 (∀{k:Option Nat}{c:Nat}{l:List (List Int×Nat)}(_:l.length≤1000)(_: ∀x∈l,x.1.length≤1048576),AC prog 61 [(k,.gro 53 2 (l.map (fv 17)) c)] [gh k l.length c,fnv 62 []] fun K=> ∀l':List (List Int×Nat),l'.Perm l→(l'.Pairwise fun x y=> ¬Qbv (Xa y.1) (Xa x.1)<0)→K [(k,.gro 53 2 (l'.map (fv 17)) c)] []):=⟨fun {k c l} hl hf=>
  AC.imp (acSortK Tryz.sortF (z:=2) (fun _=>by kernel_rfl) (fun _=>by kernel_rfl) (F:=fv 17) (fun _=>agg_sh) (by decide) (QhB fun x:List Int×Nat=>Xa x.1) (g:=62) (cs:=[]) (TC.ca) (fun x hx y hy=>c62.k (hf x hx) (hf y hy)) rfl (by omega)) fun K h l' hp hs=>h l' hp hs⟩
theorem Qo0{f:List Int}{l:List (List Int)}(h:QgG f l): ∀g∈l,P g∣P f:=fun g hg=>by rw[←h.prod];exact QkS hg
theorem QuP{p:QP}{k:Nat}{ds:List (List Int×Nat)}(h:DL p k ds):DL p (max k 1) ds:=⟨h.e,fun f hf=>by have :=h.lt f hf;omega,h.asc,fun π hπ h1 h2=>h.all π hπ h1 (by omega)⟩
theorem QsK{p:List Int}{k:Nat}{ds:List (List Int×Nat)}(h:DL (P p) k ds)(e:Qfw ds=P p): ∀π,Irr π→va π (P p)<max k 1:=fun π hπ=>by
  rcases Nat.eq_zero_or_pos (va π (P p)) with h0|h0
  · omega
  · apply Nat.lt_of_not_le
    intro hle
    have :=(QhK hπ ds h.e h.asc).2 fun f hf=>by have :=h.lt f hf;omega
    rw[e] at this;omega
theorem QrA{p:List Int}{d:List Int×Nat}(h:DE (P p) d)(hp:P p≠0):P d.1∣P p:=QaN h.n.ne hp fun π hπ=>by
  rw[h.v π hπ];have :=h.k1;split<;>omega
theorem Qln{ds:List (List Int×Nat)}(h:ds.Pairwise fun a b=>a.2<b.2){k:Nat}{d:List Int×Nat}(hk:ds[k]? =some d): ∀x∈ds.take k,x∈ds∧x.2<d.2:=fun x hx=>by
  obtain⟨i,hi⟩:=List.getElem?_of_mem hx
  rw[List.getElem?_take] at hi
  split at hi
  · rename_i hik
    obtain⟨h1,h2⟩:=List.getElem?_eq_some_iff.1 hi
    obtain⟨h3,h4⟩:=List.getElem?_eq_some_iff.1 hk
    have :=List.pairwise_iff_getElem.1 h i k h1 h3 hik
    rw[h2,h4] at this
    exact⟨List.mem_of_getElem? hi,this⟩
  · cases hi
theorem Qqf{l:List (List Int)}{j e:Nat}{L:List (List Int×Nat)}(h:j<l.length):L++(l.take (j+1)).map (fun g=>(g,e))=(L++(l.take j).map fun g=>(g,e))++[(l.getD j [],e)]:=by
  rw[List.take_add_one,List.map_append,List.append_assoc]
  simp [List.getD,h]
set_option maxHeartbeats 4000000 in
instance c20:TK prog 20 (∀{M:Nat}{F:List Int}(_:FcF F M),AC prog 20 [] [pv M F] fun K=> ∀fs,Quw F fs→K [] [it (max M 2) (Yc F),sl 2 (fs.map (fv 17))]):=⟨fun {M F} hF=>by
  refine aEnter func20 rfl ntmps20 rfl fun K C hC hK=> ?_
  obtain⟨hM,hl,⟨m,hb,hm⟩,hsp⟩:=hF
  repeat(refine zS ?_;intros)
  rename_i g2
  refine⟨fun h=> ?_,fun ds hd hdl=> ?_⟩
  · repeat(refine zS ?_;intros)
    rename_i g4
    refine AW.ent (entGro 53 2) ?_
    refine aLoop [2,4,16,17] (fun _:Unit=>[(6,gh none 0 0),(18,Am.N 0)]) (fun _=>[(none,.gro 53 2 (([]:List (List Int×Nat)).map (fv 17)) 0),(some g4,.arr 25 1 (itl 0 0)),(some g2,.arr 25 1 [Bo false,nilS])]) (fun _=>True) (fun _=>0) () trivial (entL (.cons Qas (.cons zle .nil)) zk (HLe.refl _)) fun _ _=> ?_
    repeat(refine zS ?_;intros)
    refine zB ?_ ?_<;>intro h9
    · exact absurd h9 (by simp)
    have hl0:([]:List (List Int×Nat)).length≤1000:=by simp
    have hx0: ∀x∈([]:List (List Int×Nat)),x.1.length≤1048576:=by simp
    repeat(refine zS ?_;intros)
    refine alO (zcallO 0 (by exact rfl)) zg ?_
    intro L' hp hs
    refine⟨rfl,?_⟩
    obtain rfl:=hp.eq_nil
    repeat(refine zS ?_;intros)
    refine AX.ent (entFzG hC (s:=3) (by exact rfl) 0 (by exact rfl) (by simp)) ?_
    have hK0:=hK [] (.inl ⟨h,rfl⟩)
    rw[ZY h] at hK0
    exact aRet (rs:=[_,_]) rfl rfl (List.nil_sublist _) zr hK0
  obtain⟨hF0,_,⟨kd,hDL⟩,hdp⟩:=hd
  have hpn:=YD hF0
  have hpl:=Yz F
  have hT:=Xe F
  have hdpF:P (Xr F)∣P F:=by rw[QaK ((Xz F).2 hF0),Qdz (by have :=XC (Yi ((Xz F).2 hF0));grind)];exact XL _
  repeat(refine zS ?_;intros)
  rename_i g4 _
  refine AW.ent (entGro 53 2) ?_
  refine aLoop [2,4,16,17] (fun x:Option Nat×Nat×List (List Int×Nat)×Nat=>[(6,gh x.1 x.2.2.1.length x.2.1),(18,Am.N x.2.2.2)]) (fun x=>[(x.1,.gro 53 2 (x.2.2.1.map (fv 17)) x.2.1),(some g4,.arr 25 1 (itl (max M 2) (Yc F))),(some g2,.arr 25 1 [Bo false,nilS])]) (fun x=>x.2.2.2≤ds.length∧Qpu (ds.take x.2.2.2) x.2.2.1∧x.2.2.1.length≤17*x.2.2.2) (fun x=>ds.length -x.2.2.2) (none,0,[],0) ⟨Nat.zero_le _,Qpu.nil,Nat.zero_le _⟩ (entL (.cons Qas (.cons zle .nil)) zk (HLe.refl _)) fun⟨ko,c0,L,k⟩ ⟨hk,hU,hL⟩=> ?_
  dsimp only at hk hU hL⊢
  repeat(refine zS ?_;intros)
  refine zB ?_ ?_<;>intro h1
  · have hget:ds[k]? =some (ds.getD k ([],0)):=by simp [List.getD,show k<ds.length by omega]
    obtain⟨d,ed⟩: ∃d,ds.getD k ([],0)=d:=⟨_,rfl⟩
    rw[ed] at hget
    have hdm:d∈ds:=List.mem_of_getElem? hget
    have hde:=hDL.e d hdm
    have hdd:=QrA hde hpn.ne
    have hS:=hsp hF0 d.1 hde.n (Yq hdd hdpF) hde.sqf
    have htk:ds.take (k+1)=ds.take k++[d]:=by rw[List.take_add_one,hget];rfl
    repeat(refine zS ?_;intros)
    rename_i g8
    rw[ed]
    repeat(refine zS ?_;intros)
    rename_i k1 c1 l hl1 hl2
    have hl17: ∀g∈l,∀i,(co g i).natAbs<BS^17:=fun g hg=>Qkv hb hm (by have :=hpn.s;omega) (hl1.n g hg) (Yq (Qo0 hl1 g hg) hdd)
    refine AW.ent (entH (.cons (ob_gro (l':=l.map (pc 17)) (Les.map l fun g hg=>QcI (hl17 g hg)) Qne) (HLe.refl _))) ?_
    refine AW.ent (entFzG hC (s:=24) (by exact rfl) 0 (by exact rfl) (by rw[List.length_map])) ?_
    refine aLoop [2,4,8,16,17,18,24,25] (fun x:Option Nat×Nat×Nat=>[(6,gh x.1 (L++(l.take x.2.2).map fun g=>(g,d.2)).length x.2.1),(26,Am.N x.2.2)]) (fun x=>[(x.1,.gro 53 2 ((L++(l.take x.2.2).map fun g=>(g,d.2)).map (fv 17)) x.2.1),(some g8,.arr 101 1 [pc 17 d.1,Am.N d.2]),(some g4,.arr 25 1 (itl (max M 2) (Yc F))),(some g2,.arr 25 1 [Bo false,nilS])]) (fun x=>x.2.2≤l.length) (fun x=>l.length -x.2.2) (ko,c0,0) (Nat.zero_le _) (entL (.cons (Qcr (by simp)) (.cons zle .nil)) zk (.pick 1 rfl (Qa4 (by simp)) (HLe.refl _))) fun⟨k2,c2,j⟩ hj=> ?_
    dsimp only at hj⊢
    repeat(refine zS ?_;intros)
    refine zB ?_ ?_<;>intro h2
    · have hsn:=Qqf (l:=l) (j:=j) (e:=d.2) (L:=L) (by omega)
      obtain⟨g,eg⟩: ∃g,l.getD j []=g:=⟨_,rfl⟩
      rw[eg] at hsn
      obtain⟨A,eA⟩: ∃A,(L++(l.take j).map fun g=>(g,d.2))=A:=⟨_,rfl⟩
      have hLl:(L++(l.take j).map fun g=>(g,d.2)).length≤17*17+17:=by rw[List.length_append,List.length_map,List.length_take];omega
      rw[eA] at hsn hLl⊢
      repeat(refine zS ?_;intros)
      rw[eg]
      repeat(refine zS ?_;intros)
      rename_i k3 c3
      exact aAgain (k3,c3,j+1) (by show j+1≤l.length;omega) (by show l.length -(j+1)<l.length -j;omega) (entL (.cons (Qcr (by rw[hsn];simp)) (.cons zle .nil)) zk (.cons (Qa4 (by rw[hsn,List.map_append];rfl)) (HLe.refl _)))
    obtain rfl:j=l.length:=by omega
    rw[List.take_length]
    repeat(refine zS ?_;intros)
    exact aAgain (k2,c2,L++l.map fun g=>(g,d.2),k+1) ⟨by show k+1≤ds.length;omega,by rw[htk];exact hU.more hde (fun x hx=>⟨hDL.e x (Qln hDL.asc hget x hx).1,(Qln hDL.asc hget x hx).2⟩) hl1,by show(L++l.map fun g=>(g,d.2)).length≤17*(k+1);rw[List.length_append,List.length_map];omega⟩ (by show ds.length -(k+1)<ds.length -k;omega) (entL (.cons (le_refl _) (.cons zle .nil)) zk (.cons (ob_refl _) (.drop (HLe.refl _))))
  obtain rfl:k=ds.length:=by omega
  rw[List.take_length] at hU
  have hx17: ∀x∈L,x.1.length≤1048576:=fun x hx=>by
    obtain⟨d,hdm,_,hxd⟩:=hU.fr x hx
    have h8:=Qaj (Yq hxd (QrA (hDL.e d hdm) hpn.ne)) hpn.ne
    rw[Yj,Yj,(hU.n x hx).t,hpn.t] at h8
    omega
  have hL9:L.length≤1000:=by omega
  repeat(refine zS ?_;intros)
  refine alO (zcallO 0 (by exact rfl)) zg ?_
  intro L' hp hs
  refine⟨rfl,?_⟩
  have hZ:=hU.done hF0 (QuP hDL) (QsK hDL hdp) hp hs
  have hll:=hp.length_eq
  repeat(refine zS ?_;intros)
  refine AX.ent (entFzG hC (s:=3) (by exact rfl) 0 (by exact rfl) (by rw[List.length_map];exact hll)) ?_
  exact aRet (rs:=[_,_]) rfl rfl (List.nil_sublist _) zr (hK L' (.inr ⟨hZ,by omega⟩))⟩
end Go.Proofs.YtjdpemcnlejpfaaGreatDoor
