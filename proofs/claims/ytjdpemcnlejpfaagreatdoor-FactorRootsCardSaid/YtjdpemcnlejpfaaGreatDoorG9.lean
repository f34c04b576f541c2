/-
  G9, F15, F16, G1, G10, R28
-/
import Derived.Test.YtjdpemcnlejpfaaGreatDoorM7
import Derived.Test.YtjdpemcnlejpfaaGreatDoorF12
import Derived.Test.YtjdpemcnlejpfaaGreatDoorSuitThy
import Derived.Test.YtjdpemcnlejpfaaGreatDoorAmS3
import Derived.Test.YtjdpemcnlejpfaaGreatDoorAmRow4
set_option linter.all false
namespace Go.Proofs.YtjdpemcnlejpfaaGreatDoor
open Go.RowKit Go.Gx Go.Am Tryz
instance:Zr Rat 0:=⟨⟩
instance QFx:TK prog 102 (∀{M M':Nat}{r s:Rat}(_:M≤274877906944)(_:M'≤274877906944),AC prog 102 [] [qt M r,qt M' s] fun K=>K [] [I .i64 (cmQ r s)]):=⟨fun {M M' r s} hM hM'=>by
  refine aEnter func102 rfl ntmps102 rfl fun K C hC hK=> ?_
  repeat(refine zS ?_;intros)
  exact aRet1 rfl zv hK (le_refl _)⟩
instance QFz:TK prog 101 (∀{k:Option Nat}{c:Nat}{l:List Rat}(_:l.length≤1000),AC prog 101 [(k,.gro 83 3 (l.map (qt 18)) c)] [gh k l.length c,fnv 102 []] fun K=> ∀l':List Rat,l'.Perm l→(l'.Pairwise fun x y=> ¬y<x)→K [(k,.gro 83 3 (l'.map (qt 18)) c)] []):=⟨fun {k c l} hl=>
  AC.imp (acSortK Tryz.sortQ (z:=3) (fun _=>by kernel_rfl) (fun _=>by kernel_rfl) (F:=qt 18) (fun _=>agg_sh) (by decide) QFb (g:=102) (cs:=[]) (TC.ca) (fun x _ y _=>QFx.k (M:=18) (M':=18) (r:=x) (s:=y) (by decide) (by decide)) rfl (by omega)) fun K h l' hp hs=>h l' hp (hs.imp fun {a b} h=>mt QD5.2 h)⟩
theorem QE5{F R:List Int}(h:PartOf F R)(hF:P F≠0)(hd:2≤(Xa F).length):2≤R.length:=by
  apply Classical.byContradiction
  intro hn
  have h1:1≤R.length:=by obtain⟨n,e⟩:=Qa5 (G:=R) (by have :=h.n.s;omega);rw[h.n.t] at e;omega
  have e:=Qtp h.n (by omega)
  have hp:=h.pow hF (n:=(Xa F).length) (by omega)
  have h2: ∀n:Nat,P R^n=1:=fun n=>by
    rw[e,Qcw]
    induction n with
    |zero=>exact YO _
    |succ n ih=>rw[XP,ih,QbD]
  rw[h2] at hp
  have :=Qaj hp QkP
  rw[Yj,Qwi] at this
  omega
theorem QwN{g:List Int}{r:Rat}(h1:0<g.getD 1 0)(h:((-(g.getD 0 0):Int):Rat)=r*((g.getD 1 0:Int):Rat)):r=rtQ g:=
  (QEB h h1 (QEP (n:= -(co g 0)) (d:=co g 1) (by show g.getD 1 0≠0;omega)) h1).1 rfl
theorem QFw{t:TypeId}{M M':Nat}{r r':Rat}(hr:r=r')(h:M≤M'):(Ob.arr t 1 [Bo (decide (r.num<0)),cnum M r.num.natAbs,cnum M r.den]).le (.arr t 1 [Bo (decide (r'.num<0)),cnum M' r'.num.natAbs,cnum M' r'.den]):=by
  subst hr;exact ob_arr (.cons (le_refl _) (.cons (le_cc h) (.cons (le_cc h) .nil))) (by intro a ha;simp only[List.mem_cons,List.not_mem_nil,or_false] at ha;rcases ha with rfl|rfl|rfl<;>exact elB_el (by kernel_rfl))
set_option maxHeartbeats 4000000 in
instance c46:TK prog 46 (∀{M:Nat}{F:List Int}(_:FcF F M),AC prog 46 [] [pv M F] fun K=> ∀rs:List Rat,(P F=0→rs=[])→(P F≠0→QD0 F rs)→rs.length≤17→K [] [sl 3 (rs.map (qt 18))]):=⟨fun {M F} hFc=>by
  refine aEnter func46 rfl ntmps46 rfl fun K C hC hK=> ?_
  obtain⟨hM,hl,⟨m,hb,hm⟩,hsp⟩:=hFc
  have hT:=Xe F
  repeat(refine zS ?_;intros)
  refine zB ?_ ?_<;>intro h1
  · have hk:=hK [] (fun _=>rfl) (fun h=>QEM h (by omega)) (by simp)
    repeat(refine zS ?_;intros)
    exact aRet1 rfl zv hk le_nil
  have hF0:P F≠0:=QaA (by omega)
  repeat(refine zS ?_;intros)
  rename_i R hR hRl g4
  have hR2:=QE5 hR hF0 (by omega)
  have hS:=hsp hF0 R hR.n (hR.dvd hF0) hR.sqf
  have h5:=hS.five hR2
  have hRn:=hR.n
  have hRt:=congrArg List.length hRn.t
  repeat(refine zS ?_;intros)
  rename_i p l φ hB hφ
  obtain⟨hps,hFm,hl17,hl32⟩:=hB
  have hg:(Qap R.length φ).getD 1 false=φ 1:=QdB (by omega)
  have hbl:(Qap R.length φ).length=R.length:=Qd4
  repeat(refine zS ?_;intros)
  rw[hg]
  cases hφ1:φ 1
  · have hk:=hK [] (fun h=>absurd h hF0) (fun _=>QEc hF0 hR (QE4 hRn fun g h e h2=>by
      have :=hφ g h e
      rw[h2,hφ1] at this;cases this)) (by simp)
    rw[show(!false)=true from rfl]
    repeat(refine zS ?_;intros)
    exact aRet1 rfl zv hk le_nil
  have hlift:AC prog 97 [] [pc 17 R,Qi7 l,W32 p] fun K=> ∀(Z:LZs)(k:Nat),QeK p k Z R→Z.length=l.length→(∀z∈Z,z.1.length≤32)→p^k<BS^18→K [] [pcs 18 (Z.map Prod.fst),it 18 ((p^k:Nat):Int)]:=AC.les (c97.k hps hS.len hRn hFm hl17 hl32 hS.hb hS.b5) (.cons le_pcv0 (.cons (le_refl _) (.cons (le_refl _) .nil)))
  rw[show(!true)=false from rfl]
  repeat(refine zS ?_;intros)
  rename_i Z n1 hI hZl hz32 hpN g9 _
  have hm0:0<p^n1:=by have :=hI.two;omega
  have hZm:(Z.map Prod.fst).length=Z.length:=List.length_map ..
  refine AW.ent (entGro 83 3) ?_
  refine aLoop [3,4,9,42,43] (fun x:Option Nat×Nat×Nat=>[(10,gh x.1 (rtL (p^n1) R ((Z.map Prod.fst).take x.2.2)).length x.2.1),(44,Am.N x.2.2)]) (fun x=>[(x.1,.gro 83 3 ((rtL (p^n1) R ((Z.map Prod.fst).take x.2.2)).map (qt 18)) x.2.1),(some g9,.arr 25 1 (itl 18 ((p^n1:Nat):Int))),(some g4,.arr 25 1 (itl 17 (ldP R)))]) (fun x=>x.2.2≤Z.length) (fun x=>Z.length -x.2.2) (none,0,0) (Nat.zero_le _) (entL (.cons Qas (.cons zle .nil)) zk (HLe.refl _)) fun⟨ko,c0,k⟩ hk=> ?_
  dsimp only at hk⊢
  have hrl:=QEV (p^n1) R ((Z.map Prod.fst).take k)
  have hrl2:((Z.map Prod.fst).take k).length≤Z.length:=by rw[List.length_take];omega
  repeat(refine zS ?_;intros)
  refine zB ?_ ?_<;>intro h2
  · have hkz:k<Z.length:=by omega
    have hi:Z[k]? =some Z[k]:=List.getElem?_eq_getElem hkz
    have hzm:=hI.z _ (List.getElem_mem hkz)
    have hul:=hz32 _ (List.getElem_mem hkz)
    have eu:(Z.map Prod.fst).getD k []=Z[k].1:=by simp [List.getD,hkz]
    have htk:(Z.map Prod.fst).take (k+1)=(Z.map Prod.fst).take k++[Z[k].1]:=by rw[List.take_add_one];simp [hkz]
    generalize Z[k]=z at hi hzm hul eu htk
    obtain⟨A,eA⟩: ∃A,rtL (p^n1) R ((Z.map Prod.fst).take k)=A:=⟨_,rfl⟩
    rw[eA] at hrl⊢
    repeat(refine zS ?_;intros)
    rw[eu]
    repeat(refine zS ?_;intros)
    refine zB ?_ ?_<;>intro h3
    · have hsn:rtL (p^n1) R ((Z.map Prod.fst).take (k+1))=A:=by rw[htk,QE9 (fun h=>by omega),eA]
      repeat(refine zS ?_;intros)
      exact aAgain (ko,c0,k+1) (by show k+1≤Z.length;omega) (by show Z.length -(k+1)<Z.length -k;omega) (entL (.cons (Qcr (by rw[hsn])) (.cons zle .nil)) zk (.cons (Qa4 (by rw[hsn])) (HLe.refl _)))
    have h4:(Xa z.1).length=2:=by omega
    have⟨hln,hl2⟩:=QEq hI hzm h4
    obtain⟨y,ey⟩: ∃y,QD9 (p^n1) R z.1=y:=⟨_,rfl⟩
    have ey2:Xr (Zg (p^n1) (Xa (Xf z.1 (ldP R))))=y:=ey
    have hsc:(Xa (Xf z.1 (ldP R))).length≤32:=by have :=Xe (Xf z.1 (ldP R));have :=QiO z.1 (ldP R);omega
    have hrz:(Zg (p^n1) (Xa (Xf z.1 (ldP R)))).length≤32:=by
      have :=Xe ((Xa (Xf z.1 (ldP R))).map (YY (p^n1)))
      rw[List.length_map] at this
      unfold Zg;omega
    rw[ey] at hln hl2
    repeat(refine zS ?_;intros)
    rw[ey2]
    repeat(refine zS ?_;intros)
    rename_i b hb
    cases b
    · have hsn:rtL (p^n1) R ((Z.map Prod.fst).take (k+1))=A:=by rw[htk,QE9 (fun h=>by rw[ey] at h;exact absurd (hb.2 h.2) (by decide)),eA]
      repeat(refine zS ?_;intros)
      exact aAgain (ko,c0,k+1) (by show k+1≤Z.length;omega) (by show Z.length -(k+1)<Z.length -k;omega) (entL (.cons (Qcr (by rw[hsn])) (.cons zle .nil)) zk (.cons (Qa4 (by rw[hsn])) (HLe.refl _)))
    have hsn:rtL (p^n1) R ((Z.map Prod.fst).take (k+1))=A++[rtQ y]:=by rw[htk,QFn h4 (by rw[ey];exact hb.1 rfl),eA,ey]
    have hy1:0<y.getD 1 0:=by
      have h9:=hln.s
      rw[← (Zj (G:=y) (d:=1) (by rw[hln.t];exact hl2)).1] at h9
      exact h9
    have hA:A.length≤17:=by omega
    have hyd:y.getD 1 0≠0:=by omega
    clear hb hφ hFm hl32 hlift hI hz32 hzm hR hS h5 hsp
    repeat(refine zS ?_;intros)
    refine aJ1 [3,4,9,10,42,43,44] (fun g=>[(16,lpt 1 g 0)]) (fun g=>[(some g,.arr 83 1 [Bo (decide ((rtQ y).num<0)),cnum 18 (rtQ y).num.natAbs,cnum 18 (rtQ y).den]),(ko,.gro 83 3 (A.map (qt 18)) c0),(some g9,.arr 25 1 (itl 18 ((p^n1:Nat):Int))),(some g4,.arr 25 1 (itl 17 (ldP R)))]) (fun _=>True) ?_ ?_
    · refine aDr1 [11,0,1,2,3,4,5,6,7,8,9,10,12,13] ?_
      repeat' (first | (refine zR ?_;intros)| (refine zC ?_;intros)| (refine adO1 (by exact rfl) (zst ?_);intros)| (refine adO2 (by exact rfl) (zst ?_) (zst ?_)<;>intros)| (refine adO3 (by exact rfl) (zst ?_) (zst ?_) (zst ?_)<;>intros))
      all_goals first
        | (rename_i r hr g;exact jd1 g trivial (entL (.cons zle .nil) zk (.cons (QFw (QwN hy1 hr) (by decide)) (HLe.refl _))))
        | (rename_i g r hr;exact jd1 g trivial (entL (.cons zle .nil) zk (.cons (QFw (QwN hy1 hr) (by decide)) (HLe.refl _))))
    intro g16 _
    repeat(refine zS ?_;intros)
    rename_i k1 c1
    exact aAgain (k1,c1,k+1) (by show k+1≤Z.length;omega) (by show Z.length -(k+1)<Z.length -k;omega) (entL (.cons (Qcr (by rw[hsn];simp)) (.cons zle .nil)) zk (.drop (.cons (Qa4 (by rw[hsn,List.map_append];rfl)) (HLe.refl _))))
  obtain rfl:k=Z.length:=by omega
  rw[List.take_of_length_le (by omega)] at hrl⊢
  have hroots:=fun rs hp hs=>QEc hF0 hR (QEW hI (rs:=rs) hp hs)
  generalize rtL (p^n1) R (Z.map Prod.fst)=A at hrl hroots
  have hA9:A.length≤1000:=by omega
  repeat(refine zS ?_;intros)
  refine alO (zcallO 0 (by exact rfl)) zg ?_
  intro l' hp hs
  refine⟨rfl,?_⟩
  have hll:=hp.length_eq
  repeat(refine zS ?_;intros)
  refine AX.ent (entFzG hC (s:=2) (by exact rfl) 0 (by exact rfl) (by rw[List.length_map];exact hll)) ?_
  exact aRet1 rfl zv (hK l' (fun h=>absurd h hF0) (fun _=>hroots l' hp hs) (by omega)) (le_refl _)⟩
end Go.Proofs.YtjdpemcnlejpfaaGreatDoor
namespace Go.Proofs.YtjdpemcnlejpfaaGreatDoor
open Go.RowKit Go.Gx Go.Am Tryz
theorem Qu3{F:List Int}{M:Nat}(hM:M≤64)(hl:F.length≤17)(hd:(Xa F).length≤10)(hH: ∀i,(co F i).natAbs≤2^244):FcF F M:=by
  have key:P F≠0→ ∀g,Nrm g→P g∣P F→g.length≤10∧1≤g.length∧(∀i,(co g i).natAbs≤2^256)∧HB g (2*(ldP g*QmA g).natAbs+1)∧2*(ldP g*QmA g).natAbs+1≤2^540:=fun hF0 g hg hdv=>by
    have⟨h1,h2⟩:=Qny (n:=9) hd (by decide) hF0 hg hdv hH
    have hg6:hgt g≤2^256:=Nat.le_trans h1 (by decide+kernel)
    obtain⟨n,hn⟩:=Qa5 (G:=g) (by have :=hg.s;omega)
    have hn':g.length=n+1:=by have :=hg.t;rw[this] at hn;exact hn
    have hbnd:=Qsr hn
    have hld:(ldP g).natAbs≤2^256:=by rw[← (Zj hn).1];exact Nat.le_trans (Qd9 g n) hg6
    refine⟨h2,by omega,fun i=>Nat.le_trans (Qd9 g i) hg6,by rw[hbnd];exact Qva hn (by omega),?_⟩
    rw[hbnd]
    have h3:(ldP g).natAbs*(2^n*rtN (n+1)*hgt g)≤2^256*(2^9*5*2^256):=Nat.mul_le_mul hld (Nat.mul_le_mul (Nat.mul_le_mul (Nat.pow_le_pow_right (by decide) (by omega)) (rt5 _)) hg6)
    have h4:2*(2^256*(2^9*5*2^256))+1≤2^540:=by decide+kernel
    omega
  refine⟨hM,hl,?_,fun hF0 g hg hdv hsq=> ?_⟩
  · by_cases hF0:P F=0
    · exact⟨1,by rw[Qix hF0];exact Qvc,by decide+kernel⟩
    · have hpn:=YD hF0
      have hdp:P (Xr F)∣P F:=by rw[QaK ((Xz F).2 hF0),Qdz (by have :=XC (Yi ((Xz F).2 hF0));grind)];exact XL _
      obtain⟨_,_,_,h4,h5⟩:=key hF0 _ hpn hdp
      exact⟨_,h4,Nat.le_trans h5 (by decide+kernel)⟩
  · obtain⟨h1,h2,h3,h4,h5⟩:=key hF0 g hg hdv
    refine⟨hg,hsq,by omega,fun hl2=> ?_,h4,?_⟩
    · have :Bof g.length=4096:=by unfold Bof;rw[if_pos h1]
      rw[this]
      exact Qu5 (by rw[hg.t];exact hl2) (by rw[hg.t];exact h1) hsq h3
    · have :2^540<2^560:=by decide+kernel
      omega
end Go.Proofs.YtjdpemcnlejpfaaGreatDoor
namespace Go.Proofs.YtjdpemcnlejpfaaGreatDoor
open Go.RowKit Go.Gx Go.Am Tryz
theorem Qs3:FcF [0,0,-4,-4] 2:=Qu3 (by decide) (by decide) (by decide) fun i=>by
  match i with
  |0=>decide
  |1=>decide
  |2=>decide
  |3=>decide
  |i+4=>rw[XX (by simp)];decide
theorem Qs4:FcF [1,0,0,0,1] 2:=Qu3 (by decide) (by decide) (by decide) fun i=>by
  match i with
  |0=>decide
  |1=>decide
  |2=>decide
  |3=>decide
  |4=>decide
  |i+5=>rw[XX (by simp)];decide
theorem QiN{l:List Int}(h:l.length≤1099511627776):AC prog 30 [] [pc 17 l,pc 2 l] fun K=>K [] [Bo true]:=by
  have z:AC prog 30 [] [pv 17 l,pv 2 l] fun K=>K [] [Bo (decide (Xa l=Xa l))]:=c30.k h h
  rw[decide_eq_true rfl] at z
  exact AC.les z (.cons le_pcv0 (.cons le_pcv0 .nil))
set_option maxHeartbeats 4000000 in
instance c13:TK prog 13 (AC prog 13 [] [] fun K=>K [] [Bo true]):=⟨by
  refine aEnter func13 rfl ntmps13 rfl fun K C hC hK=> ?_
  have hF:AC prog 20 [] [pv 2 [0,0,-4,-4]] fun K=>K [] [it 2 (-4),sl 2 ([([0,1],2),([1,1],1)].map (fv 17))]:=AC.imp (c20.k Qs3) fun K hk fs hfs=>by
    rw[(hfs.fac Qnr.ne).1.uniq Qnr,QqQ];exact hk
  have hI:AC prog 24 [] [pv 2 [1,0,0,0,1]] fun K=>K [] [Bo true]:=AC.imp (c24.k Qs4) fun K hk b hb=>by
    rw[hb.2 QrN];exact hk
  have o1:AC prog 16 [] [sl 1 [I .i64 0,I .i64 0,I .i64 (-4),I .i64 (-4)]] fun K=>K [] [pc 2 [0,0,-4,-4]]:=c16.k (l:=[0,0,-4,-4]) (by decide) (by decide)
  repeat(refine zS ?_;intros)
  clear o1
  have s2:AC prog 30 [] [pc 17 [0,1],pc 2 [0,1]] fun K=>K [] [Bo true]:=QiN (by decide)
  have o2:AC prog 16 [] [sl 1 [I .i64 0,I .i64 1]] fun K=>K [] [pc 2 [0,1]]:=c16.k (l:=[0,1]) (by decide) (by decide)
  repeat(refine zS ?_;intros)
  clear o2 s2
  have s3:AC prog 30 [] [pc 17 [1,1],pc 2 [1,1]] fun K=>K [] [Bo true]:=QiN (by decide)
  have o3:AC prog 16 [] [sl 1 [I .i64 1,I .i64 1]] fun K=>K [] [pc 2 [1,1]]:=c16.k (l:=[1,1]) (by decide) (by decide)
  repeat(refine zS ?_;intros)
  clear o3 s3
  have o4:AC prog 16 [] [sl 1 [I .i64 1,I .i64 0,I .i64 0,I .i64 0,I .i64 1]] fun K=>K [] [pc 2 [1,0,0,0,1]]:=c16.k (l:=[1,0,0,0,1]) (by decide) (by decide)
  repeat(refine zS ?_;intros)
  exact aRet1 rfl zv hK (le_refl _)⟩
end Go.Proofs.YtjdpemcnlejpfaaGreatDoor
namespace Go.Proofs.YtjdpemcnlejpfaaGreatDoor
open Go.RowKit Go.Gx Go.Am Tryz
theorem Qjr{F:List Int}{M:Nat}(hM:M≤64)(hl:F.length≤17)(hd:(Xa F).length≤10)(h:nrm F≤2^244):FcF F M:=Qu3 hM hl hd fun i=>Nat.le_trans (QkK F i) h
theorem Qfe{D:List RawI}(h:Qjs D)(hb: ∀x∈D,∀d∈x.2,d<BS):nrm (D.map dvI)≤9*2^96:=Qto (by rw[List.length_map];exact h.1) fun z hz=>by
  obtain⟨x,hx,rfl⟩:=List.mem_map.1 hz
  show(sg x.1 (val x.2)).natAbs≤_
  rw[sg_abs]
  have h1:=Za x.2 (hb x hx)
  have h3:=Nat.pow_le_pow_right (show 0<BS by decide) (h.2 x hx)
  have h4:BS^3=2^96:=by decide+kernel
  omega
theorem QcF{D:List RawI}(h:Qjs D):(D.map dvI).length≤9∧(Xa (D.map dvI)).length≤9:=by
  have h1:=Xe (D.map dvI)
  have h2:(D.map dvI).length=D.length:=List.length_map ..
  have :=h.1
  omega
theorem Qfd{D:List RawI}(h:Qjs D)(hb: ∀x∈D,∀d∈x.2,d<BS):FcF (D.map dvI) 3:=by
  have⟨h1,h2⟩:=QcF h
  exact Qjr (by decide) (by omega) (by omega) (Nat.le_trans (Qfe h hb) (by decide+kernel))
theorem Qia{D:List RawI}(h:Qjs D)(hb: ∀x∈D,∀d∈x.2,d<BS):(rwp D).le (pv 3 (D.map dvI)):=rwp_pv h.2 hb
theorem Qy6{α:Type}{l:List α}{k:Nat}{x0:α}(h:k<l.length):l.getD k x0∈l:=by
  simp only[List.getD,List.getElem?_eq_getElem h,Option.getD_some];exact List.getElem_mem _
end Go.Proofs.YtjdpemcnlejpfaaGreatDoor
namespace Go.Proofs.YtjdpemcnlejpfaaGreatDoor
open Go.RowKit Go.Gx Go.Am Tryz
instance:Zr (Int×Int) (0,0):=⟨⟩
section
variable{P:Program}{n:Nat}{C:Ctx}{env:Nat→AV}{H:Hp}{d:Option Nat}{ty t t':TypeId}{pos:String}{af:Array Edge}{gd:Option (Nat×Bool)}{x y:Operand}
theorem QFe: ∀m:Nat,m<16→IntKind.i8.wrap (m:Int)=(m:Int):=by decide
theorem QEG{a:Int}(hx:av n env x=I .i8 a)(hy:av n env y=I .i8 15):AE P n C env H .no ⟨d,.binOp .and t x y t',ty,pos,af,gd⟩ (I .i8 (a % 16)):=by
  have e1:(Op.intBits .and .i8 a 15)=pure (.int .i8 (IntKind.i8.wrap ((BitVec.ofInt 8 a&&&BitVec.ofInt 8 15).toNat:Int))):=rfl
  have e2:(BitVec.ofInt 8 a&&&BitVec.ofInt 8 15).toNat=(a % 16).toNat:=by
    have h2:(BitVec.ofInt 8 15).toNat=15:=by decide
    rw[BitVec.toNat_and,h2,BitVec.toNat_ofInt,show(15:Nat)=2^4 -1 by decide,Nat.and_two_pow_sub_one_eq_mod]
    omega
  rw[e2,QFe _ (by omega),show(((a % 16).toNat:Nat):Int)=a % 16 by omega] at e1
  have h:AE P n C env H .no ⟨d,.binOp .and t x y t',ty,pos,af,gd⟩ (lit (.int .i8 (a % 16))):=aeI hx hy fun _ _ h1 h2=>by
    simp only[Ev,execOp,h1,h2,eqGuard,binOp,e1]
    simp
  unfold I;exact h
end
instance c51:TK prog 51 (∀{M M':Nat}{rs:List Rat}{a:Rat}(_:M≤274877906944)(_:M'≤274877906944),AC prog 51 [] [sl 3 (rs.map (qt M)),qv M' a] fun K=>K [] [Bo (decide (a∈rs))]):=⟨fun {M M' rs a} hM hM'=>by
  refine aEnter func51 rfl ntmps51 rfl fun K C hC hK=> ?_
  repeat(refine zS ?_;intros)
  rename_i g1 _
  refine aL1 [3,7,8] (fun k=>[(9,N k)]) (fun _=>[.arr 83 3 [qv M' a]]) (fun k=>k≤rs.length∧a∉rs.take k) (fun k=>rs.length -k) 0 ⟨Nat.zero_le _,by simp⟩ (entL (.cons zle .nil) zk (.cons (ob_refl _) .nil)) fun k ⟨hk,hn⟩=> ?_
  repeat(refine zS ?_;intros)
  refine zB ?_ ?_<;>intro h1
  · have hkl:k<rs.length:=by omega
    obtain⟨b,eb⟩: ∃b,rs.getD k 0=b:=⟨_,rfl⟩
    repeat(refine zS ?_;intros)
    rw[eb]
    repeat(refine zS ?_;intros)
    refine zB ?_ ?_<;>intro h2
    · have e:a=rs.getD k 0:=by rw[eb];exact QEy.1 h2
      rw[decide_eq_true (by rw[e];exact QD6 hkl)] at hK
      repeat(refine zS ?_;intros)
      exact aRet1 rfl zv hK (le_refl _)
    · have hn2:=QFs hkl hn (fun e=>h2 (QEy.2 (by rw[e,eb])))
      repeat(refine zS ?_;intros)
      exact ag1 (k+1) ⟨by omega,hn2⟩ (entL (.cons zle .nil) zk (.drop (.cons (ob_refl _) .nil)))
  obtain rfl:k=rs.length:=by omega
  rw[List.take_length] at hn
  rw[decide_eq_false hn] at hK
  repeat(refine zS ?_;intros)
  exact aRet1 rfl zv hK (le_refl _)⟩
set_option maxHeartbeats 8000000 in
instance c12:TK prog 12 (∀{l:List (Int×Int)}{D:List RawI}(_: ∀t∈l,(-128≤t.1∧t.1≤127)∧ -128≤t.2∧t.2≤127) (_: ∀x∈D,∀d∈x.2,d<BS),AC prog 12 [] [sl 2 (l.map fun x=>agg [I .i8 x.1,I .i8 x.2]),rwp D] fun K=>K [] [Bo true]):=⟨fun {l D} hb hD=>by
  refine aEnter func12 rfl ntmps12 rfl fun K C hC hK=> ?_
  repeat(refine zS ?_;intros)
  refine zB ?_ ?_<;>intro h0
  · repeat(refine zS ?_;intros)
    exact aRet1 rfl zv hK (le_refl _)
  repeat(refine zS ?_;intros)
  refine zB ?_ ?_<;>intro h1
  · repeat(refine zS ?_;intros)
    exact aRet1 rfl zv hK (le_refl _)
  have f1:Qjs D:=Classical.byContradiction h1
  have⟨l1,_⟩:=QcF f1
  have e1:(D.map dvI).length=D.length:=List.length_map ..
  have hF:=Qfd f1 hD
  have n1:=Qfe f1 hD
  have r1:=Qia f1 hD
  clear h1 f1 hD
  generalize D.map dvI=F at l1 e1 hF n1 r1
  refine AL.ent (entSub (s:=1) (a:=pv 3 F) r1) ?_
  repeat(refine zS ?_;intros)
  refine zB ?_ ?_<;>intro h2
  · repeat(refine zS ?_;intros)
    exact aRet1 rfl zv hK (le_refl _)
  repeat(refine zS ?_;intros)
  have hbd: ∀k,nrm (QEb F (l.take k))≤9*2^96*256^4∧(QEb F (l.take k)).length≤10:=fun k=>by
    have hlt:=List.length_take_le k l
    have hl2:(l.take k).length≤4:=by rw[List.length_take];omega
    have⟨b1,b2⟩:=QEJ (l:=l.take k) (fun x hx=>(hb x (List.mem_of_mem_take hx)).1) (F:=F)
    exact⟨Nat.le_trans b1 (Nat.mul_le_mul n1 (Nat.pow_le_pow_right (by decide) hl2)),by omega⟩
  refine aL1 [0,1,38,39] (fun k=>[(5,pv 8 (QEb F (l.take k))),(40,N k)]) (fun _=>[]) (fun k=>k≤l.length) (fun k=>l.length -k) 0 (Nat.zero_le _) (entL (.cons (by exact le_pvv (M':=8) (by decide)) (.cons zle .nil)) zk (HLe.none _)) fun k hk=> ?_
  repeat(refine zS ?_;intros)
  refine zB ?_ ?_<;>intro h3
  · have hkl:k<l.length:=by omega
    have hx:=hb _ (Qy6 (x0:=((0,0):Int×Int)) hkl)
    have hsn:=QEK (F:=F) hkl
    have⟨_,hgl⟩:=hbd k
    have⟨hn2,_⟩:=hbd (k+1)
    obtain⟨x,ex⟩: ∃x,l.getD k (0,0)=x:=⟨_,rfl⟩
    rw[ex] at hx hsn
    have⟨⟨b1,b2⟩,b3,b4⟩:=hx
    obtain⟨G,eG⟩: ∃G,QEb F (l.take k)=G:=⟨_,rfl⟩
    rw[eG] at hsn hgl⊢
    have o1:AC prog 16 [] [sl 1 [I .i64 (0 -x.1),I .i64 (1+x.2 % 16)]] fun K=>K [] [pc 2 (QD8 x)]:=by
      rw[Int.zero_sub]
      exact c16.k (l:=[-x.1,1+x.2 % 16]) (by simp) (fun z hz=>by simp only[List.mem_cons,List.not_mem_nil,or_false] at hz;rcases hz with rfl|rfl<;>omega)
    have hlx:(QD8 x).length≤2:=by unfold QD8;exact Xe _
    repeat(refine zS ?_;intros)
    rw[ex]
    repeat(refine zS ?_;intros)
    refine alE (QEG zv zv) rfl zg ?_
    repeat(refine zS ?_;intros)
    refine ag1 (k+1) (by omega) (entL (.cons (show AV.le (pc _ _) _ from by rw[hsn];exact QFf fun i=>Nat.lt_of_le_of_lt (Nat.le_trans (QkK _ i) (by rw[←hsn];exact hn2)) (by decide+kernel)) (.cons zle .nil)) zk (HLe.none _))
  obtain rfl:k=l.length:=by omega
  have⟨hGn,hGl⟩:=hbd l.length
  rw[List.take_length] at hGn hGl⊢
  have hv: ∀q:Rat,evQ (QEb F l) q=0↔evQ F q=0∨ ∃x∈l,evQ (QD8 x) q=0:=fun q=>QE8
  have hz:P F=0→P (QEb F l)=0:=QEL
  clear hbd n1
  generalize QEb F l=G at hGn hGl hv hz⊢
  have hGt:=Xe G
  have hGF:FcF G 8:=Qjr (by decide) (by omega) (by omega) (Nat.le_trans hGn (by decide+kernel))
  repeat(refine zS ?_;intros)
  rename_i gs hg0 hg1 hgl
  refine zB ?_ ?_<;>intro h4
  · have hG0:P G=0:=Ya.1 (by rw[Yj];omega)
    obtain rfl:=hg0 hG0
    repeat(refine zS ?_;intros)
    exact aRet1 rfl zv hK (.of_eq (by simp))
  have hG0:P G≠0:=QaA (by omega)
  have hR:=hg1 hG0
  have hF0:P F≠0:=fun h=>hG0 (hz h)
  clear hg0 hg1 hz
  repeat(refine zS ?_;intros)
  refine aL1 [0,1,5,8,66,67] (fun k=>[(68,N k)]) (fun _=>[]) (fun k=>k≤gs.length) (fun k=>gs.length -k) 0 (Nat.zero_le _) (entL (.cons zle .nil) zk (HLe.none _)) fun k hk=> ?_
  repeat(refine zS ?_;intros)
  refine zB ?_ ?_<;>intro h5
  · have hkl:k<gs.length:=by omega
    have hE0:evQ G (gs.getD k 0)=0:=(hR.mem _).1 (QD6 hkl)
    have hlt:=fun h0=>QD5.2 (QFo hR.asc hkl h0)
    obtain⟨a,ea⟩: ∃a,gs.getD k 0=a:=⟨_,rfl⟩
    rw[ea] at hE0 hlt
    obtain⟨m,em⟩: ∃m,8+G.length*(18+1)+3=m:=⟨_,rfl⟩
    have hE:AC prog 48 [] [pv 8 G,qt 18 a] fun K=>K [] [qt m 0]:=AC.les (by have z:=c48.k (M:=8) (Ma:=18) (F:=G) (r:=a) (by decide) (by omega) (by omega);rwa [hE0,em] at z) (.cons (le_refl _) (.cons (le_qt (Nat.le_refl _)) .nil))
    have hSg:AC prog 47 [] [qt m 0] fun K=>K [] [I .i64 0]:=AC.les (AC.imp (c47.k (M:=m) (r:=0)) fun K hk s h1 _ _ _ _=>by
      rw[h1.2 rfl];exact hk) (.cons (le_qt (Nat.le_refl _)) .nil)
    rcases Nat.eq_zero_or_pos k with h6|h6
    · repeat(refine zS ?_;intros)
      rw[ea]
      repeat(refine zS ?_;intros)
      exact ag1 (k+1) (by omega) (entL (.cons zle .nil) zk (HLe.none _))
    · have hc:=hlt h6
      obtain⟨b,eb⟩: ∃b,gs.getD (k -1) 0=b:=⟨_,rfl⟩
      rw[eb] at hc
      have hCm:AC prog 49 [] [qt 18 b,qt 18 a] fun K=>K [] [I .i64 (cmQ b a)]:=AC.les (c49.k (M:=18) (M':=18) (r:=b) (s:=a) (by decide) (by decide)) (.cons (le_qt (Nat.le_refl _)) (.cons (le_qt (Nat.le_refl _)) .nil))
      repeat(refine zS ?_;intros)
      rw[ea]
      repeat(refine zS ?_;intros)
      rw[eb]
      repeat(refine zS ?_;intros)
      exact ag1 (k+1) (by omega) (entL (.cons zle .nil) zk (HLe.none _))
  repeat(refine zS ?_;intros)
  refine aL1 [1,5,8,93,94] (fun k=>[(95,N k)]) (fun _=>[]) (fun k=>k≤l.length) (fun k=>l.length -k) 0 (Nat.zero_le _) (entL (.cons zle .nil) zk (HLe.none _)) fun k hk=> ?_
  repeat(refine zS ?_;intros)
  refine zB ?_ ?_<;>intro h6
  · have hkl:k<l.length:=by omega
    have hxm:=Qy6 (x0:=((0,0):Int×Int)) hkl
    have hx:=hb _ hxm
    obtain⟨x,ex⟩: ∃x,l.getD k (0,0)=x:=⟨_,rfl⟩
    rw[ex] at hx hxm
    have⟨⟨b1,b2⟩,b3,b4⟩:=hx
    have hd:(1+x.2 % 16:Int)≠0:=by omega
    have hr:=QEP (n:=x.1) hd
    generalize(x.1:Rat)/ ((1+x.2 % 16:Int):Rat)=r at hr
    have hrg:r∈gs:=(hR.mem r).2 ((hv r).2 (.inr ⟨x,hxm,by rw[QFq hr];grind⟩))
    have hin:AC prog 51 [] [sl 3 (gs.map (qt 18)),qt 2 r] fun K=>K [] [Bo true]:=AC.les (by have z:=c51.k (M:=18) (M':=2) (rs:=gs) (a:=r) (by decide) (by decide);rwa [decide_eq_true hrg] at z) (.cons (le_refl _) (.cons (le_qt (Nat.le_refl _)) .nil))
    have hru: ∀r':Rat,(x.1:Rat)=r'*((1+x.2 % 16:Int):Rat)→r'=r:=fun r' h=>(QEB h (by omega) hr (by omega)).1 rfl
    have hMk:AC prog 50 [] [it 2 x.1,it 2 (1+x.2 % 16)] fun K=>K [] [qt 2 r,I .i64 0]:=AC.les (AC.imp (c50.k (M:=2) (M':=2) (n:=x.1) (d:=1+x.2 % 16) (by decide) (by decide)) fun K hk=>⟨fun h=>absurd h hd,fun _ r' h=>by rw[hru r' h];exact hk⟩) (.cons le_it0 (.cons le_it0 .nil))
    repeat(refine zS ?_;intros)
    rw[ex]
    repeat(refine zS ?_;intros)
    refine aJ1 [1,5,8,93,94,95] (fun g=>[(13,lpt 1 g 0)]) (fun g=>[(some g,.arr 83 1 [Bo (decide (r.num<0)),cnum 2 r.num.natAbs,cnum 2 r.den])]) (fun _=>True) ?_ ?_
    · refine aDr1 [14,0,1,2,3,4,5,6,7,8,9,10,11,12,13,15,16] ?_
      iterate 5 (refine zR ?_;intros)
      refine adPn 2 (by exact rfl) (by decide+kernel) (by exact rfl) (QEG zv zv) (by exact rfl) zg ?_
      iterate 2 (refine zR ?_;intros)
      repeat' (first | (refine zR ?_;intros)| (refine adO1 (by exact rfl) (zst ?_);intros)| (refine adO2 (by exact rfl) (zst ?_) (zst ?_)<;>intros))
      all_goals(rename_i g;exact jd1 g trivial (entL (.cons zle .nil) zk (.cons (QFw rfl (by decide)) (HLe.none _))))
    intro g13 _
    repeat(refine zS ?_;intros)
    exact ag1 (k+1) (by omega) (entL (.cons zle .nil) zk (HLe.none _))
  repeat(refine zS ?_;intros)
  rename_i rs q0' hrF hrl _
  have hRF:=hrF hF0
  refine aL1 [5,8,119,120] (fun k=>[(121,N k)]) (fun _=>[]) (fun k=>k≤rs.length) (fun k=>rs.length -k) 0 (Nat.zero_le _) (entL (.cons zle .nil) zk (HLe.none _)) fun k hk=> ?_
  repeat(refine zS ?_;intros)
  refine zB ?_ ?_<;>intro h7
  · have hkl:k<rs.length:=by omega
    have hbg:rs.getD k 0∈gs:=(hR.mem _).2 ((hv _).2 (.inl ((hRF.mem _).1 (QD6 hkl))))
    obtain⟨b,eb⟩: ∃b,rs.getD k 0=b:=⟨_,rfl⟩
    rw[eb] at hbg
    have hin:AC prog 51 [] [sl 3 (gs.map (qt 18)),qt 18 b] fun K=>K [] [Bo true]:=AC.les (by have z:=c51.k (M:=18) (M':=18) (rs:=gs) (a:=b) (by decide) (by decide);rwa [decide_eq_true hbg] at z) (.cons (le_refl _) (.cons (le_qt (Nat.le_refl _)) .nil))
    repeat(refine zS ?_;intros)
    rw[eb]
    repeat(refine zS ?_;intros)
    exact ag1 (k+1) (by omega) (entL (.cons zle .nil) zk (HLe.none _))
  repeat(refine zS ?_;intros)
  rename_i fs hfs g17 _
  obtain⟨hZ,hfl⟩:=hfs.fac hG0
  have hle: ∀x∈fs,x.1.length≤1048576:=fun x hx=>by have :=hZ.le x hx;omega
  have hcnt:=QEs hR hZ
  refine aL1 [8,135,136] (fun k=>[(19,N (QEY (fs.take k))),(137,N k)]) (fun _=>[]) (fun k=>k≤fs.length) (fun k=>fs.length -k) 0 (Nat.zero_le _) (entL (.cons zle (.cons zle .nil)) zk (HLe.none _)) fun k hk=> ?_
  repeat(refine zS ?_;intros)
  refine zB ?_ ?_<;>intro h8
  · have hkl:k<fs.length:=by omega
    have hxl:=hle _ (Qy6 (x0:=(([],0):List Int×Nat)) hkl)
    have hy:=QE0 (fs:=fs) hkl
    have hn:=QFd (fs:=fs) hkl
    have hcl:=QFc fs k
    obtain⟨y,ey⟩: ∃y,fs.getD k ([],0)=y:=⟨_,rfl⟩
    rw[ey] at hxl hy hn
    repeat(refine zS ?_;intros)
    rw[ey]
    repeat(refine zS ?_;intros)
    refine zB ?_ ?_<;>intro h9
    · have e:=hy (by omega)
      repeat(refine zS ?_;intros)
      exact ag1 (k+1) (by omega) (entL (.cons (leI (by omega)) (.cons zle .nil)) zk (HLe.none _))
    · have e:=hn (by omega)
      repeat(refine zS ?_;intros)
      exact ag1 (k+1) (by omega) (entL (.cons (leI (by omega)) (.cons zle .nil)) zk (HLe.none _))
  obtain rfl:k=fs.length:=by omega
  have hc:QEY fs=gs.length:=hcnt
  rw[List.take_length]
  repeat(refine zS ?_;intros)
  exact aRet1 rfl zv hK (le_refl _)⟩
end Go.Proofs.YtjdpemcnlejpfaaGreatDoor
namespace Go.Proofs.YtjdpemcnlejpfaaGreatDoor
open Go.RowKit Go.Gx Go.Am Tryz
theorem QEU{W:World}{S S':Nat→Prop}{A A':Option Addr}{n c n' c' M:Nat}{ps:List (Int×Int)}{l:List RI}(h0:QEZ W S A n c ps)(h1:Yk W S' A' n' c' l M)(ht:Qi4 W):Calls Tryz.prog 12 #[.slice A n c,.slice A' n' c'] W (Ret fun v w'=> ∃g:Bool,v= .bool g∧Ext W w'∧g=true):=
  am_row (vs:=[.slice A n c,.slice A' n' c']) (c12.k (l:=ps) (D:=rawD l) h0.2 (poly_dig h1)) ⟨pairs_rep h0,poly_rep h1,trivial⟩ (tab_rep ht) ⟨rfl,rfl⟩
end Go.Proofs.YtjdpemcnlejpfaaGreatDoor
