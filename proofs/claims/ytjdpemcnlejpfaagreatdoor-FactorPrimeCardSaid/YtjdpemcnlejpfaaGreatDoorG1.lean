/-
  G1, R21, G2, R22
-/
import Derived.Test.YtjdpemcnlejpfaaGreatDoorF14
import Derived.Test.YtjdpemcnlejpfaaGreatDoorModTab
import Derived.Test.YtjdpemcnlejpfaaGreatDoorAmRow
set_option linter.all false
namespace Go.Proofs.YtjdpemcnlejpfaaGreatDoor
open Go.RowKit Go.Gx Go.Am Tryz
theorem Qjr{F:List Int}{M:Nat}(hM:M≤64)(hl:F.length≤17)(hd:(Xa F).length≤10)(h:nrm F≤2^244):FcF F M:=Qu3 hM hl hd fun i=>Nat.le_trans (QkK F i) h
theorem Qfe{D:List RawI}(h:Qjs D)(hb: ∀x∈D,∀d∈x.2,d<BS):nrm (D.map dvI)≤9*2^96:=Qto (by rw[List.length_map];exact h.1) fun z hz=>by
  obtain⟨x,hx,rfl⟩:=List.mem_map.1 hz
  show(sg x.1 (val x.2)).natAbs≤_
  rw[sg_abs]
  have h1:=Za x.2 (hb x hx)
  have h3:=Nat.pow_le_pow_right (show 0<BS by decide) (h.2 x hx)
  have h4:BS^3=2^96:=by decide+kernel
  omega
theorem QcF{D:List RawI}(h:Qjs D):(D.map dvI).length≤9∧(Xa (D.map dvI)).length≤9:=by
  have h1:=Xe (D.map dvI)
  have h2:(D.map dvI).length=D.length:=List.length_map ..
  have :=h.1
  omega
theorem Qfd{D:List RawI}(h:Qjs D)(hb: ∀x∈D,∀d∈x.2,d<BS):FcF (D.map dvI) 3:=by
  have⟨h1,h2⟩:=QcF h
  exact Qjr (by decide) (by omega) (by omega) (Nat.le_trans (Qfe h hb) (by decide+kernel))
theorem Qia{D:List RawI}(h:Qjs D)(hb: ∀x∈D,∀d∈x.2,d<BS):(rwp D).le (pv 3 (D.map dvI)):=rwp_pv h.2 hb
theorem Qy6{α:Type}{l:List α}{k:Nat}{x0:α}(h:k<l.length):l.getD k x0∈l:=by
  simp only[List.getD,List.getElem?_eq_getElem h,Option.getD_some];exact List.getElem_mem _
set_option maxHeartbeats 4000000 in
instance c5:TK prog 5 (∀{D E:List RawI}(_: ∀x∈D,∀d∈x.2,d<BS) (_: ∀x∈E,∀d∈x.2,d<BS),AC prog 5 [] [rwp D,rwp E] fun K=>K [] [Bo true]):=⟨fun {D E} hD hE=>by
  refine aEnter func5 rfl ntmps5 rfl fun K C hC hK=> ?_
  repeat(refine zS ?_;intros)
  refine zB ?_ ?_<;>intro h1
  · repeat(refine zS ?_;intros)
    exact aRet1 rfl zv hK (le_refl _)
  repeat(refine zS ?_;intros)
  refine zB ?_ ?_<;>intro h2
  · repeat(refine zS ?_;intros)
    exact aRet1 rfl zv hK (le_refl _)
  have f1:Qjs D:=Classical.byContradiction h1
  have f2:Qjs E:=Classical.byContradiction h2
  have⟨l1,_⟩:=QcF f1
  have⟨l2,_⟩:=QcF f2
  have e1:(D.map dvI).length=D.length:=List.length_map ..
  have e2:(E.map dvI).length=E.length:=List.length_map ..
  have hF:=Qfd f1 hD
  have hG:=Qfd f2 hE
  have n1:=Qfe f1 hD
  have n2:=Qfe f2 hE
  have r1:=Qia f1 hD
  have r2:=Qia f2 hE
  clear h1 h2 f1 f2 hD hE
  generalize D.map dvI=F at l1 e1 hF n1 r1
  generalize E.map dvI=G at l2 e2 hG n2 r2
  refine AL.ent (entSub (s:=0) (a:=pv 3 F) r1) ?_
  refine AL.ent (entSub (s:=1) (a:=pv 3 G) r2) ?_
  repeat(refine zS ?_;intros)
  refine zB ?_ ?_<;>intro h3
  · repeat(refine zS ?_;intros)
    exact aRet1 rfl zv hK (le_refl _)
  have pl:=Yo F G
  have tl:=Xe (Xg F G)
  have hX:FcF (Xa (Xg F G)) (3+3+F.length):=Qjr (by omega) (by omega) (by rw[XV];omega) (by
    rw[QkM]
    exact Nat.le_trans (Qhk F G) (Nat.le_trans (Nat.mul_le_mul n1 n2) (by decide+kernel)))
  have hpc:=Qoz F G
  have hPX:=Qcx F G
  have hM:AC prog 17 [] [pv 3 F,pv 3 G] fun K=>K [] [pc (3+3+F.length) (Xa (Xg F G))]:=c17.k (by omega) (by omega)
  generalize Xa (Xg F G)=X at hX hpc hPX tl hM
  repeat(refine zS ?_;intros)
  rename_i a ha g1 b hb g2 l hl g3
  refine zB ?_ ?_<;>intro h4
  · exact absurd hpc h4
  repeat(refine zS ?_;intros)
  rename_i s hs1 hs2 hs3 hs4 hs5
  refine zB ?_ ?_<;>intro h5
  · have h6:P X=0:=Classical.byContradiction fun h=>Yi ((Xz X).2 h) (hs1.1 h5)
    obtain rfl:=hl.nil h6
    repeat(refine zS ?_;intros)
    exact aRet1 rfl zv hK (.of_eq (by simp))
  have h6:P X≠0:=fun h=>h5 (hs1.2 (ZY h))
  have hF0:P F≠0:=fun h=>h6 (by rw[hPX,h,XG])
  have hG0:P G≠0:=fun h=>h6 (by rw[hPX,h,Ys])
  obtain⟨za,a1⟩:=ha.fac hF0
  obtain⟨zb,b1⟩:=hb.fac hG0
  obtain⟨zl,c1⟩:=hl.fac h6
  have⟨m1,m2⟩:=Qqh za zb zl hPX
  have a2: ∀x∈a,x.1.length≤1048576:=fun x hx=>by have :=za.le x hx;have :=Xe F;omega
  have b2: ∀x∈b,x.1.length≤1048576:=fun x hx=>by have :=zb.le x hx;have :=Xe G;omega
  have c2: ∀x∈l,x.1.length≤1048576∧x.2≤100:=fun x hx=>by have :=zl.le x hx;have :=Xe X;omega
  have s1:=Qo5 fun x hx=>(c2 x hx).2
  have a3:a.length≤1000:=by omega
  have b3:b.length≤1000:=by omega
  clear ha hb hl za zb zl hX hF hG hpc h4 h5 hs1 hs2 hs3 hs4 hs5 hPX h6 hF0 hG0 r1 r2
  repeat(refine zS ?_;intros)
  refine aL1 [6,8,65,66] (fun k=>[(11,N (QcT (l.take k))),(67,N k)]) (fun _=>[]) (fun k=>k≤l.length) (fun k=>l.length -k) 0 (Nat.zero_le _) (entL (.cons zle (.cons zle .nil)) zk (HLe.none _)) fun k hk=> ?_
  repeat(refine zS ?_;intros)
  refine zB ?_ ?_<;>intro h7
  · have h8:k<l.length:=by omega
    have wa:=QfC h8
    have wb:=Qb5 (l:=l) (k+1)
    have hm:=Qy6 (x0:=(([],0):List Int×Nat)) h8
    have u1:=m1 _ hm
    have⟨u2,u3⟩:=c2 _ hm
    obtain⟨y,ey⟩: ∃y,l.getD k ([],0)=y:=⟨_,rfl⟩
    rw[ey] at wa u1 u2 u3
    clear hm
    repeat(refine zS ?_;intros)
    rw[ey]
    repeat(refine zS ?_;intros)
    exact ag1 (k+1) (by omega) (entL (.cons (leI (by omega)) (.cons zle .nil)) zk (HLe.none _))
  obtain rfl:k=l.length:=by omega
  rw[List.take_length]
  repeat(refine zS ?_;intros)
  refine aL1 [8,88,89] (fun k=>[(11,I .i64 ((QcT l:Int) -(QcT (a.take k):Nat))),(90,N k)]) (fun _=>[]) (fun k=>k≤a.length) (fun k=>a.length -k) 0 (Nat.zero_le _) (entL (.cons (leI (by simp [QcT])) (.cons zle .nil)) zk (HLe.none _)) fun k hk=> ?_
  repeat(refine zS ?_;intros)
  refine zB ?_ ?_<;>intro h8
  · have h9:k<a.length:=by omega
    have wa:=QfC h9
    have wb:=Qb5 (l:=a) (k+1)
    obtain⟨y,ey⟩: ∃y,a.getD k ([],0)=y:=⟨_,rfl⟩
    rw[ey] at wa
    repeat(refine zS ?_;intros)
    rw[ey]
    repeat(refine zS ?_;intros)
    exact ag1 (k+1) (by omega) (entL (.cons (leI (by omega)) (.cons zle .nil)) zk (HLe.none _))
  obtain rfl:k=a.length:=by omega
  rw[List.take_length]
  repeat(refine zS ?_;intros)
  refine aL1 [99,100] (fun k=>[(11,I .i64 ((QcT l:Int) -(QcT a:Nat) -(QcT (b.take k):Nat))),(101,N k)]) (fun _=>[]) (fun k=>k≤b.length) (fun k=>b.length -k) 0 (Nat.zero_le _) (entL (.cons (leI (by simp [QcT])) (.cons zle .nil)) zk (HLe.none _)) fun k hk=> ?_
  repeat(refine zS ?_;intros)
  refine zB ?_ ?_<;>intro h9
  · have h10:k<b.length:=by omega
    have wa:=QfC h10
    have wb:=Qb5 (l:=b) (k+1)
    obtain⟨y,ey⟩: ∃y,b.getD k ([],0)=y:=⟨_,rfl⟩
    rw[ey] at wa
    repeat(refine zS ?_;intros)
    rw[ey]
    repeat(refine zS ?_;intros)
    exact ag1 (k+1) (by omega) (entL (.cons (leI (by omega)) (.cons zle .nil)) zk (HLe.none _))
  obtain rfl:k=b.length:=by omega
  rw[List.take_length]
  have hz:((QcT l:Int) -(QcT a:Nat) -(QcT b:Nat))=0:=by omega
  rw[hz]
  repeat(refine zS ?_;intros)
  exact aRet1 rfl zv hK (le_refl _)⟩
end Go.Proofs.YtjdpemcnlejpfaaGreatDoor
namespace Go.Proofs.YtjdpemcnlejpfaaGreatDoor
open Go.RowKit Go.Gx Go.Am Tryz
theorem QAK{W:World}{S S':Nat→Prop}{A A':Option Addr}{n c n' c' M M':Nat}{l l':List RI}(h0:Yk W S A n c l M)(h1:Yk W S' A' n' c' l' M')(ht:Qi4 W):Calls Tryz.prog 5 #[.slice A n c,.slice A' n' c'] W (Ret fun v w'=> ∃g:Bool,v= .bool g∧Ext W w'∧g=true):=
  am_row (vs:=[.slice A n c,.slice A' n' c']) (c5.k (poly_dig h0) (poly_dig h1)) ⟨poly_rep h0,poly_rep h1,trivial⟩ (tab_rep ht) ⟨rfl,rfl⟩
end Go.Proofs.YtjdpemcnlejpfaaGreatDoor
namespace Go.Proofs.YtjdpemcnlejpfaaGreatDoor
open Go.RowKit Go.Gx Go.Am Tryz
theorem QoW{F:List Int}{c:Int}(hl:F.length≤7)(hc: -32768≤c∧c≤32767)(hn:nrm F≤9*2^96):nrm (shZ c F)≤2^210:=by
  have h1:=Qis c F
  have h2:(c.natAbs+1)^F.length≤32769^7:=Nat.le_trans (Nat.pow_le_pow_left (by omega) _) (Nat.pow_le_pow_right (by decide) hl)
  have h3:=Nat.mul_le_mul hn h2
  unfold shZ
  rw[QkM]
  have h4:9*2^96*32769^7≤2^210:=by decide+kernel
  omega
theorem Qy1(c:Int)(F:List Int):(shZ c F).length=(Xa F).length:=by
  have :=Qh4 c F
  rw[Yj,Yj,QeF] at this
  exact this
theorem QBl{M M':Nat}{f g:List Int}(hf:f.length≤1099511627776)(hg:g.length≤1099511627776)(h:Xa f=Xa g):AC prog 30 [] [pc M f,pc M' g] fun K=>K [] [Bo true]:=by
  have z:AC prog 30 [] [pv M f,pv M' g] fun K=>K [] [Bo (decide (Xa f=Xa g))]:=c30.k hf hg
  rw[decide_eq_true h] at z
  exact AC.les z (.cons le_pcv0 (.cons le_pcv0 .nil))
set_option maxHeartbeats 4000000 in
instance c7:TK prog 7 (∀{D:List RawI}{c:Int}(_: ∀x∈D,∀d∈x.2,d<BS) (_: -32768≤c∧c≤32767),AC prog 7 [] [rwp D,I .i16 c] fun K=>K [] [Bo true]):=⟨fun {D c} hD hc=>by
  refine aEnter func7 rfl ntmps7 rfl fun K C hC hK=> ?_
  repeat(refine zS ?_;intros)
  refine zB ?_ ?_<;>intro h1
  · repeat(refine zS ?_;intros)
    exact aRet1 rfl zv hK (le_refl _)
  have f1:Qjs D:=Classical.byContradiction h1
  have⟨l1,_⟩:=QcF f1
  have e1:(D.map dvI).length=D.length:=List.length_map ..
  have hF:=Qfd f1 hD
  have n1:=Qfe f1 hD
  have r1:=Qia f1 hD
  clear h1 f1 hD
  generalize D.map dvI=F at l1 e1 hF n1 r1
  refine AL.ent (entSub (s:=0) (a:=pv 3 F) r1) ?_
  repeat(refine zS ?_;intros)
  refine zB ?_ ?_<;>intro h2
  · repeat(refine zS ?_;intros)
    exact aRet1 rfl zv hK (le_refl _)
  have l7:F.length≤7:=by omega
  have n2:=QoW l7 hc n1
  have hsl:=Qy1 c F
  have tl:=Xe F
  have hG:FcF (shZ c F) 7:=Qjr (by decide) (by omega) (by rw[QeF];omega) (Nat.le_trans n2 (by decide+kernel))
  have hle: ∀M,(pc M (shZ c F)).le (pc 7 (shZ c F)):=fun M=>QcI fun i=>Nat.lt_of_le_of_lt (Nat.le_trans (QkK _ i) n2) (by decide+kernel)
  obtain⟨b0,hb0⟩: ∃b0:Bool,b0=true↔Irr (P F):=⟨@decide (Irr (P F)) (Classical.propDecidable _),@decide_eq_true_iff _ (Classical.propDecidable _)⟩
  have hI1:AC prog 24 [] [pv 3 F] fun K=>K [] [Bo b0]:=AC.imp (c24.k hF) fun K hk b hb=>by
    rw[Bool.eq_iff_iff.2 (hb.trans hb0.symm)];exact hk
  have hI2:True∧AC prog 24 [] [pc 7 (shZ c F)] fun K=>K [] [Bo b0]:=⟨trivial,AC.les (AC.imp (c24.k hG) fun K hk b hb=>by
    have hs:=Shd.Z c F
    rw[Bool.eq_iff_iff.2 (hb.trans (⟨fun h=>hs.back.irr h,fun h=>hs.irr h⟩:Irr (P (shZ c F))↔Irr (P F))|>.trans hb0.symm)];exact hk) (.cons le_pcv0 .nil)⟩
  have hS1:AC prog 31 [] [pv 3 F,it 2 c] fun K=>K [] [pc (3+F.length*F.length*(2+1)) (shZ c F)]:=AC.les (c31.k (by omega) (by omega) (by omega)) (.cons (le_refl _) (.cons le_it0 .nil))
  have w1: -9223372036854775808≤c:=by omega
  have w2:c≤9223372036854775807:=by omega
  repeat(refine zS ?_;intros)
  refine AL.ent (entSub (s:=5) (a:=pc 7 (shZ c F)) (by exact hle _)) ?_
  refine AL.ent (entSub (s:=33) (a:=pc 7 (shZ c F)) (by exact hle _)) ?_
  repeat(refine zS ?_;intros)
  rename_i a ha g1 b hb g2 z1 z2
  have hab:(∀x∈a,Zo b (shZ c x.1)=x.2)∧a.length=b.length∧(∀x∈a,x.1.length≤9∧x.2≤9)∧(∀x∈b,x.1.length≤1048576)∧a.length≤289:=by
    by_cases h0:P F=0
    · have h1:P (shZ c F)=0:=by
        rw[←Ya,Qh4,Ya];exact h0
      obtain rfl:=ha.nil h0
      obtain rfl:=hb.nil h1
      simp
    · have h1:P (shZ c F)≠0:=XF.2 (by rw[Qh4];exact XF.1 h0)
      obtain⟨za,a1⟩:=ha.fac h0
      obtain⟨zb,b1⟩:=hb.fac h1
      have⟨k1,k2⟩:=QlS za zb
      exact⟨k1,k2,fun x hx=>(by have :=za.le x hx;omega),fun x hx=>(by have :=zb.le x hx;rw[QeF] at this;omega),a1⟩
  obtain⟨k1,k2,k3,k4,k5⟩:=hab
  have k6:b.length≤1000:=by omega
  clear ha hb hF hG hS1 hb0
  repeat(refine zS ?_;intros)
  refine zB ?_ ?_<;>intro h3
  · exact absurd k2 (by omega)
  repeat(refine zS ?_;intros)
  clear hI1
  have hI3:=hI2.2
  repeat(refine zS ?_;intros)
  refine aL1 [1,9,49,50] (fun k=>[(51,N k)]) (fun _=>[]) (fun k=>k≤a.length) (fun k=>a.length -k) 0 (Nat.zero_le _) (entL (.cons zle .nil) zk (HLe.none _)) fun k hk=> ?_
  repeat(refine zS ?_;intros)
  refine zB ?_ ?_<;>intro h7
  · have h8:k<a.length:=by omega
    have hm:=Qy6 (x0:=(([],0):List Int×Nat)) h8
    have u1:=k1 _ hm
    have⟨u2,u3⟩:=k3 _ hm
    obtain⟨y,ey⟩: ∃y,a.getD k ([],0)=y:=⟨_,rfl⟩
    rw[ey] at u1 u2 u3
    clear hm
    have u4:(shZ c y.1).length≤1048576:=by rw[Qy1];have :=Xe y.1;omega
    have hS2:AC prog 31 [] [pc 17 y.1,it 2 c] fun K=>K [] [pc (17+y.1.length*y.1.length*(2+1)) (shZ c y.1)]:=AC.les (c31.k (by omega) (by omega) (by omega)) (.cons le_pcv0 (.cons le_it0 .nil))
    repeat(refine zS ?_;intros)
    rw[ey]
    repeat(refine zS ?_;intros)
    exact ag1 (k+1) (by omega) (entL (.cons zle .nil) zk (HLe.none _))
  repeat(refine zS ?_;intros)
  exact aRet1 rfl zv hK (le_refl _)⟩
set_option maxHeartbeats 4000000 in
instance c6:TK prog 6 (∀{D:List RawI}(_: ∀x∈D,∀d∈x.2,d<BS),AC prog 6 [] [rwp D] fun K=>K [] [Bo true]):=⟨fun {D} hD=>by
  refine aEnter func6 rfl ntmps6 rfl fun K C hC hK=> ?_
  repeat(refine zS ?_;intros)
  refine zB ?_ ?_<;>intro h1
  · repeat(refine zS ?_;intros)
    exact aRet1 rfl zv hK (le_refl _)
  have f1:Qjs D:=Classical.byContradiction h1
  have⟨l1,_⟩:=QcF f1
  have hF:=Qfd f1 hD
  have r1:=Qia f1 hD
  clear h1 f1 hD
  generalize D.map dvI=F at l1 hF r1
  refine AW.ent (entSub (s:=0) (a:=pv 3 F) r1) ?_
  by_cases hq:Qem (P F) (der (P F))
  · have hF0:P F≠0:=fun h=>Qeb h hq
    have hqq: ¬¬Qem (P F) (der (P F)):=fun h=>h hq
    have hsq:AC prog 29 [] [pv 3 F] fun K=>K [] [Bo true]:=AC.imp (c29.k (by omega) (by omega)) fun K hk b hb=>by
      rw[hb.2 (Qo3.1 hq)];exact hk
    repeat(refine zS ?_;intros)
    rename_i l hl hll hs fs hfs g1 z1 z2
    obtain⟨zf,f2⟩:=hfs.fac hF0
    have e:=zf.uniq (Qrb hF0 hq hl hs)
    have e1:fs.length=l.length:=by rw[e,List.length_map]
    have e2: ∀k,k<l.length→fs.getD k ([],0)=(l.getD k [],1):=fun k hk=>by
      rw[e];simp [List.getD,hk]
    have e3: ∀k,k<l.length→(l.getD k []).length≤9∧Xa (l.getD k [])=l.getD k []:=fun k hk=>by
      have :=zf.le _ (Qy6 (x0:=(([],0):List Int×Nat)) (show k<fs.length by omega))
      rw[e2 k hk] at this
      have h9:=Xe F
      exact⟨by have h8:=this.2.1;dsimp only at h8;omega,(hl.n _ (Qy6 hk)).t⟩
    clear hfs zf e hF hl hs hsq hq hqq hF0
    repeat(refine zS ?_;intros)
    refine zB ?_ ?_<;>intro h3
    · exact absurd e1 (by omega)
    repeat(refine zS ?_;intros)
    refine aL1 [3,43,44] (fun k=>[(45,N k)]) (fun _=>[]) (fun k=>k≤l.length) (fun k=>l.length -k) 0 (Nat.zero_le _) (entL (.cons zle .nil) zk (HLe.none _)) fun k hk=> ?_
    repeat(refine zS ?_;intros)
    refine zB ?_ ?_<;>intro h7
    · have h8:k<l.length:=by omega
      have ey:=e2 k h8
      have⟨u1,u2⟩:=e3 k h8
      have x2:(fs.getD k ([],0)).2=1:=by rw[ey]
      have x3:(fs.getD k ([],0)).1.length≤9:=by rw[ey];exact u1
      have x4:Xa (l.getD k [])=Xa (fs.getD k ([],0)).1:=by rw[ey]
      have x5:(Xa (fs.getD k ([],0)).1).length=(l.getD k []).length:=by rw[←x4,u2]
      have hSm:AC prog 30 [] [pc 18 (l.getD k []),pc 17 (fs.getD k ([],0)).1] fun K=>K [] [Bo true]:=QBl (by omega) (by omega) x4
      clear ey
      repeat(refine zS ?_;intros)
      exact ag1 (k+1) (by omega) (entL (.cons zle .nil) zk (HLe.none _))
    repeat(refine zS ?_;intros)
    exact aRet1 rfl zv hK (le_refl _)
  · have hsq:AC prog 29 [] [pv 3 F] fun K=>K [] [Bo false]:=AC.imp (c29.k (by omega) (by omega)) fun K hk b hb=>by
      have :b=false:=by cases b;rfl;exact absurd (Qo3.2 (hb.1 rfl)) hq
      rw[this];exact hk
    repeat(refine zS ?_;intros)
    exact aRet1 rfl zv hK (.of_eq (by simp))⟩
end Go.Proofs.YtjdpemcnlejpfaaGreatDoor
namespace Go.Proofs.YtjdpemcnlejpfaaGreatDoor
open Go.RowKit Go.Gx Go.Am Tryz
theorem QA1{W:World}{S:Nat→Prop}{A:Option Addr}{n c M:Nat}{l:List RI}{y:Int}(h0:Yk W S A n c l M)(b1: -32768≤y∧y≤32767)(ht:Qi4 W):Calls Tryz.prog 7 #[.slice A n c,.int .i16 y] W (Ret fun v w'=> ∃g:Bool,v= .bool g∧Ext W w'∧g=true):=
  am_row (vs:=[.slice A n c,.int .i16 y]) (c7.k (poly_dig h0) b1) ⟨poly_rep h0,i_rep,trivial⟩ (tab_rep ht) ⟨rfl,rfl⟩
theorem QA2{W:World}{S:Nat→Prop}{A:Option Addr}{n c M:Nat}{l:List RI}(h0:Yk W S A n c l M)(ht:Qi4 W):Calls Tryz.prog 6 #[.slice A n c] W (Ret fun v w'=> ∃g:Bool,v= .bool g∧Ext W w'∧g=true):=
  am_row (vs:=[.slice A n c]) (c6.k (poly_dig h0)) ⟨poly_rep h0,trivial⟩ (tab_rep ht) ⟨rfl,rfl⟩
end Go.Proofs.YtjdpemcnlejpfaaGreatDoor
