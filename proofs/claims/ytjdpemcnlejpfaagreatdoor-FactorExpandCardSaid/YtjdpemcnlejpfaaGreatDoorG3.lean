/-
  G3, R23
-/
import Derived.Test.YtjdpemcnlejpfaaGreatDoorG1
import Derived.Test.YtjdpemcnlejpfaaGreatDoorAmRow
set_option linter.all false
namespace Go.Proofs.YtjdpemcnlejpfaaGreatDoor
open Go.RowKit Go.Gx Go.Am Tryz
theorem Qy2{M M':Nat}{f g:List Int}(hf:f.length≤1099511627776)(hg:g.length≤1099511627776)(h:Xa f=Xa g):AC prog 30 [] [pc M f,pv M' g] fun K=>K [] [Bo true]:=by
  have z:AC prog 30 [] [pv M f,pv M' g] fun K=>K [] [Bo (decide (Xa f=Xa g))]:=c30.k hf hg
  rw[decide_eq_true h] at z
  exact AC.les z (.cons le_pcv0 (.cons (le_refl _) .nil))
structure Qw0 (fs:List (List Int×Nat)):Prop where
  len:fs.length≤1000
  fc: ∀x∈fs,FcF x.1 17
  n: ∀x∈fs,Nrm x.1
  irr: ∀x∈fs,Irr (P x.1)
  k1: ∀x∈fs,1≤x.2
  asc:fs.Pairwise fun a b=>Qbv a.1 b.1<0
set_option maxHeartbeats 1000000 in
instance c23:TK prog 23 (∀{fs:List (List Int×Nat)}(_:Qw0 fs),AC prog 23 [] [sl 2 (fs.map (fv 17))] fun K=>K [] [Bo true]):=⟨fun {fs} hS=>by
  refine aEnter func23 rfl ntmps23 rfl fun K C hC hK=> ?_
  obtain⟨hl,hf,hn,hi,hk1,hasc⟩:=hS
  repeat(refine zS ?_;intros)
  refine aL1 [0,5,6] (fun k=>[(7,N k)]) (fun _=>[]) (fun k=>k≤fs.length) (fun k=>fs.length -k) 0 (Nat.zero_le _) (entL (.cons zle .nil) zk (HLe.none _)) fun k hk=> ?_
  repeat(refine zS ?_;intros)
  refine zB ?_ ?_<;>intro h
  · have h8:k<fs.length:=by omega
    have hm:=Qy6 (x0:=(([],0):List Int×Nat)) h8
    have u1:=hf _ hm
    have u2:=hn _ hm
    have u3:=hi _ hm
    have u4:=hk1 _ hm
    have hcmp: ∀j,k=j+1→Qbv (fs.getD j ([],0)).1 (fs.getD k ([],0)).1<0∧Nrm (fs.getD j ([],0)).1∧(fs.getD j ([],0)).1.length≤17:=fun j hj=>by
      have hmj:=Qy6 (x0:=(([],0):List Int×Nat)) (show j<fs.length by omega)
      refine⟨?_,hn _ hmj,(hf _ hmj).len⟩
      have :=List.pairwise_iff_getElem.1 hasc j k (by omega) h8 (by omega)
      simpa [List.getD,h8,show j<fs.length by omega] using this
    have u5:=u1.len
    have hN:AC prog 44 [] [pc 17 (fs.getD k ([],0)).1] fun K=>K [] [Bo true]:=AC.les (AC.imp (c44.k (M:=17) (F:=(fs.getD k ([],0)).1) (by omega) (by omega)) fun K hk b hb=>by
      rw[hb.2 ⟨by rw[u2.t],u2.s,u2.c⟩];exact hk) (.cons le_pcv0 .nil)
    have hI:AC prog 24 [] [pc 17 (fs.getD k ([],0)).1] fun K=>K [] [Bo true]:=AC.les (AC.imp (c24.k u1) fun K hk b hb=>by
      rw[hb.2 u3];exact hk) (.cons le_pcv0 .nil)
    rcases Nat.eq_zero_or_pos k with h0|h0
    · clear hcmp hm hf hn hi hk1 hasc u1 u3 u2
      repeat(refine zS ?_;intros)
      exact ag1 (k+1) (by omega) (entL (.cons zle .nil) zk (HLe.none _))
    · obtain⟨c1,c2,c3⟩:=hcmp (k -1) (by omega)
      rw[←c2.t,←u2.t] at c1
      clear hcmp hm hf hn hi hk1 hasc u1 u3 u2 c2
      repeat(refine zS ?_;intros)
      exact ag1 (k+1) (by omega) (entL (.cons zle .nil) zk (HLe.none _))
  repeat(refine zS ?_;intros)
  exact aRet1 rfl zv hK (le_refl _)⟩
theorem Qbb.srt{F:List Int}{fs:List (List Int×Nat)}(h:Qbb F fs)(hd:(Xa F).length≤10)(hH: ∀i,(co F i).natAbs≤2^200)(hl:fs.length≤1000):Qw0 fs:=
  ⟨hl,fun x hx=>by
    have hk:=h.k1 x hx
    have hv:=h.v x hx
    have hdv:P x.1∣P F:=(XM (h.irr x hx) h.ne).2 (by omega)
    have⟨h1,h2⟩:=Qny (n:=9) hd (by decide) h.ne (h.n x hx) hdv hH
    exact Qu3 (by decide) (by omega) (by rw[(h.n x hx).t];omega) fun i=>Nat.le_trans (Qd9 _ i) (Nat.le_trans h1 (by decide+kernel)),h.n,h.irr,h.k1,h.asc⟩
theorem Quz(u:Int)(fs:List (List Int×Nat)):P (Qqu u fs)=K (u:Rat)*ZO fs:=by
  have key: ∀(l:List (List Int×Nat))(X:List Int),P (l.foldl (fun a x=>Xa (Xg a (Xa (Zk x.1 x.2)))) X)=P X*ZO l:=by
    intro l
    induction l with
    |nil=>intro X;show P X=P X*1;rw[QaE]
    |cons x l ih=>
      intro X
      rw[List.foldl_cons,ih,Yf,Zb,Yf,QuA]
      show _=P X*(P x.1^x.2*ZO l)
      rw[XI]
  unfold Qqu
  rw[key,Yf]
  congr 1
  exact QP.eq fun x=>by rw[v_P,v_K];simp only[evQ];grind
theorem QAV(u:Int)(fs:List (List Int×Nat)):Xa (Qqu u fs)=Qqu u fs:=by
  have key: ∀(l:List (List Int×Nat))(X:List Int),Xa X=X→Xa (l.foldl (fun a x=>Xa (Xg a (Xa (Zk x.1 x.2)))) X)=l.foldl (fun a x=>Xa (Xg a (Xa (Zk x.1 x.2)))) X:=by
    intro l
    induction l with
    |nil=>intro X h;exact h
    |cons x l ih=>intro X _;rw[List.foldl_cons];exact ih _ (XV _)
  exact key fs _ (XV _)
set_option maxHeartbeats 4000000 in
instance c10:TK prog 10 (∀{D:List RawI}(_: ∀x∈D,∀d∈x.2,d<BS),AC prog 10 [] [rwp D] fun K=>K [] [Bo true]):=⟨fun {D} hD=>by
  refine aEnter func10 rfl ntmps10 rfl fun K C hC hK=> ?_
  repeat(refine zS ?_;intros)
  refine zB ?_ ?_<;>intro h1
  · repeat(refine zS ?_;intros)
    exact aRet1 rfl zv hK (le_refl _)
  have f1:Qjs D:=Classical.byContradiction h1
  have⟨l1,l2⟩:=QcF f1
  have hF:=Qfd f1 hD
  have n1:=Qfe f1 hD
  have r1:=Qia f1 hD
  clear h1 f1 hD
  generalize D.map dvI=F at l1 l2 hF n1 r1
  refine AW.ent (entSub (s:=0) (a:=pv 3 F) r1) ?_
  have hFc:AC prog 20 [] [pv 3 F] fun K=> ∀fs,Quw F fs→K [] [it 3 (Yc F),sl 2 (fs.map (fv 17))]:=c20.k hF
  repeat(refine zS ?_;intros)
  rename_i fs hfs g1
  refine zB ?_ ?_<;>intro h3
  · have h0:P F=0:=by rw[←Ya,Yj];omega
    obtain rfl:=hfs.nil h0
    have hp:=ZY h0
    repeat(refine zS ?_;intros)
    exact aRet1 rfl zv hK (.of_eq (by simp))
  have h0:P F≠0:=QaA (by omega)
  obtain⟨zf,f2⟩:=hfs.fac h0
  have hu:Yc F≠0:=Yi ((Xz F).2 h0)
  have hfl:=zf.len
  have hS:=Qbb.srt zf (by omega) (fun i=>Nat.le_trans (QkK F i) (Nat.le_trans n1 (by decide+kernel))) (by omega)
  have hx: ∀x∈fs,1≤(Xa x.1).length∧x.1.length≤32∧x.2≤32:=fun x hx=>by
    have :=zf.le x hx;rw[(zf.n x hx).t];omega
  have hx9: ∀x∈fs,x.1.length≤9∧x.2≤9:=fun x hx=>by have :=zf.le x hx;omega
  have hw:=fun X=>zf.whole (X:=X)
  have hm1:Xa (Qqu (Yc F) fs)=Xa F:=hw _ (Quz _ _)
  have hml:(Qqu (Yc F) fs).length≤1099511627776:=by rw[←QAV,hm1];omega
  have hX0:P (Xa (Xf [1] (Yc F)))=Gx.K (Yc F:Rat)*ZO []:=by
    rw[Yf,YF,Qcw];rfl
  have hXl:=Xe (Xf [1] (Yc F))
  have hXs:(Xf [1] (Yc F)).length=1:=rfl
  generalize Yc F=u at *
  clear hfs zf h0 hF h3
  have o1:AC prog 16 [] [sl 1 [I .i64 1]] fun K=>K [] [pc 2 [1]]:=c16.k (l:=[1]) (by decide) (by decide)
  have hl1:([1]:List Int).length≤1099511627776:=by decide
  repeat(refine zS ?_;intros)
  refine aL2 [0,3,4,33,34] (fun k X=>[(5,pc (5+k*2000) X),(35,N k)]) (fun _ _=>[.arr 25 1 (itl 3 u)]) (fun k X=>k≤fs.length∧X.length≤100*k+1∧P X=Gx.K (u:Rat)*ZO (fs.take k)) (fun k _=>fs.length -k) 0 (Xa (Xf [1] u)) ⟨Nat.zero_le _,by omega,hX0⟩ (entL (.cons (le_pcc (by omega)) (.cons zle .nil)) zk (.cons (ob_refl _) (HLe.none _))) fun k X ⟨hk,hX,hP⟩=> ?_
  repeat(refine zS ?_;intros)
  refine zB ?_ ?_<;>intro h
  · have h8:k<fs.length:=by omega
    have hm:=Qy6 (x0:=(([],0):List Int×Nat)) h8
    have⟨a1,a2⟩:=hx9 _ hm
    have hsn:ZO (fs.take (k+1))=ZO (fs.take k)*P (fs.getD k ([],0)).1^ (fs.getD k ([],0)).2:=by
      rw[List.take_add_one,List.getElem?_eq_getElem h8,←Qgu]
      simp [List.getD,h8]
    obtain⟨y,ey⟩: ∃y,fs.getD k ([],0)=y:=⟨_,rfl⟩
    rw[ey] at a1 a2 hsn
    clear hm
    have hL:(Xa y.1).length≤8+1:=by have :=Xe y.1;omega
    have w1:y.2*17≤9*17:=Nat.mul_le_mul a2 (Nat.le_refl _)
    have w2:y.2*y.2*(8+2)≤9*9*(8+2):=Nat.mul_le_mul (Nat.mul_le_mul a2 a2) (Nat.le_refl _)
    have w3:y.2*y.1.length≤9*9:=Nat.mul_le_mul a2 a1
    obtain⟨z,ez⟩: ∃z,Xa (Zk y.1 y.2)=z:=⟨_,rfl⟩
    have w4:z.length≤82:=by have h8:=Nat.le_trans (Xe (Zk y.1 y.2)) (Qfr y.1 y.2);rw[ez] at h8;omega
    have w5:=Nat.le_trans (Xe (Xg X z)) (Yo X z)
    have w6:P (Xa (Xg X z))=Gx.K (u:Rat)*ZO (fs.take (k+1)):=by
      rw[Yf,Zb,hP,hsn,←ez,Yf,QuA,XI]
    repeat(refine zS ?_;intros)
    rw[ey]
    repeat(refine zS ?_;intros)
    rw[ez]
    repeat(refine zS ?_;intros)
    exact ag2 (k+1) (Xa (Xg X z)) ⟨by omega,by omega,w6⟩ (entL (.cons (le_pcc (by omega)) (.cons zle .nil)) zk (.drop (.cons (ob_refl _) (HLe.none _))))
  obtain rfl:k=fs.length:=by omega
  rw[List.take_length] at hP
  have hXF:=hw X hP
  have hs1:=Qy2 (M:=5+fs.length*2000) (M':=3) (f:=X) (g:=F) (by omega) (by omega) hXF
  repeat(refine zS ?_;intros)
  exact aRet1 rfl zv hK (.of_eq (congrArg Bo (decide_eq_true hm1)))⟩
end Go.Proofs.YtjdpemcnlejpfaaGreatDoor
namespace Go.Proofs.YtjdpemcnlejpfaaGreatDoor
open Go.RowKit Go.Gx Go.Am Tryz
theorem QAJ{W:World}{S:Nat→Prop}{A:Option Addr}{n c M:Nat}{l:List RI}(h0:Yk W S A n c l M)(ht:Qi4 W):Calls Tryz.prog 10 #[.slice A n c] W (Ret fun v w'=> ∃g:Bool,v= .bool g∧Ext W w'∧g=true):=
  am_row (vs:=[.slice A n c]) (c10.k (poly_dig h0)) ⟨poly_rep h0,trivial⟩ (tab_rep ht) ⟨rfl,rfl⟩
end Go.Proofs.YtjdpemcnlejpfaaGreatDoor
