/-
  N1, N2
-/
import Derived.Test.YtjdpemcnlejpfaaGreatDoorFa
import Derived.Test.YtjdpemcnlejpfaaGreatDoorNatMath
set_option linter.all false
namespace Go.Proofs.YtjdpemcnlejpfaaGreatDoor
open Go.RowKit Go.Gx Go.Am Tryz
instance Qxr:TK prog 107 (∀{M x:Nat},AC prog 107 [] [num M x] fun K=> ∀r:List Nat,r.length≤M→(∀d∈r,d<BS)→val r=x→Canon isZ r→K [] [raw r]):=⟨fun {M x}=>by
  refine aEnter func107 rfl ntmps107 rfl fun K C hC hK=>opN 0 rfl fun ds h1 h2 h3=> ?_
  repeat(refine zS ?_;intros)
  refine aL1 [0] (fun k=>[(3,N k)]) (fun _=>[]) (fun k=>k≤ds.length∧ ∀j,k≤j→ds.getD j 0=0) (fun k=>k) ds.length ⟨Nat.le_refl _,QaR (by omega)⟩ (entL (.cons zle .nil) zk .nil) fun k ⟨hk,hz⟩=> ?_
  have⟨a1,a2,a3,a4⟩:=trf h1 h2 h3
  repeat(refine zS ?_;intros)
  refine zB ?_ ?_<;>intro h
  · repeat(refine zS ?_;intros)
    refine zB ?_ ?_<;>intro h
    · repeat(refine zS ?_;intros)
      exact ag1 (k -1) ⟨by omega,Qd1 hz (by omega)⟩ (entL (.cons zle .nil) zk .nil)
    · repeat(refine zS ?_;intros)
      exact aRet1 rfl zv (hK _ a1 a2 a3 a4) (.of_eq (by rw[Qcn (by omega) hz (by omega)]))
  · repeat(refine zS ?_;intros)
    exact aRet1 rfl zv (hK _ a1 a2 a3 a4) (.of_eq (by rw[Qcn (by omega) hz (by omega)]))⟩
instance QxW:TK prog 144 (∀{x y z:Nat}(_:x<4294967296)(_:y<4294967296)(_:z≤1),AC prog 144 [] [U x,U y,U z] fun K=> ∀s c,s+4294967296*c=x+y+z→c≤1→s<4294967296→K [] [U s,U c]):=⟨fun {x y z} hx hy hz=>by
  refine aEnter func144 rfl ntmps144 rfl fun K C hC hK=> ?_
  repeat(refine zS ?_;intros)
  exact aRet2 rfl zv zv (hK ((x+y+z) % 4294967296) ((x+y+z)/4294967296) (by omega) (by omega) (by omega)) zle zle⟩
instance QxY:TK prog 146 (∀{x y z:Nat}(_:x<4294967296)(_:y<4294967296)(_:z≤1),AC prog 146 [] [U x,U y,U z] fun K=> ∀s c,s+y+z=x+4294967296*c→c≤1→s<4294967296→K [] [U s,U c]):=⟨fun {x y z} hx hy hz=>by
  refine aEnter func146 rfl ntmps146 rfl fun K C hC hK=> ?_
  repeat(refine zS ?_;intros)
  have⟨h1,h2⟩:=QpH hx hy hz (d:=((x+4294967296 -y) % 4294967296+4294967296 -z) % 4294967296) (by omega) _ rfl
  exact aRet2 rfl zv zv (hK _ _ h1 h2 (by omega)) zle zle⟩
instance QxB:TK prog 119 (∀{M x:Nat}(_:M≤1099511627776),AC prog 119 [] [num M x] fun K=>K [] [cnum M x]):=⟨fun {M x} hl=>by
  refine aEnter func119 rfl ntmps119 rfl fun K C hC hK=> ?_
  repeat(refine zS ?_;intros)
  rename_i ds h1 h2 h3 h4 _ _
  exact aRetO rfl hC zv 0 rfl lq hK (by simp;exact raw_cn h1 h2 h3 h4)⟩
instance QxV:TK prog 143 (∀{g x y z:Nat}(_:x<4294967296)(_:y<4294967296)(_:z≤1),AC prog 143 [(some g,.arr 46 1 [U z])] [U x,U y,lpt 1 g 0] fun K=> ∀s c,s+4294967296*c=x+y+z→c≤1→s<4294967296→K [(some g,.arr 46 1 [U c])] [U s]):=⟨fun {g x y z} hx hy hz=>by
  refine aEnterF func143 rfl ntmps143 rfl fun K C hC hK=> ?_
  repeat(refine zS ?_;intros)
  rename_i s c h1 h2 h3
  exact aRet (rs:=[_]) rfl rfl (.refl _) zr (hK s c h1 h2 h3)⟩
instance Qxs:TK prog 108 (∀{M M' x y:Nat}(_:M≤1099511627776)(_:M'≤1099511627776),AC prog 108 [] [num M x,num M' y] fun K=>K [] [cnum (max M M'+1) (x+y)]):=⟨fun {M M' x y} hM hM'=>by
  refine aEnter func108 rfl ntmps108 rfl fun K C hC hK=> ?_
  repeat(refine zS ?_;intros)
  rename_i a a1 a2 a3 _ b b1 b2 b3 _ _ _
  refine aJ2 [4] (fun a b=>[(0,raw a),(1,raw b)]) (fun _ _=>[]) (fun a b=>b.length≤a.length∧a.length≤max M M'∧(∀d∈a,d<BS)∧(∀d∈b,d<BS)∧val a+val b=x+y) ?_ ?_
  · refine zB ?_ ?_<;>intro h<;>repeat(refine zS ?_;intros)
    · exact jd2 b a ⟨by omega,by omega,b2,a2,by omega⟩ (entL (.cons zle (.cons zle .nil)) zk .nil)
    · exact jd2 a b ⟨by omega,by omega,a2,b2,by omega⟩ (entL (.cons zle (.cons zle .nil)) zk .nil)
  clear a1 a2 a3 b1 b2 b3
  rintro a b ⟨hl,ha,a2,b2,hv⟩
  repeat(refine zS ?_;intros)
  refine aL3 [0,1,4,5,6,7,27,28] (fun k _ _=>[(29,N k)]) (fun k P c=>[.arr 46 1 ((P++List.replicate (a.length+1 -k) 0).map U),.arr 46 1 [U c]]) (fun k P c=>k≤b.length∧P.length=k∧(∀d∈P,d<BS)∧c≤1∧val P+BS^k*c=val (a.take k)+val (b.take k)) (fun k _ _=>b.length -k) 0 [] 0 ⟨by omega,rfl,by simp,by omega,by simp [val]⟩ (entL (.cons zle .nil) zk (.cons (ob_raw (by simp)) (.cons (ob_refl _) .nil))) fun k P c ⟨hk,hP,hlt,hc,hval⟩=> ?_
  repeat(refine zS ?_;intros)
  refine zB ?_ ?_<;>intro h
  · repeat(refine zS ?_;intros)
    rename_i s c' e1 e2 e3
    exact ag3 (k+1) (P++[s]) c' ⟨by omega,by simp [hP],YL hlt e3,e2,Qcb hval hP (by omega)⟩ (entL (.cons zle .nil) zk (.cons (ob_raw (ZJ hP (by omega))) (.cons (ob_refl _) .nil)))
  · repeat(refine zS ?_;intros)
    refine aL3 [0,1,4,5,6,7] (fun k _ _=>[(10,N k)]) (fun k P c=>[.arr 46 1 ((P++List.replicate (a.length+1 -k) 0).map U),.arr 46 1 [U c]]) (fun k P c=>b.length≤k∧k≤a.length∧P.length=k∧(∀d∈P,d<BS)∧c≤1∧val P+BS^k*c=val (a.take k)+val (b.take k)) (fun k _ _=>a.length -k) k P c ⟨by omega,by omega,hP,hlt,hc,hval⟩ (entL (.cons zle .nil) zk (.cons (ob_refl _) (.cons (ob_refl _) .nil))) fun k P c ⟨h0,hk,hP,hlt,hc,hval⟩=> ?_
    repeat(refine zS ?_;intros)
    refine zB ?_ ?_<;>intro h
    · repeat(refine zS ?_;intros)
      rename_i s c' e1 e2 e3
      exact ag3 (k+1) (P++[s]) c' ⟨by omega,by omega,by simp [hP],YL hlt e3,e2,Qcb hval hP (by rw[QaR (ds:=b) (n:=b.length) (Nat.le_refl _) k h0];omega)⟩ (entL (.cons zle .nil) zk (.cons (ob_raw (ZJ hP (by omega))) (.cons (ob_refl _) .nil)))
    · repeat(refine zS ?_;intros)
      obtain rfl:k=a.length:=by omega
      have e:=QkA (s:=c) (m:=a.length+1 -a.length) hP (by omega)
      refine AL.ent (entFzS hC (s:=67) (by exact rfl) 0 (by exact rfl) lq (a:=num (max M M'+1) (x+y)) ((AV.le.of_eq (congrArg raw e)).trans (raw_num (by simp [hP];omega) (YL hlt (by omega)) (by rw[Qsm hval hP (by omega) (by omega)];exact hv)))) ?_
      repeat(refine zS ?_;intros)
      rename_i r r1 r2 r3 r4
      exact aRet1 rfl zv hK (raw_cn r1 r2 r3 r4)⟩
instance c52:TK prog 52 (∀{M x:Nat},AC prog 52 [] [num M x] fun K=>K [] [Bo (decide (x=0))]):=⟨fun {M x}=>by
  refine aEnter func52 rfl ntmps52 rfl fun K C hC hK=> ?_
  repeat(refine zS ?_;intros)
  rename_i r _ _ h1 h2 _
  exact aRet1 rfl zv hK (leB (by have :=canon_zero h2;omega))⟩
instance Qxt:TK prog 109 (∀{M M' x y:Nat},AC prog 109 [] [num M x,num M' y] fun K=> ∀c:Int,(c<0↔x<y)→(0<c↔y<x)→ -1≤c→c≤1→K [] [I .i64 c]):=⟨fun {M M' x y}=>by
  refine aEnter func109 rfl ntmps109 rfl fun K C hC hK=> ?_
  repeat(refine zS ?_;intros)
  rename_i a _ a2 a3 a4 b _ b2 b3 b4 _ _
  refine zB ?_ ?_<;>intro h<;>repeat(refine zS ?_;intros)
  · have :=Qaf a2 b4 (by omega)
    exact aRet1 rfl zv (hK (-1) (by omega) (by omega) (by omega) (by omega)) zle
  refine zB ?_ ?_<;>intro h'<;>repeat(refine zS ?_;intros)
  · have :=Qaf b2 a4 (by omega)
    exact aRet1 rfl zv (hK 1 (by omega) (by omega) (by omega) (by omega)) zle
  refine aL1 [0,1,4] (fun(k:Nat)=>[(5,I .i64 ((k:Int) -1))]) (fun _=>[]) (fun k=>k≤a.length∧ ∀j,k≤j→a.getD j 0=b.getD j 0) (fun k=>k) a.length ⟨by omega,QuU (by omega) (by omega)⟩ (entL (.cons zle .nil) zk .nil) fun k ⟨hk,heq⟩=> ?_
  repeat(refine zS ?_;intros)
  refine zB ?_ ?_<;>intro h1<;>repeat(refine zS ?_;intros)
  · refine zB ?_ ?_<;>intro h2<;>repeat(refine zS ?_;intros)
    · have :=QgD (k:=k) (by omega) a2 heq (by omega) (by omega) (by omega)
      exact aRet1 rfl zv (hK (-1) (by omega) (by omega) (by omega) (by omega)) zle
    refine zB ?_ ?_<;>intro h3<;>repeat(refine zS ?_;intros)
    · have :=QgD (k:=k) (by omega) b2 (fun j hj=>(heq j hj).symm) (by omega) (by omega) (by omega)
      exact aRet1 rfl zv (hK 1 (by omega) (by omega) (by omega) (by omega)) zle
    · exact ag1 (k -1) ⟨by omega,QsP heq (by omega)⟩ (entL (.cons zle .nil) zk .nil)
  · have :=congrArg val (Qku (a:=a) (b:=b) (by omega) fun j=>heq j (by omega))
    exact aRet1 rfl zv (hK 0 (by omega) (by omega) (by omega) (by omega)) zle⟩
instance QxX:TK prog 145 (∀{g x y z:Nat}(_:x<4294967296)(_:y<4294967296)(_:z≤1),AC prog 145 [(some g,.arr 46 1 [U z])] [U x,U y,lpt 1 g 0] fun K=> ∀s c,s+y+z=x+4294967296*c→c≤1→s<4294967296→K [(some g,.arr 46 1 [U c])] [U s]):=⟨fun {g x y z} hx hy hz=>by
  refine aEnterF func145 rfl ntmps145 rfl fun K C hC hK=> ?_
  repeat(refine zS ?_;intros)
  rename_i s c h1 h2 h3
  exact aRet (rs:=[_]) rfl rfl (.refl _) zr (hK s c h1 h2 h3)⟩
instance Qxu:TK prog 110 (∀{M M' x y:Nat}(_:M≤1099511627776),AC prog 110 [] [num M x,num M' y] fun K=>(y≤x→K [] [cnum M (x -y),Bo true])∧(x<y→K [] [cnum M 0,Bo false])):=⟨fun {M M' x y} hM=>by
  refine aEnter func110 rfl ntmps110 rfl fun K C hC hK=> ?_
  repeat(refine zS ?_;intros)
  rename_i a a1 a2 a3 a4 b b1 b2 b3 b4 c c1 c2 c3 c4
  refine zB ?_ ?_<;>intro h<;>repeat(refine zS ?_;intros)
  · exact aRet2 rfl zv zv (hK.2 (by omega)) nil_cn (le_refl _)
  rename_i g _ g' _
  have hl:=Qd5 a2 b4 (by omega)
  refine aL3 [0,1,5,6,7,8,24,25] (fun k _ _=>[(26,N k)]) (fun k P c=>[.arr 46 1 ((P++List.replicate (a.length -k) 0).map U),.arr 46 1 [U c]]) (fun k P c=>k≤b.length∧P.length=k∧(∀d∈P,d<BS)∧c≤1∧val P+val (b.take k)=val (a.take k)+BS^k*c) (fun k _ _=>b.length -k) 0 [] 0 ⟨by omega,rfl,by simp,by omega,by simp [val]⟩ (entL (.cons zle .nil) zk (.cons (ob_raw (by simp)) (.cons (ob_refl _) .nil))) fun k P c ⟨hk,hP,hlt,hc,hval⟩=> ?_
  repeat(refine zS ?_;intros)
  refine zB ?_ ?_<;>intro h<;>repeat(refine zS ?_;intros)
  · rename_i s c' e1 e2 e3
    exact ag3 (k+1) (P++[s]) c' ⟨by omega,by simp [hP],YL hlt e3,e2,Qlf hval hP (by omega)⟩ (entL (.cons zle .nil) zk (.cons (ob_raw (ZJ hP (by omega))) (.cons (ob_refl _) .nil)))
  refine aL3 [0,1,5,6,7,8] (fun k _ _=>[(11,N k)]) (fun k P c=>[.arr 46 1 ((P++List.replicate (a.length -k) 0).map U),.arr 46 1 [U c]]) (fun k P c=>b.length≤k∧k≤a.length∧P.length=k∧(∀d∈P,d<BS)∧c≤1∧val P+val (b.take k)=val (a.take k)+BS^k*c) (fun k _ _=>a.length -k) k P c ⟨by omega,by omega,hP,hlt,hc,hval⟩ (entL (.cons zle .nil) zk (.cons (ob_refl _) (.cons (ob_refl _) .nil))) fun k P c ⟨h0,hk,hP,hlt,hc,hval⟩=> ?_
  repeat(refine zS ?_;intros)
  refine zB ?_ ?_<;>intro h<;>repeat(refine zS ?_;intros)
  · rename_i s c' e1 e2 e3
    exact ag3 (k+1) (P++[s]) c' ⟨by omega,by omega,by simp [hP],YL hlt e3,e2,Qlf hval hP (by rw[QaR (ds:=b) (n:=b.length) (Nat.le_refl _) k h0];omega)⟩ (entL (.cons zle .nil) zk (.cons (ob_raw (ZJ hP (by omega))) (.cons (ob_refl _) .nil)))
  obtain rfl:k=a.length:=by omega
  refine AL.ent (entFzS hC (s:=59) (by exact rfl) 0 (by exact rfl) lq (a:=num M (x -y)) (raw_num (by simp [hP];omega) (QcK hlt) (by rw[Qco,Qt5 hval hP hlt (by omega) (by omega) (by omega)];omega))) ?_
  repeat(refine zS ?_;intros)
  rename_i r r1 r2 r3 r4
  exact aRet2 rfl zv zv (hK.1 (by omega)) (raw_cn r1 r2 r3 r4) zle⟩
end Go.Proofs.YtjdpemcnlejpfaaGreatDoor
namespace Go.Proofs.YtjdpemcnlejpfaaGreatDoor
open Go.RowKit Go.Gx Go.Am Tryz
instance Qyu:TK prog 215 (∀{x y:Nat}(_:x<4294967296)(_:y<4294967296),AC prog 215 [] [U x,U y] fun K=> ∀h l,l+4294967296*h=x*y→l<4294967296→h<4294967296→K [] [U h,U l]):=⟨fun {x y} hx hy=>by
  refine aEnter func215 rfl ntmps215 rfl fun K C hC hK=> ?_
  have :=Qch hx hy
  repeat(refine zS ?_;intros)
  exact aRet2 rfl zv zv (hK (x*y/4294967296) (x*y % 4294967296) (by omega) (by omega) (by omega)) zle zle⟩
instance c74:TK prog 74 (∀{x:Nat}(_:x<18446744073709551616),AC prog 74 [] [I .u64 x] fun K=>K [] [cnum 2 x]):=⟨fun {x} hx=>by
  refine aEnter func74 rfl ntmps74 rfl fun K C hC hK=> ?_
  have hl: ∀d∈[x % 4294967296,x/4294967296],d<BS:=by intro d hd;simp [BS] at hd⊢;omega
  repeat(refine zS ?_;intros)
  refine AL.ent (entSub (s:=8) (a:=num 2 x) (raw_num (ds:=[x % 4294967296,x/4294967296]) (by simp) hl (by simp [val,BS];omega))) ?_
  repeat(refine zS ?_;intros)
  exact aRet1 rfl zv hK zle⟩
instance Qx5:TK prog 162 (∀{a b:List Nat}(_:a.length≤1099511627776)(_:b.length≤1099511627776)(_: ∀d∈a,d<BS) (_: ∀d∈b,d<BS),AC prog 162 [] [raw a,raw b] fun K=> ∀r:List Nat,r.length=a.length+b.length→(∀d∈r,d<BS)→val r=val a*val b→K [] [raw r]):=⟨fun {a b} ha hb la lb=>by
  refine aEnter func162 rfl ntmps162 rfl fun K C hC hK=> ?_
  repeat(refine zS ?_;intros)
  refine aL2 [0,1,5,21,22] (fun i _=>[(23,N i)]) (fun i Q=>[.arr 46 1 ((Q++List.replicate (a.length -i) 0).map U)]) (fun i Q=>i≤a.length∧Q.length=i+b.length∧(∀d∈Q,d<BS)∧val Q=val (a.take i)*val b) (fun i _=>a.length -i) 0 (List.replicate b.length 0) ⟨by omega,by simp,fun d hd=>by simp [BS] at hd⊢;omega,by simp [val,Qdw]⟩ (entL (.cons zle .nil) zk (.cons (ob_raw (by simp;omega)) .nil)) fun i Q ⟨hi,hQ,lQ,hv⟩=> ?_
  repeat(refine zS ?_;intros)
  refine zB ?_ ?_<;>intro h<;>repeat(refine zS ?_;intros)
  · refine zB ?_ ?_<;>intro h<;>repeat(refine zS ?_;intros)
    · exact ag2 (i+1) (Q++[0]) ⟨by omega,by simp [hQ];omega,YL lQ (by omega),Qqy (by omega) hv⟩ (entL (.cons zle .nil) zk (.cons (ob_raw (by rw[List.append_assoc,QqY (m:=a.length -i) (by omega)])) .nil))
    refine aL3 [0,1,5,7,8,21,22,23,33,34] (fun j _ c=>[(35,N j),(9,U c)]) (fun j R _=>[.arr 46 1 ((R++Q.drop (i+j)++List.replicate (a.length -i) 0).map U)]) (fun j R c=>j≤b.length∧R.length=i+j∧(∀d∈R,d<BS)∧c<4294967296∧val R+BS^ (i+j)*c=val (Q.take (i+j))+BS^i*(a.getD i 0*val (b.take j))) (fun j _ _=>b.length -j) 0 (Q.take i) 0 ⟨by omega,by simp [hQ],fun d hd=>lQ d (List.mem_of_mem_take hd),by omega,by simp [val]⟩ (entL (.cons zle (.cons zle .nil)) zk (.cons (ob_raw (by rw[Nat.add_zero,List.take_append_drop])) .nil)) fun j R cy ⟨hj,hR,lR,hc,hw⟩=> ?_
    repeat(refine zS ?_;intros)
    refine zB ?_ ?_<;>intro h
    · have hq:=Qth (Z:=List.replicate (a.length -i) 0) hR (show i+j<Q.length by omega)
      have hq1:=Qch (dlt (i:=i) la) (dlt (i:=j) lb)
      have hq2:=dlt (i:=i+j) lQ
      repeat(refine zS ?_;intros)
      rename_i m l e1 e2 e3 s c f1 f2 f3 s' c' g1 g2 g3
      have hs:s'+4294967296*(m+c+c')=Q.getD (i+j) 0+a.getD i 0*b.getD j 0+cy:=by omega
      exact ag3 (j+1) (R++[s']) (m+c+c') ⟨by omega,by simp [hR];omega,YL lR g3,Qn4 hq2 (dlt la) (dlt lb) hc hs,Qqz hw hR hs⟩ (entL (.cons zle (.cons zle .nil)) zk (.cons (ob_raw (Qti hR (by omega))) .nil))
    · obtain rfl:j=b.length:=by omega
      repeat(refine zS ?_;intros)
      exact ag2 (i+1) (R++[cy]) ⟨by omega,by simp [hR];omega,YL lR hc,Qtm hw hR (by omega) (by omega) hv⟩ (entL (.cons zle .nil) zk (.cons (ob_raw (QtJ (Q:=Q) hR (by omega) (by omega) (by omega))) .nil))
  · obtain rfl:i=a.length:=by omega
    exact aRetO rfl hC zv 0 rfl lq (hK _ (by simp [hQ]) (QcK lQ) (by rw[Qco,hv,List.take_length])) (le_refl _)⟩
instance Qx6:TK prog 163 (∀{g o k c M x:Nat}{A:List Nat}(_:o+k=A.length)(_:k≤1099511627776)(_:M≤k)(_: ∀d∈A,d<BS),AC prog 163 [(some g,.arr 46 1 (A.map U))] [lsl 1 g o k c,num M x] fun K=> ∀R cr,R.length=k→(∀d∈A.take o++R,d<BS)→val R+BS^k*cr=val (A.drop o)+x→K [(some g,.arr 46 1 ((A.take o++R).map U))] []):=⟨fun {g o k c M x A} hl h40 hM hA=>by
  obtain⟨V,Z,rfl,rfl⟩: ∃V Z,A=V++Z∧o=V.length:=⟨A.take o,A.drop o,(List.take_append_drop ..).symm,by simp;omega⟩
  obtain rfl:k=Z.length:=by simp at hl;omega
  simp only[List.take_left,List.drop_left]
  refine aEnterF func163 rfl ntmps163 rfl fun K C hC hK=>opN 1 rfl fun x x1 x2 x3=> ?_
  repeat(refine zS ?_;intros)
  refine aL3 [0,1,8,9] (fun k _ c=>[(10,N k),(4,U c)]) (fun k P _=>[.arr 46 1 ((V++(P++Z.drop k)).map U)]) (fun k P c=>k≤x.length∧P.length=k∧(∀d∈P,d<BS)∧c≤1∧val P+BS^k*c=val (Z.take k)+val (x.take k)) (fun k _ _=>x.length -k) 0 [] 0 ⟨by omega,rfl,by simp,by omega,by simp [val]⟩ (entL (.cons zle (.cons zle .nil)) zk (.cons (ob_raw (by simp)) .nil)) fun k P c ⟨hk,hP,hlt,hc,hv⟩=> ?_
  repeat(refine zS ?_;intros)
  refine zB ?_ ?_<;>intro h
  · have hq:=Qhy rfl hP (show k<Z.length by omega) (t:=V.length+k) rfl
    have hq2:=dlt (i:=k) (Qey hA)
    have hq3:=dlt (i:=k) x2
    repeat(refine zS ?_;intros)
    rename_i s c' e1 e2 e3
    exact ag3 (k+1) (P++[s]) c' ⟨by omega,by simp [hP],YL hlt e3,e2,Qcb hv hP (by omega)⟩ (entL (.cons zle (.cons zle .nil)) zk (.cons (ob_raw (QdV rfl hP (by omega) rfl)) .nil))
  · repeat(refine zS ?_;intros)
    refine aL3 [0] (fun k _ c=>[(7,N k),(4,U c)]) (fun k P _=>[.arr 46 1 ((V++(P++Z.drop k)).map U)]) (fun k P c=>x.length≤k∧k≤Z.length∧P.length=k∧(∀d∈P,d<BS)∧c≤1∧val P+BS^k*c=val (Z.take k)+val (x.take k)) (fun k _ _=>Z.length -k) k P c ⟨by omega,by omega,hP,hlt,hc,hv⟩ (entL (.cons zle (.cons zle .nil)) zk (.cons (ob_raw rfl) .nil)) fun k P c ⟨h0,hk,hP,hlt,hc,hv⟩=> ?_
    repeat(refine zS ?_;intros)
    refine zB ?_ ?_<;>intro h
    · repeat(refine zS ?_;intros)
      refine zB ?_ ?_<;>intro h1
      · have hq:=Qhy rfl hP (show k<Z.length by omega) (t:=V.length+k) rfl
        have hq2:=dlt (i:=k) (Qey hA)
        repeat(refine zS ?_;intros)
        rename_i s c' e1 e2 e3
        exact ag3 (k+1) (P++[s]) c' ⟨by omega,by omega,by simp [hP],YL hlt e3,e2,Qcb hv hP (by rw[QaR (ds:=x) (n:=x.length) (Nat.le_refl _) k h0];omega)⟩ (entL (.cons zle (.cons zle .nil)) zk (.cons (ob_raw (QdV rfl hP (by omega) rfl)) .nil))
      · repeat(refine zS ?_;intros)
        exact aEnd (rs:=[]) rfl rfl (.refl _) zr (hK (P++Z.drop k) c (by simp [hP];omega) (QrS hA hlt) (by have :=Qlz hv hP rfl (by omega) h0;omega))
    · obtain rfl:c=0:=by omega
      repeat(refine zS ?_;intros)
      exact aEnd (rs:=[]) rfl rfl (.refl _) zr (hK (P++Z.drop k) 0 (by simp [hP];omega) (QrS hA hlt) (by have :=QlA hv hP rfl (by omega) h0;omega))⟩
set_option maxHeartbeats 1000000 in
instance QxA:TK prog 117 (∀{a b:List Nat}(_:a.length+b.length≤1099511627776)(_: ∀d∈a,d<BS) (_: ∀d∈b,d<BS),AC prog 117 [] [raw a,raw b] fun K=> ∀r:List Nat,r.length=a.length+b.length→(∀d∈r,d<BS)→val r=val a*val b→K [] [raw r]):=⟨fun {a b}=>by
  induction hN:a.length+b.length using Nat.strongRecOn generalizing a b with
  |_ N ih=>
  intro hl ha hb
  have ih:TK prog 117 (∀{a b:List Nat}(_:a.length+b.length<N)(_: ∀d∈a,d<BS) (_: ∀d∈b,d<BS),AC prog 117 [] [raw a,raw b] fun K=> ∀r:List Nat,r.length=a.length+b.length→(∀d∈r,d<BS)→val r=val a*val b→K [] [raw r]):=⟨fun h=>ih _ h rfl (by omega)⟩
  subst hN
  refine aEnter func117 rfl ntmps117 rfl fun K C hC hK=> ?_
  repeat(refine zS ?_;intros)
  refine aJ2 [4] (fun A B=>[(0,raw A),(1,raw B)]) (fun _ _=>[]) (fun A B=>B.length≤A.length∧A.length+B.length=a.length+b.length∧(∀d∈A,d<BS)∧(∀d∈B,d<BS)∧val A*val B=val a*val b) ?_ ?_
  · refine zB ?_ ?_<;>intro h<;>repeat(refine zS ?_;intros)
    · exact jd2 b a ⟨by omega,by omega,hb,ha,Nat.mul_comm ..⟩ (entL (.cons zle (.cons zle .nil)) zk .nil)
    · exact jd2 a b ⟨by omega,by omega,ha,hb,rfl⟩ (entL (.cons zle (.cons zle .nil)) zk .nil)
  rintro A B ⟨hl,hab,hA,hB,hv⟩
  repeat(refine zS ?_;intros)
  refine zB ?_ ?_<;>intro h
  · repeat(refine zS ?_;intros)
    rename_i r r1 r2 r3
    exact aRet1 rfl zv (hK r (by omega) r2 (by rw[r3,Nat.mul_comm,hv])) (le_refl _)
  repeat(refine zS ?_;intros)
  refine zB ?_ ?_<;>intro h0<;>repeat(refine zS ?_;intros)
  · exact aRetO rfl hC zv 0 rfl lq (hK _ (by simp [hab]) (fun d hd=>by simp [BS] at hd⊢;omega) (by rw[Qdw,←hv,h0,Nat.zero_mul])) (le_refl _)
  refine zB ?_ ?_<;>intro h1<;>repeat(refine zS ?_;intros)
  · exact aRetO rfl hC zv 0 rfl lq (hK _ (by simp [hab]) (fun d hd=>by simp [BS] at hd⊢;omega) (by rw[Qdw,←hv,h1,Nat.mul_zero])) (le_refl _)
  generalize hh:(A.length+1)/2=h
  have lA1:=QnR (k:=h) hA
  have lA2:=fun d hd=>hA d (List.mem_of_mem_drop (i:=h) hd)
  have lB1:=QnR (k:=h) hB
  have lB2:=fun d hd=>hB d (List.mem_of_mem_drop (i:=h) hd)
  have e1:=List.length_take (i:=h) (l:=A)
  have e2:=List.length_drop (i:=h) (l:=A)
  have e3:=List.length_take (i:=h) (l:=B)
  have e4:=List.length_drop (i:=h) (l:=B)
  refine zB ?_ ?_<;>intro h2<;>repeat(refine zS ?_;intros)
  · rename_i lo l1 l2 l3 hi m1 m2 m3 p p1 p2 p3 p4
    have hs:h+(A.length+B.length -h)=(lo++List.replicate (A.length+B.length -lo.length) 0).length:=by simp;omega
    have hx:=QcK (m:=A.length+B.length -lo.length) l2
    refine AD.ent (entH (.cons (ob_raw (QlI rfl (by omega))) .nil)) ?_
    repeat(refine zS ?_;intros)
    rename_i R cr r1 r2 r3
    exact aRetO rfl hC zv 0 rfl lq (hK _ (by simp;omega) r2 (by rw[←hv];exact QlU (by omega) hA hB rfl l3 (p3.trans m3) (by omega) (by omega) r1 r3)) (le_refl _)
  rename_i lo l1 l2 l3 hi m1 m2 m3
  refine adC 82 rfl fun p p1 p2 p3 p4=>adC 89 rfl fun q q1 q2 q3 q4=> ?_
  repeat(refine zS ?_;intros)
  rename_i t t1 t2 t3
  have e5:=Qtb (a0:=val (A.take h)) (a1:=val (A.drop h)) (b0:=val (B.take h)) (b1:=val (B.drop h))
  rw[p3,q3] at t3
  refine⟨fun _=> ?_,fun hn=>absurd hn (by rw[t3,l3,m3];omega)⟩
  repeat(refine zS ?_;intros)
  have hmid:=Qqp t3 l3 m3 rfl
  refine alC 111 rfl fun u u1 u2 u3 u4=> ?_
  have :=Qbm u4 (by rw[u3];exact Qjz (by omega) (by omega) hA hB rfl hmid)
  have e6:A.length+B.length -lo.length=hi.length:=by omega
  have hs:h+(A.length+B.length -h)=(lo++hi).length:=by simp;omega
  have hx:=Qdb l2 m2
  have e7:(List.replicate (A.length+B.length) 0).take 0++(lo++(List.replicate (A.length+B.length) 0).drop (0+lo.length))=lo++List.replicate hi.length 0:=by rw[←e6];simp
  refine AL.ent (entH (.cons (ob_raw (es:=lo++hi) (by rw[e7,←List.append_assoc];exact Qjm (lo:=lo) (hi:=hi) rfl rfl (by omega))) .nil)) ?_
  repeat(refine zS ?_;intros)
  rename_i R cr r1 r2 r3
  exact aRetO rfl hC zv 0 rfl lq (hK _ (by simp;omega) r2 (by rw[←hv];exact QnG (by omega) (by omega) hA hB rfl l3 m3 (u3.trans hmid) (by omega) (by omega) r1 r3)) (le_refl _)⟩
instance c68:TK prog 68 (∀{M M' x y:Nat}(_:M+M'≤1099511627776),AC prog 68 [] [num M x,num M' y] fun K=>K [] [cnum (M+M') (x*y)]):=⟨fun {M M' x y} hM=>by
  refine aEnter func68 rfl ntmps68 rfl fun K C hC hK=> ?_
  repeat(refine zS ?_;intros)
  rename_i a a1 a2 a3 a4 b b1 b2 b3 b4 p p1 p2 p3 r r1 r2 r3 r4
  exact aRet1 rfl zv hK (raw_cn (by omega) r2 (by rw[r3,p3,a3,b3]) r4)⟩
end Go.Proofs.YtjdpemcnlejpfaaGreatDoor
