/-
  H6, F1, F2, F3, F4
-/
import Derived.Test.YtjdpemcnlejpfaaGreatDoorD6
import Derived.Test.YtjdpemcnlejpfaaGreatDoorListPreds
import Derived.Test.YtjdpemcnlejpfaaGreatDoorKnown2
set_option linter.all false
namespace Go.Proofs.YtjdpemcnlejpfaaGreatDoor
open Go.RowKit Go.Gx Go.Am Tryz
abbrev Qi7(l:List (List Nat)):AV:=sl 1 (l.map raw)
theorem Qn8{w:World}{S:Nat→Prop}:nilS.rep w S (.slice none 0 0):=by unfold nilS lit;rfl
instance:ZV (.slice none 0 0) 1 raw ([]:List Nat):=⟨fun w S=>nil_raw w S _ Qn8,by kernel_rfl⟩
theorem Yr{l:List (List Nat)}{i:Nat}(h:i<l.length):l.getD i []∈l:=by
  simp only[List.getD,List.getElem?_eq_getElem h,Option.getD_some];exact List.getElem_mem h
theorem QaQ{l:List (List Nat)}{i:Nat}(h:i<l.length):l[i]? =some (l.getD i []):=by
  simp [List.getD,h]
theorem QjG{p:Nat}{g:List Nat}{i:Nat}{l:List (List Nat)}(hp:PrS p)(hg:2≤(XO p g).length)(hg2:g.length≤64): ∀k,(Qfo p g i l k).length≤64
  |0=>by unfold Qfo;simp
  |k+1=>by
    unfold Qfo
    split
    · exact QjG hp hg hg2 k
    · have n1:=YN p g
      have h1:=(QvP hp (YX (p:=p) (by have :=hp.two;omega) (Qau p (Qfo p g i l k) (l.getD k []))) (YX (p:=p) (by have :=hp.two;omega) g) (by omega)).2.2.1
      omega
set_option maxHeartbeats 2000000 in
instance Qyl:TK prog 187 (∀{p:Nat}{l:List (List Nat)}(_:PrS p)(_:l.length≤32)(_: ∀f∈l,f.length≤64) (_: ∀f∈l,2≤(XO p f).length) (_:CoA p l),AC prog 187 [] [Qi7 l,W32 p] fun K=>K [] [Qi7 (Qaq p l),I .i64 0]):=⟨fun {p l} hp hl hf hg hc=>by
  refine aEnter func187 rfl ntmps187 rfl fun K C hC hK=> ?_
  have h1:=hp.two
  have h2:=hp.lt
  have hip:=QbU hp
  repeat(refine zS ?_;intros)
  refine aL1 [0,1,23,24] (fun k=>[(25,N k)]) (fun _=>[]) (fun k=>k≤l.length) (fun k=>l.length -k) 0 (by omega) (entL (.cons zle .nil) zk (HLe.none _)) fun k hk=> ?_
  repeat(refine zS ?_;intros)
  refine zB ?_ ?_<;>intro h
  · have a1:=hg _ (Yr (l:=l) (i:=k) (by omega))
    repeat(refine zS ?_;intros)
    exact ag1 (k+1) (by omega) (entL (.cons zle .nil) zk (HLe.none _))
  repeat(refine zS ?_;intros)
  refine aL1 [0,1,34,35] (fun i=>[(36,N i)]) (fun _=>[]) (fun i=>i≤l.length) (fun i=>l.length -i) 0 (by omega) (entL (.cons zle .nil) zk (HLe.none _)) fun i hi=> ?_
  repeat(refine zS ?_;intros)
  refine zB ?_ ?_<;>intro h3
  · repeat(refine zS ?_;intros)
    refine aL1 [0,1,9,34,35,36,43,44] (fun j=>[(45,N j)]) (fun _=>[]) (fun j=>j≤i) (fun j=>i -j) 0 (by omega) (entL (.cons zle .nil) zk (HLe.none _)) fun j hj=> ?_
    have htk:(l.take i).length=i:=by rw[List.length_take];omega
    repeat(refine zS ?_;intros)
    refine zB ?_ ?_<;>intro h4
    · have e1:(l.take i).getD j []=l.getD j []:=by simp [List.getD,List.getElem?_take,show j<i by omega]
      have hgc:=hc i j _ _ (by omega) (QaQ (l:=l) (i:=i) (by omega)) (QaQ (l:=l) (i:=j) (by omega))
      unfold GC at hgc
      have a1:=hf _ (Yr (l:=l) (i:=i) (by omega))
      have a2:=hf _ (Yr (l:=l) (i:=j) (by omega))
      obtain⟨f,ef⟩: ∃f,l.getD i []=f:=⟨_,rfl⟩
      obtain⟨g,eg⟩: ∃g,l.getD j []=g:=⟨_,rfl⟩
      rw[ef,eg] at hgc
      rw[ef] at a1
      rw[eg] at a2
      have n1:=YN p (XN p (XO p f) (XO p g))
      repeat(refine zS ?_;intros)
      rw[e1,ef,eg]
      repeat(refine zS ?_;intros)
      exact ag1 (j+1) (by omega) (entL (.cons zle .nil) zk (HLe.none _))
    · repeat(refine zS ?_;intros)
      exact ag1 (i+1) (by omega) (entL (.cons zle .nil) zk (HLe.none _))
  repeat(refine zS ?_;intros)
  refine aL1 [0,1,14,65,66] (fun i=>[(67,N i)]) (fun i=>[.arr 66 1 (((List.range i).map (Qji p l)++List.replicate (l.length -i) []).map raw)]) (fun i=>i≤l.length) (fun i=>l.length -i) 0 (by omega) (entL (.cons zle .nil) zk (.cons (ob_eq (by simp)) (HLe.none _))) fun i hi=> ?_
  repeat(refine zS ?_;intros)
  refine zB ?_ ?_<;>intro h4
  · have a1:=hf _ (Yr (l:=l) (i:=i) (by omega))
    have a2:=hg _ (Yr (l:=l) (i:=i) (by omega))
    obtain⟨g,eg⟩: ∃g,l.getD i []=g:=⟨_,rfl⟩
    rw[eg] at a1 a2
    repeat(refine zS ?_;intros)
    rw[eg]
    refine aL1 [0,1,14,15,16,65,66,67,73,74] (fun j=>[(17,raw (Qfo p g i l j)),(75,N j)]) (fun _=>[.arr 66 1 (((List.range i).map (Qji p l)++List.replicate (l.length -i) []).map raw)]) (fun j=>j≤l.length) (fun j=>l.length -j) 0 (by omega) (entL (.cons (by exact le_refl (raw [1])) (.cons zle .nil)) zk (.cons (ob_refl _) (HLe.none _))) fun j hj=> ?_
    have o1:=QjG (i:=i) (l:=l) hp a2 a1 j
    have o2:=QjG (i:=i) (l:=l) hp a2 a1 (j+1)
    obtain⟨u,eu⟩: ∃u,Qfo p g i l j=u:=⟨_,rfl⟩
    rw[eu] at o1
    rw[eu]
    repeat(refine zS ?_;intros)
    refine zB ?_ ?_<;>intro h5
    · have a3:=hf _ (Yr (l:=l) (i:=j) (by omega))
      obtain⟨f,ef⟩: ∃f,l.getD j []=f:=⟨_,rfl⟩
      rw[ef] at a3
      have m1:=(Qa6 p u f).1
      repeat(refine zS ?_;intros)
      rw[ef]
      refine zB ?_ ?_<;>intro h6
      · have hst:(XH p (XO p (Qau p u f)) (XO p g)).2=Qfo p g i l (j+1):=by rw[Qfo,if_neg (by omega),eu,ef]
        repeat(refine zS ?_;intros)
        exact ag1 (j+1) (by omega) (entL (.cons (show AV.le (raw (XH p (XO p (Qau p u f)) (XO p g)).2) (raw (Qfo p g i l (j+1))) from .of_eq (by rw[hst])) (.cons zle .nil)) zk (.cons (ob_refl _) (HLe.none _)))
      · have hst:u=Qfo p g i l (j+1):=by rw[Qfo,if_pos (by omega),eu]
        repeat(refine zS ?_;intros)
        exact ag1 (j+1) (by omega) (entL (.cons (show AV.le (raw u) (raw (Qfo p g i l (j+1))) from .of_eq (by rw[←hst])) (.cons zle .nil)) zk (.cons (ob_refl _) (HLe.none _)))
    · obtain rfl:j=l.length:=by omega
      have hcg:(Qb9 p (XO p u) (XO p g)).2.1=Qji p l i:=by unfold Qji;rw[eg,eu]
      have hset:((List.range i).map (Qji p l)++List.replicate (l.length -i) []).set i ((Qb9 p (XO p u) (XO p g)).2.1)=(List.range (i+1)).map (Qji p l)++List.replicate (l.length -(i+1)) []:=by
        rw[hcg,show l.length -i=(l.length -(i+1))+1 by omega,List.replicate_succ,List.set_append_right _ _ (by simp),List.range_succ,List.map_append,List.append_assoc]
        simp
      have hlen:((List.range i).map (Qji p l)++List.replicate (l.length -i) ([]:List Nat)).length=l.length:=by simp;omega
      repeat(refine zS ?_;intros)
      refine alO (aoStM (f:=raw) (l:=(List.range i).map (Qji p l)++List.replicate (l.length -i) []) (Qb9 p (XO p u) (XO p g)).2.1 zv zv 0 (by exact rfl) (by exact le_refl _) (by omega) (by kernel_rfl) rfl) zg ?_
      repeat(refine zS ?_;intros)
      exact ag1 (i+1) (by omega) (entL (.cons zle .nil) zk (.cons (ob_eq (by rw[hset])) (HLe.none _)))
  · obtain rfl:i=l.length:=by omega
    repeat(refine zS ?_;intros)
    refine AX.ent (entFzS hC (s:=4) (by exact rfl) 0 (by exact rfl) (by simp) (a:=Qi7 (Qaq p l)) (.of_eq (by rw[Nat.sub_self,List.replicate_zero,List.append_nil];rfl))) ?_
    exact aRet2 rfl zv zv hK (le_refl _) (le_refl _)⟩
end Go.Proofs.YtjdpemcnlejpfaaGreatDoor
namespace Go.Proofs.YtjdpemcnlejpfaaGreatDoor
open Go.RowKit Go.Gx Go.Am Tryz
instance c70:TK prog 70 (∀{M M':Nat}{f g:List Int}(_:f.length≤1048576)(_:g.length≤1048576),AC prog 70 [] [pv M f,pv M' g] fun K=>K [] [I .i64 (Qbv (Xa f) (Xa g))]):=⟨fun {M M' f g} hf hg=>by
  refine aEnter func70 rfl ntmps70 rfl fun K C hC hK=> ?_
  repeat(refine zS ?_;intros)
  exact aRet1 rfl zv hK (le_refl _)⟩
instance c62:TK prog 62 (∀{D:Nat}{x y:List Int×Nat}(_:x.1.length≤1048576)(_:y.1.length≤1048576),AC prog 62 [] [fv D x,fv D y] fun K=>K [] [I .i64 (Qbv (Xa x.1) (Xa y.1))]):=⟨fun {D x y} hf hg=>by
  refine aEnter func62 rfl ntmps62 rfl fun K C hC hK=> ?_
  repeat(refine zS ?_;intros)
  exact aRet1 rfl zv hK (le_refl _)⟩
instance c69:TK prog 69 (∀{M:Nat}{k:Option Nat}{c:Nat}{l:List (List Int)}(_:l.length≤1000)(_: ∀f∈l,f.length≤1048576),AC prog 69 [(k,.gro 30 1 (l.map (pc M)) c)] [gh k l.length c,fnv 70 []] fun K=> ∀l':List (List Int),l'.Perm l→(l'.Pairwise fun x y=> ¬Qbv (Xa y) (Xa x)<0)→K [(k,.gro 30 1 (l'.map (pc M)) c)] []):=⟨fun {M k c l} hl hf=>
  AC.imp (acSort1 Tryz.sortU (F:=pc M) (fun _=>sl_sh) (QhB fun f=>Xa f) (g:=70) (cs:=[]) (TC.ca) (fun x hx y hy=>AC.les (c70.k (M:=M) (M':=M) (hf x hx) (hf y hy)) (.cons le_pcv0 (.cons le_pcv0 .nil))) rfl (by omega)) fun K h l' hp hs=>h l' hp hs⟩
instance c29:TK prog 29 (∀{M:Nat}{F:List Int}(_:M≤1990)(_:F.length≤17),AC prog 29 [] [pv M F] fun K=> ∀b:Bool,(b=true↔(Xa F).length=1∨2≤(Xa F).length∧Qem (P F) (der (P F)))→K [] [Bo b]):=⟨fun {M F} hM hF=>by
  refine aEnter func29 rfl ntmps29 rfl fun K C hC hK=> ?_
  have hT:=Xe F
  have hd:(Xn (Xa F)).length≤17:=by rw[Qe1];omega
  have e:P (Xn (Xa F))=der (P F):=by rw[←QgV,Yf]
  repeat(refine zS ?_;intros)
  refine zB ?_ ?_<;>intro h
  · repeat(refine zS ?_;intros)
    exact aRet1 rfl zv (hK true ⟨fun _=> .inl (by omega),fun _=>rfl⟩) (le_refl _)
  · repeat(refine zS ?_;intros)
    refine zB ?_ ?_<;>intro h2
    · repeat(refine zS ?_;intros)
      rename_i b hb
      rw[e] at hb
      repeat(refine zS ?_;intros)
      exact aRet1 rfl zv (hK b ⟨fun h9=> .inr ⟨by omega,hb.1 h9⟩,fun h9=>hb.2 (h9.resolve_left (by omega)).2⟩) (le_refl _)
    · repeat(refine zS ?_;intros)
      exact aRet1 rfl zv (hK false ⟨fun h9=>(by cases h9),fun h9=>(by rcases h9 with h9|h9;omega;exact absurd h9.1 (by omega))⟩) (le_refl _)⟩
theorem Ql4{l:List (List Int×Nat)}{g:List Int}{k:Nat}(h:k<l.length):Zo (l.drop k) g=if Xa (l.getD k ([],0)).1=Xa g then(l.getD k ([],0)).2 else Zo (l.drop (k+1)) g:=by
  rw[List.drop_eq_getElem_cons h,Zo]
  simp [List.getD,h]
instance:Zr (List Int×Nat) ([],0):=⟨⟩
instance c21:TK prog 21 (∀{D M:Nat}{l:List (List Int×Nat)}{g:List Int}(_:l.length≤1000)(_:g.length≤1048576)(_: ∀x∈l,x.1.length≤1048576),AC prog 21 [] [sl 2 (l.map (fv D)),pv M g] fun K=>K [] [N (Zo l g)]):=⟨fun {D M l g} hl hg hx=>by
  refine aEnter func21 rfl ntmps21 rfl fun K C hC hK=> ?_
  repeat(refine zS ?_;intros)
  refine aL1 [1,7,8] (fun k=>[(9,N k)]) (fun _=>[]) (fun k=>k≤l.length∧Zo (l.drop k) g=Zo l g) (fun k=>l.length -k) 0 ⟨by omega,rfl⟩ (entL (.cons zle .nil) zk (HLe.none _)) fun k ⟨hk,hI⟩=> ?_
  repeat(refine zS ?_;intros)
  refine zB ?_ ?_<;>intro h
  · rw[Ql4 (by omega)] at hI
    have hm:l.getD k ([],0)∈l:=by
      simp only[List.getD,List.getElem?_eq_getElem (show k<l.length by omega),Option.getD_some];exact List.getElem_mem _
    have a1:=hx _ hm
    obtain⟨y,ey⟩: ∃y,l.getD k ([],0)=y:=⟨_,rfl⟩
    rw[ey] at hI a1
    repeat(refine zS ?_;intros)
    rw[ey]
    repeat(refine zS ?_;intros)
    refine zB ?_ ?_<;>intro h2
    · rw[if_pos h2] at hI
      rw[←hI] at hK
      repeat(refine zS ?_;intros)
      exact aRet1 rfl zv hK leI
    · rw[if_neg h2] at hI
      repeat(refine zS ?_;intros)
      exact ag1 (k+1) ⟨by omega,hI⟩ (entL (.cons zle .nil) zk (HLe.none _))
  · rw[List.drop_of_length_le (by omega)] at hI
    change 0=_ at hI
    rw[←hI] at hK
    repeat(refine zS ?_;intros)
    exact aRet1 rfl zv hK (leI)⟩
end Go.Proofs.YtjdpemcnlejpfaaGreatDoor
namespace Go.Proofs.YtjdpemcnlejpfaaGreatDoor
open Go.RowKit Go.Gx Go.Am Tryz
def QiQ:List Nat:=[2,3,5,7,11,13]
instance c25:TK prog 25 (∀{n:Nat}(_:n<256),AC prog 25 [] [I .u8 (n:Int)] fun K=>K [] [W32 (QiQ.getD (n % 6) 0)]):=⟨fun {n} hn=>by
  refine aEnter func25 rfl ntmps25 rfl fun K C hC hK=> ?_
  repeat(refine zS ?_;intros)
  refine AL.ent (entSub (s:=9) (a:=I .i64 ((6:Nat):Int)) (leI rfl)) ?_
  refine AL.ent (entSub (s:=5) (a:=raw QiQ) (le_refl _)) ?_
  have hs:QiQ.length=6:=rfl
  repeat(refine zS ?_;intros)
  exact aRet1 rfl zv hK leI⟩
instance c44:TK prog 44 (∀{M:Nat}{F:List Int}(_:M≤1048576)(_:F.length≤1048576),AC prog 44 [] [pv M F] fun K=> ∀b:Bool,(b=true↔F.length=(Xa F).length∧0<ldP F∧Xy F=1)→K [] [Bo b]):=⟨fun {M F} hM hF=>by
  refine aEnter func44 rfl ntmps44 rfl fun K C hC hK=> ?_
  have hT:=Xe F
  repeat(refine zS ?_;intros)
  refine zB ?_ ?_<;>intro h
  · repeat(refine zS ?_;intros)
    rename_i s s1 s2 s3 s4 s5
    refine zB ?_ ?_<;>intro h2
    · repeat(refine zS ?_;intros)
      exact aRet1 rfl zv (hK _ (by rw[decide_eq_true_iff];exact⟨fun h9=>⟨by omega,by omega,by omega⟩,fun h9=>by omega⟩)) (le_refl _)
    · repeat(refine zS ?_;intros)
      exact aRet1 rfl zv (hK false ⟨fun h9=>(by cases h9),fun h9=>absurd h9.2.1 (by omega)⟩) (le_refl _)
  · repeat(refine zS ?_;intros)
    exact aRet1 rfl zv (hK false ⟨fun h9=>(by cases h9),fun h9=>absurd h9.1 (by omega)⟩) (le_refl _)⟩
def Qjs(D:List RawI):Prop:=D.length≤9∧ ∀x∈D,x.2.length≤3
instance(D:List RawI):Decidable (Qjs D):=by unfold Qjs;infer_instance
instance c26:TK prog 26 (∀{D:List RawI},AC prog 26 [] [rwp D] fun K=>K [] [Bo (decide (Qjs D))]):=⟨fun {D}=>by
  refine aEnter func26 rfl ntmps26 rfl fun K C hC hK=> ?_
  repeat(refine zS ?_;intros)
  refine zB ?_ ?_<;>intro h
  · rw[decide_eq_false fun h9:Qjs D=>absurd h9.1 (by omega)] at hK
    repeat(refine zS ?_;intros)
    exact aRet1 rfl zv hK (le_refl _)
  repeat(refine zS ?_;intros)
  refine aL1 [8,9] (fun k=>[(10,N k)]) (fun _=>[]) (fun k=>k≤D.length∧ ∀x∈D.take k,x.2.length≤3) (fun k=>D.length -k) 0 ⟨by omega,fun x hx=>by simp at hx⟩ (entL (.cons zle .nil) zk (HLe.none _)) fun k ⟨hk,hI⟩=> ?_
  repeat(refine zS ?_;intros)
  refine zB ?_ ?_<;>intro h2
  · obtain⟨y,ey⟩: ∃y,D.getD k (false,[])=y:=⟨_,rfl⟩
    have hm:y∈D:=by
      rw[←ey];simp only[List.getD,List.getElem?_eq_getElem (show k<D.length by omega),Option.getD_some];exact List.getElem_mem _
    repeat(refine zS ?_;intros)
    rw[ey]
    repeat(refine zS ?_;intros)
    refine zB ?_ ?_<;>intro h3
    · rw[decide_eq_false fun h9:Qjs D=>absurd (h9.2 y hm) (by omega)] at hK
      repeat(refine zS ?_;intros)
      exact aRet1 rfl zv hK (le_refl _)
    · repeat(refine zS ?_;intros)
      exact ag1 (k+1) ⟨by omega,fun x hx=>by
        rw[List.take_add_one,List.getElem?_eq_getElem (show k<D.length by omega)] at hx
        rcases List.mem_append.1 hx with hx|hx
        · exact hI x hx
        · have e:x=y:=by rw[←ey];simpa [List.getD,show k<D.length by omega] using hx
          rw[e];omega⟩ (entL (.cons zle .nil) zk (HLe.none _))
  · rw[decide_eq_true (show Qjs D from⟨by omega,by rw[List.take_of_length_le (by omega)] at hI;exact hI⟩)] at hK
    repeat(refine zS ?_;intros)
    exact aRet1 rfl zv hK (le_refl _)⟩
end Go.Proofs.YtjdpemcnlejpfaaGreatDoor
namespace Go.Proofs.YtjdpemcnlejpfaaGreatDoor
open Go.RowKit Go.Gx Go.Am Tryz
def Qil:List (List Int):=[[0,1],[1,1],[-1,1],[-3,2],[1,0,1],[1,1,1],[-2,0,1],[-2,0,0,1],[1,0,0,0,1],[1,0,-10,0,1],[1,1,1,1,1],[-1,-1,1],[7,0,3],[5,2],[1,-1,0,1],[-1000003,1]]
set_option maxHeartbeats 2000000 in
instance c58:TK prog 58 (∀{n:Nat}(_:n<9223372036854775808),AC prog 58 [] [N n] fun K=>K [] [sl 1 ((Qil.getD (n % 16) []).map (I .i64))]):=⟨fun {n} hn=>by
  refine aEnter func58 rfl ntmps58 rfl fun K C hC hK=> ?_
  obtain⟨r,hr⟩: ∃r,n % 16=r:=⟨_,rfl⟩
  have hr16:r<16:=by rw[←hr];exact Nat.mod_lt _ (by decide)
  rw[hr] at hK
  repeat(refine zS ?_;intros)
  rw[hr]
  refine zB ?_ ?_<;>intro h0
  · obtain rfl:r=0:=by omega
    repeat(refine zS ?_;intros)
    exact aRet1 rfl zv hK (by exact .of_eq rfl)
  repeat(refine zS ?_;intros)
  refine zB ?_ ?_<;>intro h1
  · obtain rfl:r=1:=by omega
    repeat(refine zS ?_;intros)
    exact aRet1 rfl zv hK (by exact .of_eq rfl)
  repeat(refine zS ?_;intros)
  refine zB ?_ ?_<;>intro h2
  · obtain rfl:r=2:=by omega
    repeat(refine zS ?_;intros)
    exact aRet1 rfl zv hK (by exact .of_eq rfl)
  repeat(refine zS ?_;intros)
  refine zB ?_ ?_<;>intro h3
  · obtain rfl:r=3:=by omega
    repeat(refine zS ?_;intros)
    exact aRet1 rfl zv hK (by exact .of_eq rfl)
  repeat(refine zS ?_;intros)
  refine zB ?_ ?_<;>intro h4
  · obtain rfl:r=4:=by omega
    repeat(refine zS ?_;intros)
    exact aRet1 rfl zv hK (by exact .of_eq rfl)
  repeat(refine zS ?_;intros)
  refine zB ?_ ?_<;>intro h5
  · obtain rfl:r=5:=by omega
    repeat(refine zS ?_;intros)
    exact aRet1 rfl zv hK (by exact .of_eq rfl)
  repeat(refine zS ?_;intros)
  refine zB ?_ ?_<;>intro h6
  · obtain rfl:r=6:=by omega
    repeat(refine zS ?_;intros)
    exact aRet1 rfl zv hK (by exact .of_eq rfl)
  repeat(refine zS ?_;intros)
  refine zB ?_ ?_<;>intro h7
  · obtain rfl:r=7:=by omega
    repeat(refine zS ?_;intros)
    exact aRet1 rfl zv hK (by exact .of_eq rfl)
  repeat(refine zS ?_;intros)
  refine zB ?_ ?_<;>intro h8
  · obtain rfl:r=8:=by omega
    repeat(refine zS ?_;intros)
    exact aRet1 rfl zv hK (by exact .of_eq rfl)
  repeat(refine zS ?_;intros)
  refine zB ?_ ?_<;>intro h9
  · obtain rfl:r=9:=by omega
    repeat(refine zS ?_;intros)
    exact aRet1 rfl zv hK (by exact .of_eq rfl)
  repeat(refine zS ?_;intros)
  refine zB ?_ ?_<;>intro h10
  · obtain rfl:r=10:=by omega
    repeat(refine zS ?_;intros)
    exact aRet1 rfl zv hK (by exact .of_eq rfl)
  repeat(refine zS ?_;intros)
  refine zB ?_ ?_<;>intro h11
  · obtain rfl:r=11:=by omega
    repeat(refine zS ?_;intros)
    exact aRet1 rfl zv hK (by exact .of_eq rfl)
  repeat(refine zS ?_;intros)
  refine zB ?_ ?_<;>intro h12
  · obtain rfl:r=12:=by omega
    repeat(refine zS ?_;intros)
    exact aRet1 rfl zv hK (by exact .of_eq rfl)
  repeat(refine zS ?_;intros)
  refine zB ?_ ?_<;>intro h13
  · obtain rfl:r=13:=by omega
    repeat(refine zS ?_;intros)
    exact aRet1 rfl zv hK (by exact .of_eq rfl)
  repeat(refine zS ?_;intros)
  refine zB ?_ ?_<;>intro h14
  · obtain rfl:r=14:=by omega
    repeat(refine zS ?_;intros)
    exact aRet1 rfl zv hK (by exact .of_eq rfl)
  repeat(refine zS ?_;intros)
  obtain rfl:r=15:=by omega
  exact aRet1 rfl zv hK (by exact .of_eq rfl)⟩
theorem Qqq: ∀i,i<16→(Qil.getD i []).length≤5∧ ∀z∈Qil.getD i [],-9223372036854775808≤z∧z≤9223372036854775807:=by decide
instance c18:TK prog 18 (∀{n:Nat}(_:n<256),AC prog 18 [] [I .u8 (n:Int)] fun K=>K [] [pc 2 (Xa (Qil.getD (n % 16) []))]):=⟨fun {n} hn=>by
  refine aEnter func18 rfl ntmps18 rfl fun K C hC hK=> ?_
  obtain⟨l,hl⟩: ∃l,Qil.getD (n % 16) []=l:=⟨_,rfl⟩
  have⟨b1,b2⟩:=Qqq (n % 16) (Nat.mod_lt _ (by decide))
  rw[hl] at hK b1 b2
  have hkn:AC prog 58 [] [N n] fun K=>K [] [sl 1 (l.map (I .i64))]:=by
    have :=c58.k (n:=n) (by omega)
    rwa [hl] at this
  repeat(refine zS ?_;intros)
  exact aRet1 rfl zv hK (le_refl _)⟩
end Go.Proofs.YtjdpemcnlejpfaaGreatDoor
namespace Go.Proofs.YtjdpemcnlejpfaaGreatDoor
open Go.RowKit Go.Gx Go.Am Tryz
def Qtu(n:Nat):Nat→Nat
  |0=>0
  |k+1=>Qtu n k+(if 1≤k∧Nat.gcd k n=1 then 1 else 0)
theorem Qop(n:Nat): ∀k,Qtu n k≤k
  |0=>Nat.le_refl _
  |k+1=>by have :=Qop n k;unfold Qtu;split<;>omega
instance c43:TK prog 43 (∀{n:Nat}(_:n≤1048576),AC prog 43 [] [N n] fun K=>K [] [N (Qtu n (n+1))]):=⟨fun {n} hn=>by
  refine aEnter func43 rfl ntmps43 rfl fun K C hC hK=> ?_
  repeat(refine zS ?_;intros)
  refine aL2 [0] (fun c k=>[(3,N c),(4,N k)]) (fun _ _=>[]) (fun c k=>1≤k∧k≤n+1∧c=Qtu n k) (fun _ k=>n+1 -k) 0 1 ⟨by omega,by omega,rfl⟩ (entL (.cons zle (.cons zle .nil)) zk (HLe.none _)) fun c k ⟨hk1,hk2,hc⟩=> ?_
  have hb:=Qop n k
  repeat(refine zS ?_;intros)
  refine zB ?_ ?_<;>intro h
  · repeat(refine zS ?_;intros)
    refine aL2 [0,3,4] (fun a b=>[(5,N a),(6,N b)]) (fun _ _=>[]) (fun a b=>a≤1048577∧b≤1048577∧Nat.gcd a b=Nat.gcd k n) (fun _ b=>b) k n ⟨by omega,by omega,rfl⟩ (entL (.cons zle (.cons zle .nil)) zk (HLe.none _)) fun a b ⟨ha,hb2,hg⟩=> ?_
    repeat(refine zS ?_;intros)
    refine zB ?_ ?_<;>intro h2
    · have h3:a % b<b:=Nat.mod_lt _ (by omega)
      repeat(refine zS ?_;intros)
      exact ag2 b (a % b) ⟨by omega,by omega,by rw[←hg,Nat.gcd_comm a b,Nat.gcd_rec b a,Nat.gcd_comm]⟩ (entL (.cons zle (.cons zle .nil)) zk (HLe.none _))
    · obtain rfl:b=0:=by omega
      rw[Nat.gcd_zero_right] at hg
      repeat(refine zS ?_;intros)
      refine zB ?_ ?_<;>intro h3
      · repeat(refine zS ?_;intros)
        exact ag2 (c+1) (k+1) ⟨by omega,by omega,by rw[Qtu,if_pos ⟨hk1,by omega⟩,hc]⟩ (entL (.cons zle (.cons zle .nil)) zk (HLe.none _))
      · repeat(refine zS ?_;intros)
        exact ag2 c (k+1) ⟨by omega,by omega,by rw[Qtu,if_neg (by omega),hc];rfl⟩ (entL (.cons zle (.cons zle .nil)) zk (HLe.none _))
  · obtain rfl:k=n+1:=by omega
    rw[←hc] at hK
    repeat(refine zS ?_;intros)
    exact aRet1 rfl zv hK leI⟩
theorem QqS{n:Nat}(h:2≤n)(hj: ∀j,2≤j→j*j≤n→n % j≠0):Xk n:=by
  refine⟨h,fun a h0 h1=> ?_⟩
  obtain⟨g,hg⟩: ∃g,Nat.gcd a n=g:=⟨_,rfl⟩
  have hp:0<g:=by rw[←hg];exact Nat.gcd_pos_of_pos_left n h0
  have hle:g≤a:=by rw[←hg];exact Nat.gcd_le_left n h0
  obtain⟨q,hq⟩:g∣n:=by rw[←hg];exact Nat.gcd_dvd_right a n
  rw[hg]
  apply Classical.byContradiction
  intro h2
  have hq2:2≤q:=by
    apply Nat.le_of_not_lt
    intro h3
    have h4:q=0∨q=1:=by omega
    rcases h4 with rfl|rfl
    · omega
    · omega
  rcases Nat.le_total g q with h3|h3
  · exact hj g (by omega) (by rw[hq];exact Nat.mul_le_mul_left g h3) (by rw[hq];exact Nat.mul_mod_right g q)
  · exact hj q hq2 (by rw[hq];exact Nat.mul_le_mul_right q h3) (by rw[hq];exact Nat.mul_mod_left g q)
theorem Qn9{n j:Nat}(h:2≤j)(h1:j*j≤n)(h2:n % j=0): ¬Xk n:=fun hp=>by
  have h3:j<n:=Nat.lt_of_lt_of_le (by have :=Nat.mul_le_mul_right j h;omega) h1
  have h4:=hp.2 j (by omega) h3
  rw[Nat.gcd_eq_left (Nat.dvd_of_mod_eq_zero h2)] at h4
  omega
instance c34:TK prog 34 (∀{n:Nat}(_:n<65536),AC prog 34 [] [W32 n] fun K=> ∀b:Bool,(b=true↔Xk n)→K [] [Bo b]):=⟨fun {n} hn=>by
  refine aEnter func34 rfl ntmps34 rfl fun K C hC hK=> ?_
  repeat(refine zS ?_;intros)
  refine zB ?_ ?_<;>intro h
  · repeat(refine zS ?_;intros)
    exact aRet1 rfl zv (hK false ⟨fun h9=>(by cases h9),fun h9=>absurd h9.1 (by omega)⟩) (le_refl _)
  repeat(refine zS ?_;intros)
  refine aL1 [0] (fun(i:Nat)=>[(3,I .u64 (i:Int))]) (fun _=>[]) (fun i=>2≤i∧i≤300∧ ∀j,2≤j→j<i→n % j≠0) (fun i=>301 -i) 2 ⟨by omega,by omega,fun j a b=>by omega⟩ (entL (.cons zle .nil) zk (HLe.none _)) fun i ⟨hi,hi2,hj⟩=> ?_
  have hq:i*i≤300*300:=Nat.mul_le_mul hi2 hi2
  repeat(refine zS ?_;intros)
  refine zB ?_ ?_<;>intro h2
  · repeat(refine zS ?_;intros)
    refine zB ?_ ?_<;>intro h3
    · repeat(refine zS ?_;intros)
      exact aRet1 rfl zv (hK false ⟨fun h9=>(by cases h9),fun h9=>absurd h9 (Qn9 hi (by omega) (by omega))⟩) (le_refl _)
    · have hi3:i<256:=Nat.lt_of_not_le fun h8=>by
        have :=Nat.mul_le_mul h8 h8
        omega
      repeat(refine zS ?_;intros)
      exact ag1 (i+1) ⟨by omega,by omega,fun j a b=>by
        rcases Nat.lt_or_ge j i with h7|h7
        · exact hj j a h7
        · obtain rfl:j=i:=by omega
          omega⟩ (entL (.cons zle .nil) zk (HLe.none _))
  · repeat(refine zS ?_;intros)
    exact aRet1 rfl zv (hK true ⟨fun _=>QqS (by omega) fun j a b=>hj j a (Nat.lt_of_not_le fun h8=>by
      have :=Nat.mul_le_mul h8 h8
      omega),fun _=>rfl⟩) (le_refl _)⟩
end Go.Proofs.YtjdpemcnlejpfaaGreatDoor
