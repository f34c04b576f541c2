/-
  U2, U3, U4, U7, U5
-/
import Derived.Test.YtjdpemcnlejpfaaGreatDoorN3
import Derived.Test.YtjdpemcnlejpfaaGreatDoorPolyMath2
import Derived.Test.YtjdpemcnlejpfaaGreatDoorSqMath
set_option linter.all false
namespace Go.Proofs.YtjdpemcnlejpfaaGreatDoor
open Go.RowKit Go.Gx Go.Am Tryz
set_option maxHeartbeats 2000000 in
instance c93:TK prog 93 (∀{M M':Nat}{f g:List Int}{o:FuncId}{s:Int}(_:M≤1099511627)(_:M'≤1099511627)(_:f.length≤1099511627776)(_:g.length≤1099511627776)(_:o=57∧s=1∨o=94∧s= -1),AC prog 93 [] [pv M f,pv M' g,it 0 0,fnv o []] fun K=>K [] [pc (max M M'+1) (QmQ s f g)]):=⟨fun {M M' f g o s} hM hM' hf hg ho=>by
  rcases ho with⟨rfl,hs⟩| ⟨rfl,hs⟩
  all_goals
    refine aEnter func93 rfl ntmps93 rfl fun K C hC hK=> ?_
    repeat(refine zS ?_;intros)
    rename_i g6 _ _ g9
    refine aL2 [0,1,3,6,9,20] (fun k _=>[(21,N k)]) (fun k P=>[.arr 25 2 ((P++List.replicate (max f.length g.length -k) 0).map (it (max M M'+1))),.arr 25 1 (itl 0 0)]) (fun k P=>k≤max f.length g.length∧P=(List.range k).map fun i=>f.getD i 0+s*g.getD i 0) (fun k _=>max f.length g.length -k) 0 [] ⟨by omega,rfl⟩ (entL (.cons zle .nil) zk (.cons (ob_it (by simp) (by omega)) (.cons (ob_refl _) .nil))) fun k P ⟨hk,hP⟩=> ?_
    have hP1:P.length=k:=by rw[hP];simp
    repeat(refine zS ?_;intros)
    refine zB ?_ ?_<;>intro h
    · repeat(refine zS ?_;intros)
      refine aJ2 [0,1,3,6,9,10,20,21] (fun g11 g12=>[(11,lpt 1 g11 0),(12,lpt 1 g12 0)]) (fun g11 g12=>[(some g12,.arr 25 1 (itl 0 0)),(some g11,.arr 25 1 (itl 0 0)),(some g9,.arr 25 2 ((P++List.replicate (max f.length g.length -k) 0).map (it (max M M'+1)))),(some g6,.arr 25 1 (itl 0 0))]) (fun _ _=>True) ?_ ?_
      · refine aDr1 [0,1,2,3,4,5] ?_
        repeat' (first | (refine zR ?_;intros)| (refine adO1 (by exact rfl) (zst ?_);intros)| (refine adO2 (by exact rfl) (zst ?_) (zst ?_)<;>intros)| (refine adO3 (by exact rfl) (zst ?_) (zst ?_) (zst ?_)<;>intros))
        all_goals rename_i ga gb
        all_goals first | exact jd2 ga gb trivial (entL (.cons zle (.cons zle .nil)) zk (.cons (ob_refl _) (.cons (ob_refl _) (HLe.refl _))))| exact jd2 gb ga trivial (entL (.cons zle (.cons zle .nil)) zk (.cons (ob_refl _) (.cons (ob_refl _) (HLe.refl _))))| exact jd2 ga gb trivial (entL (.cons zle (.cons zle .nil)) zk (.pick 1 rfl (ob_refl _) (.cons (ob_refl _) (HLe.refl _))))| exact jd2 gb ga trivial (entL (.cons zle (.cons zle .nil)) zk (.pick 1 rfl (ob_refl _) (.cons (ob_refl _) (HLe.refl _))))
      rintro g11 g12 -
      repeat(refine zS ?_;intros)
      have hs2:P++[f.getD k 0+s*g.getD k 0]=(List.range (k+1)).map fun i=>f.getD i 0+s*g.getD i 0:=by rw[hP];exact QdW
      have hf0:f.length≤k→f.getD k 0=0:=fun h=>QcS h k (Nat.le_refl _)
      have hg0:g.length≤k→g.getD k 0=0:=fun h=>QcS h k (Nat.le_refl _)
      repeat' (first | (refine zS ?_;intros)| (refine zB ?_ ?_<;>intro))
      all_goals exact ag2 (k+1) _ ⟨by omega,hs2⟩ (entL (.cons zle .nil) zk (.drop (.drop (.cons (ob_it (by rw[QfT hP1 (m':=max f.length g.length -(k+1)) (by omega)];congr 3;subst hs;omega) (by omega)) (.cons (ob_refl _) .nil)))))
    · obtain rfl:k=max f.length g.length:=by omega
      repeat(refine zS ?_;intros)
      exact aRetO rfl hC zv 0 rfl lq hK (.of_eq (by rw[hP,Nat.sub_self,List.replicate_zero,List.append_nil];rfl))⟩
instance QyE:TK prog 230 (∀{M M':Nat}{f g:List Int}(_:M≤1099511627)(_:M'≤1099511627)(_:f.length≤1099511627776)(_:g.length≤1099511627776),AC prog 230 [] [pv M f,pv M' g] fun K=>K [] [pc (max M M'+1) (Xa (Xx f g))]):=⟨fun {M M' f g} hM hM' hf hg=>by
  refine aEnter func230 rfl ntmps230 rfl fun K C hC hK=> ?_
  rw[←QpN] at hK
  repeat(refine zS ?_;intros)
  exact aRet1 rfl zv hK (le_refl _)⟩
instance c45:TK prog 45 (∀{M M':Nat}{f g:List Int}(_:M≤1099511627)(_:M'≤1099511627)(_:f.length≤1099511627776)(_:g.length≤1099511627776),AC prog 45 [] [pv M f,pv M' g] fun K=>K [] [pc (max M M'+1) (Xa (XD f g))]):=⟨fun {M M' f g} hM hM' hf hg=>by
  refine aEnter func45 rfl ntmps45 rfl fun K C hC hK=> ?_
  rw[←QpO] at hK
  repeat(refine zS ?_;intros)
  exact aRet1 rfl zv hK (le_refl _)⟩
end Go.Proofs.YtjdpemcnlejpfaaGreatDoor
namespace Go.Proofs.YtjdpemcnlejpfaaGreatDoor
open Go.RowKit Go.Gx Go.Am Tryz
set_option maxHeartbeats 2000000 in
instance c56:TK prog 56 (∀{M M':Nat}{f g:List Int}(_:M+M'+f.length≤1099511627)(_:g.length≤1099511627776),AC prog 56 [] [pv M f,pv M' g,it 0 0,fnv 57 [],fnv 27 []] fun K=>K [] [pc (M+M'+f.length) (Xg f g)]):=⟨fun {M M' f g} hM hg=>by
  refine aEnter func56 rfl ntmps56 rfl fun K C hC hK=> ?_
  repeat(refine zS ?_;intros)
  refine zB ?_ ?_<;>intro h<;>repeat(refine zS ?_;intros)
  · exact aRet1 rfl zv hK (by rw[show Xg f g=[] by unfold Xg;rw[if_pos (.inl (by omega))]];exact le_p0)
  refine zB ?_ ?_<;>intro h'<;>repeat(refine zS ?_;intros)
  · exact aRet1 rfl zv hK (by rw[show Xg f g=[] by unfold Xg;rw[if_pos (.inr (by omega))]];exact le_p0)
  refine aL2 [0,1,3,4,7,11,31] (fun k _=>[(32,N k)]) (fun k P=>[.arr 25 2 ((P++List.replicate (f.length+g.length -1 -k) 0).map (it (M+M'+f.length))),.arr 25 1 (itl 0 0)]) (fun k P=>k≤f.length+g.length -1∧P=(List.range k).map (conv f g)) (fun k _=>f.length+g.length -1 -k) 0 [] ⟨by omega,rfl⟩ (entL (.cons zle .nil) zk (.cons (ob_it (by simp) (by omega)) (.cons (ob_refl _) .nil))) fun k P ⟨hk,hP⟩=> ?_
  have hP1:P.length=k:=by rw[hP];simp
  repeat(refine zS ?_;intros)
  refine zB ?_ ?_<;>intro h1
  · repeat(refine zS ?_;intros)
    refine aL2 [0,1,3,4,7,11,12,13,31,32] (fun i _=>[(14,N i)]) (fun i x=>[.arr 25 1 (itl (M+M'+i) x),.arr 25 2 ((P++List.replicate (f.length+g.length -1 -k) 0).map (it (M+M'+f.length))),.arr 25 1 (itl 0 0)]) (fun i x=>k+1 -g.length≤i∧i≤k+1∧i≤f.length∧x=Ye (fun t=>co f t*co g (k -t)) i) (fun i _=>k+1 -i) (k+1 -g.length) 0 ⟨by omega,by omega,by omega,QsB rfl⟩ (entL (.cons zle .nil) zk (.cons (ob_i rfl (by omega)) (.cons (ob_refl _) (.cons (ob_refl _) .nil)))) fun i x ⟨i1,i2,i3,hx⟩=> ?_
    repeat(refine zS ?_;intros)
    refine zB ?_ ?_<;>intro h2
    · repeat(refine zS ?_;intros)
      exact ag2 (i+1) _ ⟨by omega,by omega,by omega,rfl⟩ (entL (.cons zle .nil) zk (.cons (ob_i (by rw[hx];rfl) (by omega)) (.cons (ob_refl _) (.cons (ob_refl _) .nil))))
    · have hc:=QpQ hx i2 h2
      repeat(refine zS ?_;intros)
      exact ag2 (k+1) (P++[x]) ⟨by omega,by rw[hP,hc];exact QdW⟩ (entL (.cons zle .nil) zk (.drop (.cons (ob_it (QfT hP1 (by omega)) (by omega)) (.cons (ob_refl _) .nil))))
  · obtain rfl:k=f.length+g.length -1:=by omega
    repeat(refine zS ?_;intros)
    exact aRetO rfl hC zv 0 rfl lq hK (.of_eq (by rw[hP,Nat.sub_self,List.replicate_zero,List.append_nil,QqJ (by omega) (by omega) rfl]))⟩
instance c17:TK prog 17 (∀{M M':Nat}{f g:List Int}(_:M+M'+f.length≤1099511627)(_:g.length≤1099511627776),AC prog 17 [] [pv M f,pv M' g] fun K=>K [] [pc (M+M'+f.length) (Xa (Xg f g))]):=⟨fun {M M' f g} hM hg=>by
  have h1:=Xe f
  have h2:=Xe g
  refine aEnter func17 rfl ntmps17 rfl fun K C hC hK=> ?_
  rw[←QqA] at hK
  repeat(refine zS ?_;intros)
  exact aRet1 rfl zv hK (le_pcc (by omega))⟩
end Go.Proofs.YtjdpemcnlejpfaaGreatDoor
namespace Go.Proofs.YtjdpemcnlejpfaaGreatDoor
open Go.RowKit Go.Gx Go.Am Tryz
instance c16:TK prog 16 (∀{l:List Int}(_:l.length≤1099511627776)(_: ∀z∈l,-9223372036854775808≤z∧z≤9223372036854775807),AC prog 16 [] [sl 1 (l.map (I .i64))] fun K=>K [] [pc 2 (Xa l)]):=⟨fun {l} hl hr=>by
  refine aEnter func16 rfl ntmps16 rfl fun K C hC hK=> ?_
  repeat(refine zS ?_;intros)
  refine aL2 [3,9,10] (fun k _=>[(11,N k)]) (fun k P=>[.arr 25 2 ((P++List.replicate (l.length -k) 0).map (it 2))]) (fun k P=>k≤l.length∧P=l.take k) (fun k _=>l.length -k) 0 [] ⟨by omega,rfl⟩ (entL (.cons zle .nil) zk (.cons (ob_it (by simp) (by omega)) .nil)) fun k P ⟨hk,hP⟩=> ?_
  have hP1:P.length=k:=by rw[hP,List.length_take];omega
  repeat(refine zS ?_;intros)
  refine zB ?_ ?_<;>intro h
  · have hz: -9223372036854775808≤l.getD k 0∧l.getD k 0≤9223372036854775807:=by
      have hk:k<l.length:=by omega
      simp only[List.getD,List.getElem?_eq_getElem hk,Option.getD_some];exact hr _ (List.getElem_mem hk)
    repeat(refine zS ?_;intros)
    exact ag2 (k+1) (P++[l.getD k 0]) ⟨by omega,by rw[hP];have :=Qdq (f:=id) (x0:=(0:Int)) (l:=l) (k:=k) (by omega);simpa using this⟩ (entL (.cons zle .nil) zk (.cons (ob_it (QfT hP1 (by omega)) (by omega)) .nil))
  · obtain rfl:k=l.length:=by omega
    repeat(refine zS ?_;intros)
    refine AL.ent (entFzS hC (s:=22) (by exact rfl) 0 (by exact rfl) lq (a:=pc 2 l) (.of_eq (by rw[hP,Nat.sub_self,List.replicate_zero,List.append_nil,List.take_length]))) ?_
    repeat(refine zS ?_;intros)
    exact aRet1 rfl zv hK (le_refl _)⟩
instance Qyr:TK prog 204 (∀{M:Nat}{l:List Int}(_:M≤1099511627776)(_:l.length≤1099511627776),AC prog 204 [] [pv M l] fun K=>K [] [pc M (Xa (Xf l (-1)))]):=⟨fun {M l} hM hl=>by
  have h1:=Xe l
  refine aEnter func204 rfl ntmps204 rfl fun K C hC hK=> ?_
  rw[←QqB] at hK
  repeat(refine zS ?_;intros)
  exact aRet1 rfl zv hK (le_pcc (by omega))⟩
instance c19:TK prog 19 (∀{M:Nat}{l:List Int}(_:l.length≤1099511627776),AC prog 19 [] [pv M l] fun K=>K [] [I .i64 (((Xa l).length:Int) -1)]):=⟨fun {M l} hl=>by
  refine aEnter func19 rfl ntmps19 rfl fun K C hC hK=> ?_
  have h1:=Xe l
  repeat(refine zS ?_;intros)
  exact aRet1 rfl zv hK (le_refl _)⟩
instance c38:TK prog 38 (∀{M:Nat}{l:List Int}(_:M≤1099511627776)(_:l.length≤1099511627776),AC prog 38 [] [pv M l] fun K=>K [] [it M (ldP l)]):=⟨fun {M l} hM hl=>by
  refine aEnter func38 rfl ntmps38 rfl fun K C hC hK=> ?_
  have h1:=Xe l
  repeat(refine zS ?_;intros)
  refine zB ?_ ?_<;>intro h<;>repeat(refine zS ?_;intros)
  · exact aRet (rs:=[_]) rfl rfl (List.nil_sublist _) (arW0 zv 0 rfl rfl (by kernel_rfl) (by rw[show ldP l=0 by unfold ldP coI;rw[if_pos (by omega)]];exact le_i0) arN) hK
  · exact aRet (rs:=[_]) rfl rfl (List.nil_sublist _) (arW0 zv 0 rfl rfl (by kernel_rfl) (le_ie (by unfold ldP coI;rw[if_neg (by omega)];show(Xa l).getD _ 0=(Xa l).getD _ 0;congr 1;omega) (Nat.le_refl _)) arN) hK⟩
instance c15:TK prog 15 (∀{M Mc:Nat}{l:List Int}{c:Int}(_:M+Mc≤1099511627776)(_:l.length≤1099511627776),AC prog 15 [] [pv M l,iv Mc c] fun K=>K [] [pc (M+Mc) (Xa (Xf l c))]):=⟨fun {M Mc l c} hM hl=>by
  refine aEnter func15 rfl ntmps15 rfl fun K C hC hK=> ?_
  iterate 7 (refine zS ?_;intros)
  refine AW.ent (entBx hC (s:=3) (by exact rfl) 0 (by exact rfl)) ?_
  repeat(refine zS ?_;intros)
  exact aRet1 rfl zv hK (le_refl _)⟩
instance c72:TK prog 72 (∀{M:Nat}{l:List Int}(_:M≤1099511627)(_:l.length≤1099511627776),AC prog 72 [] [pv M l] fun K=>K [] [pc (M+2) (Xn (Xa l))]):=⟨fun {M l} hM hl=>by
  refine aEnter func72 rfl ntmps72 rfl fun K C hC hK=> ?_
  have h1:=Xe l
  repeat(refine zS ?_;intros)
  generalize Xa l=f at *
  refine zB ?_ ?_<;>intro h<;>repeat(refine zS ?_;intros)
  · obtain rfl:f=[]:=List.eq_nil_of_length_eq_zero (by omega)
    exact aRet1 rfl zv hK le_p0
  refine aL2 [0,3,15] (fun k _=>[(16,N k)]) (fun k P=>[.arr 25 2 ((P++List.replicate (f.length -1 -k) 0).map (it (M+2)))]) (fun k P=>k≤f.length -1∧P=(List.range k).map fun i=>co f (i+1)*((i+1:Nat):Int)) (fun k _=>f.length -1 -k) 0 [] ⟨by omega,rfl⟩ (entL (.cons zle .nil) zk (.cons (ob_it (by simp) (by omega)) .nil)) fun k P ⟨hk,hP⟩=> ?_
  have hP1:P.length=k:=by rw[hP];simp
  repeat(refine zS ?_;intros)
  refine zB ?_ ?_<;>intro h2
  · repeat(refine zS ?_;intros)
    have hs2:P++[co f (k+1)*((k+1:Nat):Int)]=(List.range (k+1)).map fun i=>co f (i+1)*((i+1:Nat):Int):=by rw[hP];exact QdW
    exact ag2 (k+1) _ ⟨by omega,hs2⟩ (entL (.cons zle .nil) zk (.cons (ob_it (QfT hP1 (by omega)) (by omega)) .nil))
  · obtain rfl:k=f.length -1:=by omega
    repeat(refine zS ?_;intros)
    exact aRetO rfl hC zv 0 rfl lq hK (.of_eq (by rw[hP,Nat.sub_self,List.replicate_zero,List.append_nil];rfl))⟩
instance c63:TK prog 63 (∀{M M':Nat}{f g:List Int}(_:f.length≤1099511627776)(_:g.length≤1099511627776),AC prog 63 [] [pv M f,pv M' g] fun K=>K [] [I .i64 (Qbv (Xa f) (Xa g))]):=⟨fun {M M' f g} hf hg=>by
  refine aEnter func63 rfl ntmps63 rfl fun K C hC hK=> ?_
  have h1:=Xe f
  have h2:=Xe g
  repeat(refine zS ?_;intros)
  generalize Xa f=f at *
  generalize Xa g=g at *
  refine zB ?_ ?_<;>intro h<;>repeat(refine zS ?_;intros)
  · exact aRet1 rfl zv hK (leI (QmJ (by omega)))
  refine zB ?_ ?_<;>intro h'<;>repeat(refine zS ?_;intros)
  · exact aRet1 rfl zv hK (leI (QmI (by omega)))
  rw[QmH (by omega) rfl] at hK
  refine aL1 [0,1] (fun(k:Nat)=>[(5,I .i64 ((k:Int) -1))]) (fun _=>[]) (fun k=>k≤f.length∧YT f g f.length=YT f g k) (fun k=>k) f.length ⟨by omega,rfl⟩ (entL (.cons zle .nil) zk .nil) fun k ⟨hk,hc⟩=> ?_
  repeat(refine zS ?_;intros)
  refine zB ?_ ?_<;>intro h3
  · repeat(refine zS ?_;intros)
    rename_i c c1 c2 c3 c4 c5
    refine zB ?_ ?_<;>intro h4<;>repeat(refine zS ?_;intros)
    · have e:=QcA hc (by omega) (fun e=>h4 (c3.2 e))
      have :=Zi (co f (k -1)) (co g (k -1))
      exact aRet1 rfl zv hK (leI (by rw[e];show c=Qru (f.getD (k -1) 0) (g.getD (k -1) 0);have :=Zi (f.getD (k -1) 0) (g.getD (k -1) 0);omega))
    · exact ag1 (k -1) ⟨by omega,QeS hc (by omega) (c3.1 (by omega))⟩ (entL (.cons zle .nil) zk .nil)
  · obtain rfl:k=0:=by omega
    repeat(refine zS ?_;intros)
    exact aRet1 rfl zv hK (leI (by rw[hc];rfl))⟩
instance c30:TK prog 30 (∀{M M':Nat}{f g:List Int}(_:f.length≤1099511627776)(_:g.length≤1099511627776),AC prog 30 [] [pv M f,pv M' g] fun K=>K [] [Bo (decide (Xa f=Xa g))]):=⟨fun {M M' f g} hf hg=>by
  refine aEnter func30 rfl ntmps30 rfl fun K C hC hK=> ?_
  repeat(refine zS ?_;intros)
  exact aRet1 rfl zv hK (.of_eq (congrArg Bo (Qq2 rfl)))⟩
end Go.Proofs.YtjdpemcnlejpfaaGreatDoor
namespace Go.Proofs.YtjdpemcnlejpfaaGreatDoor
open Go.RowKit Go.Gx Go.Am Tryz
theorem Qlo(c:Int): ∀(l:List Int)(i:Nat),l.length≤i→tay c l i=0
  | [],_,_=>by unfold tay;rfl
  |a::l,0,h=>by simp at h
  |a::l,i+1,h=>by
    simp only[List.length_cons] at h
    rw[QdD,Qlo c l (i+1) (by omega),Qlo c l i (by omega)];simp
theorem Qpb(c:Int): ∀(l:List Int),l.length≠0→tay c l (l.length -1)=co l (l.length -1)
  | [],h=>absurd rfl h
  | [a],_=>by show a+c*tay c [] 0=a;rw[Qlo c [] 0 (by simp)];simp
  |a::b::l,_=>by
    show tay c (a::b::l) (l.length+1)=co (a::b::l) (l.length+1)
    rw[QdD,Qlo c (b::l) (l.length+1) (by simp)]
    have :=Qpb c (b::l) (by simp)
    simp only[List.length_cons,Nat.add_sub_cancel] at this
    rw[this];simp [co]
set_option maxHeartbeats 1000000 in
instance c31:TK prog 31 (∀{M Mc:Nat}{l:List Int}{c:Int}(_:l.length≤1024)(_:M≤1099511)(_:Mc≤65535),AC prog 31 [] [pv M l,iv Mc c] fun K=>K [] [pc (M+l.length*l.length*(Mc+1)) (Xa (Yw [c,1] l))]):=⟨fun {M Mc l c} hl hM hMc=>by
  refine aEnter func31 rfl ntmps31 rfl fun K C hC hK=> ?_
  have h1:=Xe l
  have own:=QaG (M:=M) (l:=l) (by omega) (by omega)
  iterate 9 (refine zS ?_;intros)
  rename_i g3
  refine alO (zcallX own) zg fun g=> ?_
  repeat(refine zS ?_;intros)
  have hcn:Canon ZM (Xa l):=Xs ZM l
  generalize hF:Xa l=F at *
  have hsq:F.length*F.length≤l.length*l.length:=Nat.mul_le_mul h1 h1
  have hB: ∀s,s≤F.length*F.length→s*(Mc+1)≤l.length*l.length*(Mc+1):=fun s hs=>Nat.mul_le_mul_right _ (by omega)
  have hB2:l.length*l.length*(Mc+1)≤1048576*65536:=Nat.mul_le_mul (Nat.mul_le_mul hl hl) (by omega)
  refine aL2 [3,5] (fun k _=>[(6,N k)]) (fun k L=>[.arr 25 2 (L.map (it (M+k*F.length*(Mc+1)))),.arr 25 2 [iv Mc c]]) (fun k L=>k≤F.length∧L.length=F.length∧ ∀j,tay c F j=if j<k then co L j else tay c (L.drop k) (j -k)) (fun k _=>F.length -k) 0 F ⟨by omega,rfl,QjW rfl⟩ (entL (.cons zle .nil) zk (.cons (ob_it rfl (by omega)) (.cons (ob_refl _) .nil))) fun k L0 ⟨hk,hL0,ht⟩=> ?_
  repeat(refine zS ?_;intros)
  refine zB ?_ ?_<;>intro h
  · repeat(refine zS ?_;intros)
    have hkn:k*F.length+F.length≤F.length*F.length:=by rw[←Nat.succ_mul];exact Nat.mul_le_mul_right _ (by omega)
    refine aL2 [3,5,6] (fun(i:Nat) _=>[(7,I .i64 ((i:Int) -1))]) (fun i L=>[.arr 25 2 (L.map (it (M+(k*F.length+(F.length -1 -i))*(Mc+1)))),.arr 25 2 [iv Mc c]]) (fun i L=>k≤i∧i≤F.length -1∧L.length=L0.length∧L.take i=L0.take i∧L.drop i=syn c (L0.drop i)) (fun i _=>i) (F.length -1) L0 ⟨by omega,by omega,rfl,rfl,Qud (by omega)⟩ (entL (.cons zle .nil) zk (.cons (ob_it rfl (by rw[Nat.sub_self,Nat.add_zero];exact Nat.le_refl _)) (.cons (ob_refl _) .nil))) fun i L ⟨hi,hi2,hL,htk,hdr⟩=> ?_
    repeat(refine zS ?_;intros)
    refine zB ?_ ?_<;>intro h2
    · obtain⟨m,rfl⟩: ∃m,i=m+1:=⟨i -1,by omega⟩
      refine AW.ent (entSub (s:=7) (a:=N m) leI) ?_
      have hst:=Qrk (c:=c) (z:=L.getD m 0+c*L.getD (m+1) 0) (show m<L0.length by omega) hL htk hdr rfl
      have hs:=hB (k*F.length+(F.length -1 -m)) (by omega)
      have he:(k*F.length+(F.length -1 -m))*(Mc+1)=(k*F.length+(F.length -1 -(m+1)))*(Mc+1)+(Mc+1):=by rw[←Nat.succ_mul];congr 1;omega
      repeat(refine zS ?_;intros)
      exact ag2 m (L.set m (L.getD m 0+c*L.getD (m+1) 0)) ⟨by omega,by omega,by rw[List.length_set,hL],hst⟩ (entL (.cons zle .nil) zk (.cons (ob_it rfl (by omega)) (.cons (ob_refl _) .nil)))
    · obtain rfl:i=k:=by omega
      have hrd:=QjV ht htk hdr
      repeat(refine zS ?_;intros)
      exact ag2 (i+1) L ⟨by omega,by omega,hrd⟩ (entL (.cons zle .nil) zk (.cons (ob_it rfl (by have :(i*F.length+(F.length -1 -i))*(Mc+1)≤(i+1)*F.length*(Mc+1):=Nat.mul_le_mul_right _ (by rw[Nat.succ_mul];omega);omega)) (.cons (ob_refl _) .nil)))
  · have hfin:=QoU ht (by omega)
    repeat(refine zS ?_;intros)
    have hc0:Canon ZM L0:=ZF (by
      by_cases h0:F.length=0
      · exact .inl (by omega)
      · exact .inr (by rw[hfin,hL0,Qpb c F h0];exact YG hcn h0))
    have hres:=QoV (c:=c) (F:=l) (R:=L0) (fun j=>by rw[hF];exact hfin j) hc0
    exact aRetO rfl hC zv 0 rfl lq hK (by rw[←hres];exact le_pcc (by have :=hB (k*F.length) (Nat.mul_le_mul_right _ hk);omega))⟩
end Go.Proofs.YtjdpemcnlejpfaaGreatDoor
namespace Go.Proofs.YtjdpemcnlejpfaaGreatDoor
open Go.RowKit Go.Gx Go.Am Tryz
theorem Qqb{l:List Int}{k:Nat}{a v:Int}(hk:0<k)(hl:k≤l.length)(h:v=evI (l.drop k) a):v*a+l.getD (k -1) 0=evI (l.drop (k -1)) a:=by
  have hk1:k -1<l.length:=by omega
  rw[List.drop_eq_getElem_cons hk1,show k -1+1=k by omega,evI,←h]
  simp only[List.getD,List.getElem?_eq_getElem hk1,Option.getD_some]
  rw[Int.mul_comm];omega
theorem QjF{n k a:Nat}(hk:0<k)(hl:k≤n):(n -k)*a+a=(n -(k -1))*a:=by rw[←Nat.succ_mul];congr 1;omega
instance Qw1:TK prog 207 (∀{M Ma:Nat}{l:List Int}{a:Int}(_:M+l.length*(Ma+1)≤1099511)(_:Ma≤1099511)(_:l.length≤1099511627776),AC prog 207 [] [pv M l,iv Ma a] fun K=>K [] [it (M+l.length*(Ma+1)) (evI l a)]):=⟨fun {M Ma l a} hM hMa hl=>by
  refine aEnter func207 rfl ntmps207 rfl fun K C hC hK=> ?_
  repeat(refine zS ?_;intros)
  refine aL2 [0,3,4,5] (fun(k:Nat) _=>[(6,I .i64 ((k:Int) -1))]) (fun k v=>[.arr 25 1 (itl (M+(l.length -k)*(Ma+1)) v),.arr 25 1 [Bo false,nilS],.arr 25 2 [iv Ma a]]) (fun k v=>k≤l.length∧v=evI (l.drop k) a) (fun k _=>k) l.length 0 ⟨by omega,by rw[List.drop_length];rfl⟩ (entL (.cons zle .nil) zk (.cons (ob_i0 rfl) (.cons (ob_refl _) (.cons (ob_refl _) .nil)))) fun k v ⟨hk,hv⟩=> ?_
  repeat(refine zS ?_;intros)
  refine zB ?_ ?_<;>intro h
  · have hm:=QjF (a:=Ma+1) (show 0<k by omega) hk
    have hm2:(l.length -(k -1))*(Ma+1)≤l.length*(Ma+1):=Nat.mul_le_mul_right _ (by omega)
    repeat(refine zS ?_;intros)
    exact ag2 (k -1) _ ⟨by omega,Qqb (by omega) hk hv⟩ (entL (.cons zle .nil) zk (.cons (ob_i rfl (by omega)) (.cons (ob_refl _) (.cons (ob_refl _) .nil))))
  · obtain rfl:k=0:=by omega
    rw[List.drop_zero] at hv
    subst hv
    repeat(refine zS ?_;intros)
    exact aRet (rs:=[_]) rfl rfl (List.nil_sublist _) (arW0 zv 1 rfl rfl (by kernel_rfl) (le_itt (by rw[Nat.sub_zero];exact Nat.le_refl _)) arN) hK⟩
instance Qyi:TK prog 184 (∀{M:Nat}{l:List Int}(_:M≤1099511627776)(_:l.length≤1099511627776),AC prog 184 [] [pv M l] fun K=>K [] [it M (hgt l:Int)]):=⟨fun {M l} hM hl=>by
  refine aEnter func184 rfl ntmps184 rfl fun K C hC hK=> ?_
  repeat(refine zS ?_;intros)
  refine aL1 [2,3,7,8] (fun k=>[(9,N k)]) (fun k=>[.arr 25 1 (itl M (hgt (l.take k):Int)),.arr 25 1 [Bo false,nilS]]) (fun k=>k≤l.length) (fun k=>l.length -k) 0 (by omega) (entL (.cons zle .nil) zk (.cons (ob_i0 rfl) (.cons (ob_refl _) .nil))) fun k hk=> ?_
  repeat(refine zS ?_;intros)
  refine zB ?_ ?_<;>intro h
  · repeat(refine zS ?_;intros)
    refine alB 0 (by exact rfl) fun b x hb=> ?_
    have hx:(l.getD k 0).natAbs=x:=by rw[←hb,sg_abs]
    repeat(refine zS ?_;intros)
    have ht:=Qqn l (show k<l.length by omega)
    rw[show(co l k).natAbs=x from hx] at ht
    rename_i c c1 c2 c3 c4
    rw[Int.natAbs_natCast] at c1 c2
    refine zB ?_ ?_<;>intro h2<;>repeat(refine zS ?_;intros)
    · exact ag1 (k+1) (by omega) (entL (.cons zle .nil) zk (.drop (.cons (ob_i (by rw[hx];omega) (by omega)) (.cons (ob_refl _) .nil))))
    · exact ag1 (k+1) (by omega) (entL (.cons zle .nil) zk (.drop (.cons (ob_i (by omega) (by omega)) (.cons (ob_refl _) .nil))))
  · obtain rfl:k=l.length:=by omega
    rw[←List.take_length (l:=l)] at hK
    repeat(refine zS ?_;intros)
    exact aRet (rs:=[_]) rfl rfl (List.nil_sublist _) (arW0 zv 1 rfl rfl (by kernel_rfl) (le_ie (by simp) (Nat.le_refl _)) arN) hK⟩
end Go.Proofs.YtjdpemcnlejpfaaGreatDoor
