/-
  U4, U7, U5, U6, N4, D1
-/
import Derived.Test.YtjdpemcnlejpfaaGreatDoorN3
import Derived.Test.YtjdpemcnlejpfaaGreatDoorDivMath2
set_option linter.all false
namespace Go.Proofs.YtjdpemcnlejpfaaGreatDoor
open Go.RowKit Go.Gx Go.Am Tryz
instance c16:TK prog 16 (∀{l:List Int}(_:l.length≤1099511627776)(_: ∀z∈l,-9223372036854775808≤z∧z≤9223372036854775807),AC prog 16 [] [sl 1 (l.map (I .i64))] fun K=>K [] [pc 2 (Xa l)]):=⟨fun {l} hl hr=>by
  refine aEnter func16 rfl ntmps16 rfl fun K C hC hK=> ?_
  repeat(refine zS ?_;intros)
  refine aL2 [3,9,10] (fun k _=>[(11,N k)]) (fun k P=>[.arr 25 2 ((P++List.replicate (l.length -k) 0).map (it 2))]) (fun k P=>k≤l.length∧P=l.take k) (fun k _=>l.length -k) 0 [] ⟨by omega,rfl⟩ (entL (.cons zle .nil) zk (.cons (ob_it (by simp) (by omega)) .nil)) fun k P ⟨hk,hP⟩=> ?_
  have hP1:P.length=k:=by rw[hP,List.length_take];omega
  repeat(refine zS ?_;intros)
  refine zB ?_ ?_<;>intro h
  · have hz: -9223372036854775808≤l.getD k 0∧l.getD k 0≤9223372036854775807:=by
      have hk:k<l.length:=by omega
      simp only[List.getD,List.getElem?_eq_getElem hk,Option.getD_some];exact hr _ (List.getElem_mem hk)
    repeat(refine zS ?_;intros)
    exact ag2 (k+1) (P++[l.getD k 0]) ⟨by omega,by rw[hP];have :=Qdq (f:=id) (x0:=(0:Int)) (l:=l) (k:=k) (by omega);simpa using this⟩ (entL (.cons zle .nil) zk (.cons (ob_it (QfT hP1 (by omega)) (by omega)) .nil))
  · obtain rfl:k=l.length:=by omega
    repeat(refine zS ?_;intros)
    refine AL.ent (entFzS hC (s:=22) (by exact rfl) 0 (by exact rfl) lq (a:=pc 2 l) (.of_eq (by rw[hP,Nat.sub_self,List.replicate_zero,List.append_nil,List.take_length]))) ?_
    repeat(refine zS ?_;intros)
    exact aRet1 rfl zv hK (le_refl _)⟩
instance Qyr:TK prog 204 (∀{M:Nat}{l:List Int}(_:M≤1099511627776)(_:l.length≤1099511627776),AC prog 204 [] [pv M l] fun K=>K [] [pc M (Xa (Xf l (-1)))]):=⟨fun {M l} hM hl=>by
  have h1:=Xe l
  refine aEnter func204 rfl ntmps204 rfl fun K C hC hK=> ?_
  rw[←QqB] at hK
  repeat(refine zS ?_;intros)
  exact aRet1 rfl zv hK (le_pcc (by omega))⟩
instance c19:TK prog 19 (∀{M:Nat}{l:List Int}(_:l.length≤1099511627776),AC prog 19 [] [pv M l] fun K=>K [] [I .i64 (((Xa l).length:Int) -1)]):=⟨fun {M l} hl=>by
  refine aEnter func19 rfl ntmps19 rfl fun K C hC hK=> ?_
  have h1:=Xe l
  repeat(refine zS ?_;intros)
  exact aRet1 rfl zv hK (le_refl _)⟩
instance c38:TK prog 38 (∀{M:Nat}{l:List Int}(_:M≤1099511627776)(_:l.length≤1099511627776),AC prog 38 [] [pv M l] fun K=>K [] [it M (ldP l)]):=⟨fun {M l} hM hl=>by
  refine aEnter func38 rfl ntmps38 rfl fun K C hC hK=> ?_
  have h1:=Xe l
  repeat(refine zS ?_;intros)
  refine zB ?_ ?_<;>intro h<;>repeat(refine zS ?_;intros)
  · exact aRet (rs:=[_]) rfl rfl (List.nil_sublist _) (arW0 zv 0 rfl rfl (by kernel_rfl) (by rw[show ldP l=0 by unfold ldP coI;rw[if_pos (by omega)]];exact le_i0) arN) hK
  · exact aRet (rs:=[_]) rfl rfl (List.nil_sublist _) (arW0 zv 0 rfl rfl (by kernel_rfl) (le_ie (by unfold ldP coI;rw[if_neg (by omega)];show(Xa l).getD _ 0=(Xa l).getD _ 0;congr 1;omega) (Nat.le_refl _)) arN) hK⟩
instance c15:TK prog 15 (∀{M Mc:Nat}{l:List Int}{c:Int}(_:M+Mc≤1099511627776)(_:l.length≤1099511627776),AC prog 15 [] [pv M l,iv Mc c] fun K=>K [] [pc (M+Mc) (Xa (Xf l c))]):=⟨fun {M Mc l c} hM hl=>by
  refine aEnter func15 rfl ntmps15 rfl fun K C hC hK=> ?_
  iterate 7 (refine zS ?_;intros)
  refine AW.ent (entBx hC (s:=3) (by exact rfl) 0 (by exact rfl)) ?_
  repeat(refine zS ?_;intros)
  exact aRet1 rfl zv hK (le_refl _)⟩
instance c72:TK prog 72 (∀{M:Nat}{l:List Int}(_:M≤1099511627)(_:l.length≤1099511627776),AC prog 72 [] [pv M l] fun K=>K [] [pc (M+2) (Xn (Xa l))]):=⟨fun {M l} hM hl=>by
  refine aEnter func72 rfl ntmps72 rfl fun K C hC hK=> ?_
  have h1:=Xe l
  repeat(refine zS ?_;intros)
  generalize Xa l=f at *
  refine zB ?_ ?_<;>intro h<;>repeat(refine zS ?_;intros)
  · obtain rfl:f=[]:=List.eq_nil_of_length_eq_zero (by omega)
    exact aRet1 rfl zv hK le_p0
  refine aL2 [0,3,15] (fun k _=>[(16,N k)]) (fun k P=>[.arr 25 2 ((P++List.replicate (f.length -1 -k) 0).map (it (M+2)))]) (fun k P=>k≤f.length -1∧P=(List.range k).map fun i=>co f (i+1)*((i+1:Nat):Int)) (fun k _=>f.length -1 -k) 0 [] ⟨by omega,rfl⟩ (entL (.cons zle .nil) zk (.cons (ob_it (by simp) (by omega)) .nil)) fun k P ⟨hk,hP⟩=> ?_
  have hP1:P.length=k:=by rw[hP];simp
  repeat(refine zS ?_;intros)
  refine zB ?_ ?_<;>intro h2
  · repeat(refine zS ?_;intros)
    have hs2:P++[co f (k+1)*((k+1:Nat):Int)]=(List.range (k+1)).map fun i=>co f (i+1)*((i+1:Nat):Int):=by rw[hP];exact QdW
    exact ag2 (k+1) _ ⟨by omega,hs2⟩ (entL (.cons zle .nil) zk (.cons (ob_it (QfT hP1 (by omega)) (by omega)) .nil))
  · obtain rfl:k=f.length -1:=by omega
    repeat(refine zS ?_;intros)
    exact aRetO rfl hC zv 0 rfl lq hK (.of_eq (by rw[hP,Nat.sub_self,List.replicate_zero,List.append_nil];rfl))⟩
instance c63:TK prog 63 (∀{M M':Nat}{f g:List Int}(_:f.length≤1099511627776)(_:g.length≤1099511627776),AC prog 63 [] [pv M f,pv M' g] fun K=>K [] [I .i64 (Qbv (Xa f) (Xa g))]):=⟨fun {M M' f g} hf hg=>by
  refine aEnter func63 rfl ntmps63 rfl fun K C hC hK=> ?_
  have h1:=Xe f
  have h2:=Xe g
  repeat(refine zS ?_;intros)
  generalize Xa f=f at *
  generalize Xa g=g at *
  refine zB ?_ ?_<;>intro h<;>repeat(refine zS ?_;intros)
  · exact aRet1 rfl zv hK (leI (QmJ (by omega)))
  refine zB ?_ ?_<;>intro h'<;>repeat(refine zS ?_;intros)
  · exact aRet1 rfl zv hK (leI (QmI (by omega)))
  rw[QmH (by omega) rfl] at hK
  refine aL1 [0,1] (fun(k:Nat)=>[(5,I .i64 ((k:Int) -1))]) (fun _=>[]) (fun k=>k≤f.length∧YT f g f.length=YT f g k) (fun k=>k) f.length ⟨by omega,rfl⟩ (entL (.cons zle .nil) zk .nil) fun k ⟨hk,hc⟩=> ?_
  repeat(refine zS ?_;intros)
  refine zB ?_ ?_<;>intro h3
  · repeat(refine zS ?_;intros)
    rename_i c c1 c2 c3 c4 c5
    refine zB ?_ ?_<;>intro h4<;>repeat(refine zS ?_;intros)
    · have e:=QcA hc (by omega) (fun e=>h4 (c3.2 e))
      have :=Zi (co f (k -1)) (co g (k -1))
      exact aRet1 rfl zv hK (leI (by rw[e];show c=Qru (f.getD (k -1) 0) (g.getD (k -1) 0);have :=Zi (f.getD (k -1) 0) (g.getD (k -1) 0);omega))
    · exact ag1 (k -1) ⟨by omega,QeS hc (by omega) (c3.1 (by omega))⟩ (entL (.cons zle .nil) zk .nil)
  · obtain rfl:k=0:=by omega
    repeat(refine zS ?_;intros)
    exact aRet1 rfl zv hK (leI (by rw[hc];rfl))⟩
instance c30:TK prog 30 (∀{M M':Nat}{f g:List Int}(_:f.length≤1099511627776)(_:g.length≤1099511627776),AC prog 30 [] [pv M f,pv M' g] fun K=>K [] [Bo (decide (Xa f=Xa g))]):=⟨fun {M M' f g} hf hg=>by
  refine aEnter func30 rfl ntmps30 rfl fun K C hC hK=> ?_
  repeat(refine zS ?_;intros)
  exact aRet1 rfl zv hK (.of_eq (congrArg Bo (Qq2 rfl)))⟩
end Go.Proofs.YtjdpemcnlejpfaaGreatDoor
namespace Go.Proofs.YtjdpemcnlejpfaaGreatDoor
open Go.RowKit Go.Gx Go.Am Tryz
theorem Qlo(c:Int): ∀(l:List Int)(i:Nat),l.length≤i→tay c l i=0
  | [],_,_=>by unfold tay;rfl
  |a::l,0,h=>by simp at h
  |a::l,i+1,h=>by
    simp only[List.length_cons] at h
    rw[QdD,Qlo c l (i+1) (by omega),Qlo c l i (by omega)];simp
theorem Qpb(c:Int): ∀(l:List Int),l.length≠0→tay c l (l.length -1)=co l (l.length -1)
  | [],h=>absurd rfl h
  | [a],_=>by show a+c*tay c [] 0=a;rw[Qlo c [] 0 (by simp)];simp
  |a::b::l,_=>by
    show tay c (a::b::l) (l.length+1)=co (a::b::l) (l.length+1)
    rw[QdD,Qlo c (b::l) (l.length+1) (by simp)]
    have :=Qpb c (b::l) (by simp)
    simp only[List.length_cons,Nat.add_sub_cancel] at this
    rw[this];simp [co]
set_option maxHeartbeats 1000000 in
instance c31:TK prog 31 (∀{M Mc:Nat}{l:List Int}{c:Int}(_:l.length≤1024)(_:M≤1099511)(_:Mc≤65535),AC prog 31 [] [pv M l,iv Mc c] fun K=>K [] [pc (M+l.length*l.length*(Mc+1)) (Xa (Yw [c,1] l))]):=⟨fun {M Mc l c} hl hM hMc=>by
  refine aEnter func31 rfl ntmps31 rfl fun K C hC hK=> ?_
  have h1:=Xe l
  have own:=QaG (M:=M) (l:=l) (by omega) (by omega)
  iterate 9 (refine zS ?_;intros)
  rename_i g3
  refine alO (zcallX own) zg fun g=> ?_
  repeat(refine zS ?_;intros)
  have hcn:Canon ZM (Xa l):=Xs ZM l
  generalize hF:Xa l=F at *
  have hsq:F.length*F.length≤l.length*l.length:=Nat.mul_le_mul h1 h1
  have hB: ∀s,s≤F.length*F.length→s*(Mc+1)≤l.length*l.length*(Mc+1):=fun s hs=>Nat.mul_le_mul_right _ (by omega)
  have hB2:l.length*l.length*(Mc+1)≤1048576*65536:=Nat.mul_le_mul (Nat.mul_le_mul hl hl) (by omega)
  refine aL2 [3,5] (fun k _=>[(6,N k)]) (fun k L=>[.arr 25 2 (L.map (it (M+k*F.length*(Mc+1)))),.arr 25 2 [iv Mc c]]) (fun k L=>k≤F.length∧L.length=F.length∧ ∀j,tay c F j=if j<k then co L j else tay c (L.drop k) (j -k)) (fun k _=>F.length -k) 0 F ⟨by omega,rfl,QjW rfl⟩ (entL (.cons zle .nil) zk (.cons (ob_it rfl (by omega)) (.cons (ob_refl _) .nil))) fun k L0 ⟨hk,hL0,ht⟩=> ?_
  repeat(refine zS ?_;intros)
  refine zB ?_ ?_<;>intro h
  · repeat(refine zS ?_;intros)
    have hkn:k*F.length+F.length≤F.length*F.length:=by rw[←Nat.succ_mul];exact Nat.mul_le_mul_right _ (by omega)
    refine aL2 [3,5,6] (fun(i:Nat) _=>[(7,I .i64 ((i:Int) -1))]) (fun i L=>[.arr 25 2 (L.map (it (M+(k*F.length+(F.length -1 -i))*(Mc+1)))),.arr 25 2 [iv Mc c]]) (fun i L=>k≤i∧i≤F.length -1∧L.length=L0.length∧L.take i=L0.take i∧L.drop i=syn c (L0.drop i)) (fun i _=>i) (F.length -1) L0 ⟨by omega,by omega,rfl,rfl,Qud (by omega)⟩ (entL (.cons zle .nil) zk (.cons (ob_it rfl (by rw[Nat.sub_self,Nat.add_zero];exact Nat.le_refl _)) (.cons (ob_refl _) .nil))) fun i L ⟨hi,hi2,hL,htk,hdr⟩=> ?_
    repeat(refine zS ?_;intros)
    refine zB ?_ ?_<;>intro h2
    · obtain⟨m,rfl⟩: ∃m,i=m+1:=⟨i -1,by omega⟩
      refine AW.ent (entSub (s:=7) (a:=N m) leI) ?_
      have hst:=Qrk (c:=c) (z:=L.getD m 0+c*L.getD (m+1) 0) (show m<L0.length by omega) hL htk hdr rfl
      have hs:=hB (k*F.length+(F.length -1 -m)) (by omega)
      have he:(k*F.length+(F.length -1 -m))*(Mc+1)=(k*F.length+(F.length -1 -(m+1)))*(Mc+1)+(Mc+1):=by rw[←Nat.succ_mul];congr 1;omega
      repeat(refine zS ?_;intros)
      exact ag2 m (L.set m (L.getD m 0+c*L.getD (m+1) 0)) ⟨by omega,by omega,by rw[List.length_set,hL],hst⟩ (entL (.cons zle .nil) zk (.cons (ob_it rfl (by omega)) (.cons (ob_refl _) .nil)))
    · obtain rfl:i=k:=by omega
      have hrd:=QjV ht htk hdr
      repeat(refine zS ?_;intros)
      exact ag2 (i+1) L ⟨by omega,by omega,hrd⟩ (entL (.cons zle .nil) zk (.cons (ob_it rfl (by have :(i*F.length+(F.length -1 -i))*(Mc+1)≤(i+1)*F.length*(Mc+1):=Nat.mul_le_mul_right _ (by rw[Nat.succ_mul];omega);omega)) (.cons (ob_refl _) .nil)))
  · have hfin:=QoU ht (by omega)
    repeat(refine zS ?_;intros)
    have hc0:Canon ZM L0:=ZF (by
      by_cases h0:F.length=0
      · exact .inl (by omega)
      · exact .inr (by rw[hfin,hL0,Qpb c F h0];exact YG hcn h0))
    have hres:=QoV (c:=c) (F:=l) (R:=L0) (fun j=>by rw[hF];exact hfin j) hc0
    exact aRetO rfl hC zv 0 rfl lq hK (by rw[←hres];exact le_pcc (by have :=hB (k*F.length) (Nat.mul_le_mul_right _ hk);omega))⟩
end Go.Proofs.YtjdpemcnlejpfaaGreatDoor
namespace Go.Proofs.YtjdpemcnlejpfaaGreatDoor
open Go.RowKit Go.Gx Go.Am Tryz
theorem Qqb{l:List Int}{k:Nat}{a v:Int}(hk:0<k)(hl:k≤l.length)(h:v=evI (l.drop k) a):v*a+l.getD (k -1) 0=evI (l.drop (k -1)) a:=by
  have hk1:k -1<l.length:=by omega
  rw[List.drop_eq_getElem_cons hk1,show k -1+1=k by omega,evI,←h]
  simp only[List.getD,List.getElem?_eq_getElem hk1,Option.getD_some]
  rw[Int.mul_comm];omega
theorem QjF{n k a:Nat}(hk:0<k)(hl:k≤n):(n -k)*a+a=(n -(k -1))*a:=by rw[←Nat.succ_mul];congr 1;omega
instance Qw1:TK prog 207 (∀{M Ma:Nat}{l:List Int}{a:Int}(_:M+l.length*(Ma+1)≤1099511)(_:Ma≤1099511)(_:l.length≤1099511627776),AC prog 207 [] [pv M l,iv Ma a] fun K=>K [] [it (M+l.length*(Ma+1)) (evI l a)]):=⟨fun {M Ma l a} hM hMa hl=>by
  refine aEnter func207 rfl ntmps207 rfl fun K C hC hK=> ?_
  repeat(refine zS ?_;intros)
  refine aL2 [0,3,4,5] (fun(k:Nat) _=>[(6,I .i64 ((k:Int) -1))]) (fun k v=>[.arr 25 1 (itl (M+(l.length -k)*(Ma+1)) v),.arr 25 1 [Bo false,nilS],.arr 25 2 [iv Ma a]]) (fun k v=>k≤l.length∧v=evI (l.drop k) a) (fun k _=>k) l.length 0 ⟨by omega,by rw[List.drop_length];rfl⟩ (entL (.cons zle .nil) zk (.cons (ob_i0 rfl) (.cons (ob_refl _) (.cons (ob_refl _) .nil)))) fun k v ⟨hk,hv⟩=> ?_
  repeat(refine zS ?_;intros)
  refine zB ?_ ?_<;>intro h
  · have hm:=QjF (a:=Ma+1) (show 0<k by omega) hk
    have hm2:(l.length -(k -1))*(Ma+1)≤l.length*(Ma+1):=Nat.mul_le_mul_right _ (by omega)
    repeat(refine zS ?_;intros)
    exact ag2 (k -1) _ ⟨by omega,Qqb (by omega) hk hv⟩ (entL (.cons zle .nil) zk (.cons (ob_i rfl (by omega)) (.cons (ob_refl _) (.cons (ob_refl _) .nil))))
  · obtain rfl:k=0:=by omega
    rw[List.drop_zero] at hv
    subst hv
    repeat(refine zS ?_;intros)
    exact aRet (rs:=[_]) rfl rfl (List.nil_sublist _) (arW0 zv 1 rfl rfl (by kernel_rfl) (le_itt (by rw[Nat.sub_zero];exact Nat.le_refl _)) arN) hK⟩
instance Qyi:TK prog 184 (∀{M:Nat}{l:List Int}(_:M≤1099511627776)(_:l.length≤1099511627776),AC prog 184 [] [pv M l] fun K=>K [] [it M (hgt l:Int)]):=⟨fun {M l} hM hl=>by
  refine aEnter func184 rfl ntmps184 rfl fun K C hC hK=> ?_
  repeat(refine zS ?_;intros)
  refine aL1 [2,3,7,8] (fun k=>[(9,N k)]) (fun k=>[.arr 25 1 (itl M (hgt (l.take k):Int)),.arr 25 1 [Bo false,nilS]]) (fun k=>k≤l.length) (fun k=>l.length -k) 0 (by omega) (entL (.cons zle .nil) zk (.cons (ob_i0 rfl) (.cons (ob_refl _) .nil))) fun k hk=> ?_
  repeat(refine zS ?_;intros)
  refine zB ?_ ?_<;>intro h
  · repeat(refine zS ?_;intros)
    refine alB 0 (by exact rfl) fun b x hb=> ?_
    have hx:(l.getD k 0).natAbs=x:=by rw[←hb,sg_abs]
    repeat(refine zS ?_;intros)
    have ht:=Qqn l (show k<l.length by omega)
    rw[show(co l k).natAbs=x from hx] at ht
    rename_i c c1 c2 c3 c4
    rw[Int.natAbs_natCast] at c1 c2
    refine zB ?_ ?_<;>intro h2<;>repeat(refine zS ?_;intros)
    · exact ag1 (k+1) (by omega) (entL (.cons zle .nil) zk (.drop (.cons (ob_i (by rw[hx];omega) (by omega)) (.cons (ob_refl _) .nil))))
    · exact ag1 (k+1) (by omega) (entL (.cons zle .nil) zk (.drop (.cons (ob_i (by omega) (by omega)) (.cons (ob_refl _) .nil))))
  · obtain rfl:k=l.length:=by omega
    rw[←List.take_length (l:=l)] at hK
    repeat(refine zS ?_;intros)
    exact aRet (rs:=[_]) rfl rfl (List.nil_sublist _) (arW0 zv 1 rfl rfl (by kernel_rfl) (le_ie (by simp) (Nat.le_refl _)) arN) hK⟩
end Go.Proofs.YtjdpemcnlejpfaaGreatDoor
namespace Go.Proofs.YtjdpemcnlejpfaaGreatDoor
open Go.RowKit Go.Gx Go.Am Tryz
theorem Qtk{a b M L:Nat}(hb:1≤b):(a*M+a*a*(L+2)+3)+(b*M+b*b*(L+1))+(a*L+1)≤(a+b)*M+(a+b)*(a+b)*(L+2)+3:=by
  obtain⟨c,rfl⟩: ∃c,b=c+1:=⟨b -1,by omega⟩;grind
theorem Qtl{b M L:Nat}(hb:1≤b):(b*M+b*b*(L+1))+(b*M+b*b*(L+1))+(b*L+1)≤(2*b)*M+(2*b)*(2*b)*(L+1):=by
  obtain⟨c,rfl⟩: ∃c,b=c+1:=⟨b -1,by omega⟩;grind
theorem Qvy{a n M L:Nat}(h:a≤n):a*M+a*a*(L+2)+3≤n*M+n*n*(L+2)+3:=by
  have h1:=Nat.mul_le_mul_right M h
  have h2:=Nat.mul_le_mul_right (L+2) (Nat.mul_le_mul h h)
  omega
theorem QwG{a n M L:Nat}(h:a≤n):a*M+a*a*(L+1)≤n*M+n*n*(L+2):=by
  have h1:=Nat.mul_le_mul_right M h
  have h2:=Nat.mul_le_mul (Nat.mul_le_mul h h) (show L+1≤L+2 by omega)
  omega
theorem QuC{a n L:Nat}(h:a≤n):a*L≤n*n*(L+2):=by
  refine Nat.mul_le_mul ?_ (by omega)
  rcases Nat.eq_zero_or_pos n with h0|h0
  · omega
  · have :=Nat.mul_le_mul_right n h0;omega
theorem Qr1{R S:List Int}{x y:Nat}(hR:R.length≤x+1)(hS:S.length≤y+1):(Xa (Xg R S)).length≤x+y+1:=by
  have h1:=Xe (Xg R S)
  by_cases h:R.length=0∨S.length=0
  · have :Xg R S=[]:=by unfold Xg;rw[if_pos h]
    have h0:(Xa ([]:List Int)).length=0:=rfl
    rw[this];omega
  · have :=Yo (f:=R) (g:=S) (by omega) (by omega);omega
set_option maxHeartbeats 1000000 in
instance c40:TK prog 40 (∀{M L n:Nat}{l:List Int}(_:(Xa l).length≤L+1)(_:2*(n*M)+4*(n*n*(L+2))+3≤10995116)(_:n≤1099511)(_:M≤1099511)(_:l.length≤1099511),AC prog 40 [] [pv M l,N n] fun K=>K [] [pc (n*M+n*n*(L+2)+3) (Xa (Zk l n))]):=⟨fun {M L n l} hL hM hn hM1 hl=>by
  refine aEnter func40 rfl ntmps40 rfl fun K C hC hK=> ?_
  have h1:=Xe l
  have h2:=Xe [(1:Int)]
  have hh: ∀z∈[(1:Int)],-9223372036854775808≤z∧z≤9223372036854775807:=by intro z hz;simp at hz;omega
  have hh0:([(1:Int)]).length≤1099511627776:=by simp
  repeat(refine zS ?_;intros)
  refine aL5 [] (fun u a b R S=>[(1,N u),(5,pc (a*M+a*a*(L+2)+3) R),(6,pc (b*M+b*b*(L+1)) S)]) (fun _ _ _ _ _=>[]) (fun u a b R S=>(u=0∨a+u*b=n)∧a≤n∧1≤b∧(u=0∨b≤n)∧R.length≤a*L+1∧S.length≤b*L+1∧Canon ZM R∧Xa (Xg R (Zk S u))=Xa (Zk l n)) (fun u _ _ _ _=>u) n 0 1 (Xa [1]) (Xa l) ⟨by omega,by omega,by omega,by omega,by rw[Qrm];simp,by omega,Xs _ _,QqL l n⟩ (entL (.cons zle (.cons zle (.cons zle .nil))) zk .nil) fun u a b R S ⟨hu,ha,hb,hbn,hR,hS,hc,hp⟩=> ?_
  repeat(refine zS ?_;intros)
  refine zB ?_ ?_<;>intro h
  · have hub:a+u*b=n:=hu.resolve_left (by omega)
    have hbn:b≤n:=hbn.resolve_left (by omega)
    have e1:=Qvy (M:=M) (L:=L) ha
    have e2:=QwG (M:=M) (L:=L) hbn
    have e3:=QuC (L:=L) ha
    have e4:=QuC (L:=L) hbn
    have e5:=Qtk (a:=a) (M:=M) (L:=L) hb
    have e6:=Qtl (M:=M) (L:=L) hb
    have e7:=Qr1 hR hS
    have e8:=Qr1 hS hS
    have e9:(a+b)*L=a*L+b*L:=Nat.add_mul ..
    have e10:2*b*L=b*L+b*L:=by rw[Nat.mul_assoc];omega
    have e15:u≤u*b:=Nat.le_mul_of_pos_right u hb
    have e11:b≤u*b:=Nat.le_mul_of_pos_left b (by omega)
    have e12:u*b=u/2*(2*b)+u % 2*b:=by
      conv=>lhs;rw[←Nat.div_add_mod u 2,Nat.add_mul,Nat.mul_comm 2,Nat.mul_assoc]
    repeat(refine zS ?_;intros)
    refine zB ?_ ?_<;>intro h1
    · have e13:u % 2=1:=by omega
      rw[e13,Nat.one_mul] at e12
      repeat(refine zS ?_;intros)
      refine zB ?_ ?_<;>intro h3<;>repeat(refine zS ?_;intros)
      · have e14:2*b≤u/2*(2*b):=Nat.le_mul_of_pos_left _ (by omega)
        exact ag5 (u/2) (a+b) (2*b) (Xa (Xg R S)) (Xa (Xg S S)) ⟨.inr (by omega),by omega,by omega,.inr (by omega),by omega,by omega,Xs _ _,QqN hp (by omega) rfl rfl⟩ (entL (.cons zle (.cons (le_pcc (by omega)) (.cons (le_pcc (by omega)) .nil))) zk .nil)
      · exact ag5 0 (a+b) b (Xa (Xg R S)) S ⟨.inl rfl,by omega,hb,.inl rfl,by omega,hS,Xs _ _,QqM hp (by omega) rfl rfl⟩ (entL (.cons zle (.cons (le_pcc (by omega)) (.cons zle .nil))) zk .nil)
    · have e13:u % 2=0:=by omega
      rw[e13,Nat.zero_mul] at e12
      have e14:2*b≤u/2*(2*b):=Nat.le_mul_of_pos_left _ (by omega)
      repeat(refine zS ?_;intros)
      exact ag5 (u/2) a (2*b) R (Xa (Xg S S)) ⟨.inr (by omega),by omega,by omega,.inr (by omega),by omega,by omega,hc,Qor hp (by omega) rfl⟩ (entL (.cons zle (.cons zle (.cons (le_pcc (by omega)) .nil))) zk .nil)
  · have e1:=Qvy (M:=M) (L:=L) ha
    repeat(refine zS ?_;intros)
    exact aRet1 rfl zv hK (by rw[pow_end hp (by omega) hc];exact le_pcc e1)⟩
end Go.Proofs.YtjdpemcnlejpfaaGreatDoor
namespace Go.Proofs.YtjdpemcnlejpfaaGreatDoor
open Go.RowKit Go.Gx Go.Am Tryz
instance QyK:TK prog 239 (∀{M x n:Nat}(_:M≤549755813888)(_:n≤9223372036854775807),AC prog 239 [] [num M x,N n] fun K=>K [] [cnum M (x/2^n)]):=⟨fun {M x n} hM hn=>by
  refine aEnter func239 rfl ntmps239 rfl fun K C hC hK=> ?_
  repeat(refine zS ?_;intros)
  rename_i a a1 a2 a3 a4 _
  have e2:=List.length_drop (i:=n/32) (l:=a)
  refine zB ?_ ?_<;>intro h0<;>repeat(refine zS ?_;intros)
  · exact aRet1 rfl zv hK (by rw[←a3,←Qq9 (n:=n) a2 rfl (w:=n/32) (by omega) (by omega)];exact nil_cn)
  have t2: ∀d∈a.drop (n/32),d<BS:=fun d hd=>a2 d (List.mem_of_mem_drop hd)
  refine aL2 [0,6,7,8,31,32] (fun k _=>[(33,N k)]) (fun k P=>[.arr 46 1 ((P++List.replicate ((a.drop (n/32)).length -k) 0).map U)]) (fun k P=>k≤(a.drop (n/32)).length∧P.length=k∧(∀d∈P,d<BS)∧val P=val (a.drop (n/32))/2^ (n % 32) % BS^k) (fun k _=>(a.drop (n/32)).length -k) 0 [] ⟨by omega,rfl,by simp,by simp [val,Nat.mod_one]⟩ (entL (.cons zle .nil) zk (.cons (ob_raw (by simp)) .nil)) fun k P ⟨hk,hP,lP,hv⟩=> ?_
  repeat(refine zS ?_;intros)
  refine zB ?_ ?_<;>intro h
  · have h1:=dlt (i:=k) t2
    have h2:=dlt (i:=k+1) t2
    repeat(refine zS ?_;intros)
    refine zB ?_ ?_<;>intro h3<;>repeat(refine zS ?_;intros)
    · exact ag2 (k+1) (P++[((a.drop (n/32)).getD k 0+(a.drop (n/32)).getD (k+1) 0*2^32)/2^ (n % 32) % 4294967296]) ⟨by omega,by simp [hP],YL lP (Nat.mod_lt _ (by omega)),Qlb t2 (by omega) hv hP (by rw[show(2:Nat)^32=4294967296 from rfl])⟩ (entL (.cons zle .nil) zk (.cons (ob_raw (ZJ hP (by omega))) .nil))
    · exact ag2 (k+1) (P++[(a.drop (n/32)).getD k 0/2^ (n % 32) % 4294967296]) ⟨by omega,by simp [hP],YL lP (Nat.mod_lt _ (by omega)),Qlb t2 (by omega) hv hP (by rw[QaR (ds:=a.drop (n/32)) (n:=(a.drop (n/32)).length) (Nat.le_refl _) (k+1) (by omega),Nat.zero_mul,Nat.add_zero])⟩ (entL (.cons zle .nil) zk (.cons (ob_raw (ZJ hP (by omega))) .nil))
  · obtain rfl:k=(a.drop (n/32)).length:=by omega
    repeat(refine zS ?_;intros)
    refine AL.ent (entFzS hC (s:=62) (by exact rfl) 0 (by exact rfl) lq (a:=num M (x/2^n)) (raw_num (by simp [hP];omega) (QcK lP) (by rw[←a3];exact QtV a2 rfl hv (Nat.le_refl _) (by omega)))) ?_
    repeat(refine zS ?_;intros)
    rename_i r r1 r2 r3 r4
    exact aRet1 rfl zv hK (raw_cn r1 r2 r3 r4)⟩
end Go.Proofs.YtjdpemcnlejpfaaGreatDoor
namespace Go.Proofs.YtjdpemcnlejpfaaGreatDoor
open Go.RowKit Go.Gx Go.Am Tryz
set_option maxHeartbeats 1000000 in
instance QyH:TK prog 236 (∀{a b c d e:Nat}(_:a≤d)(_:0<d)(_:b<4294967296)(_:c<4294967296)(_:d<4294967296)(_:e<4294967296),AC prog 236 [] [U a,U b,U c,U d,U e] fun K=> ∀r,r*Qgi d e≤Qgh a b c→Qlu a b c d e r→r<4294967296→K [] [U r]):=⟨fun {a b c d e} hle hd hb hc hd2 he=>by
  refine aEnter func236 rfl ntmps236 rfl fun K C hC hK=> ?_
  repeat(refine zS ?_;intros)
  refine aJ3 [2,3,4] (fun g r o=>[(11,U g),(12,U r),(13,U o)]) (fun _ _ _=>[]) (fun g r o=>Qdx a b d g (r+4294967296*o)∧Qlu a b c d e g∧o≤1∧r<4294967296∧g<4294967296) ?_ ?_
  · refine zB ?_ ?_<;>intro h<;>repeat(refine zS ?_;intros)
    · rename_i s o e1 e2 e3
      exact jd3 4294967295 s o ⟨Qdx.start1 (by omega) e1,Qlu.start1 _ _ _ _ _,e2,e3,by omega⟩ (entL (.cons zle (.cons zle (.cons zle .nil))) zk .nil)
    · rename_i q m e1 e2 e3
      exact jd3 q m 0 ⟨Qdx.start2 e1,Qlu.start2 e1 e2 hc,by omega,by omega,e3⟩ (entL (.cons zle (.cons zle (.cons zle .nil))) zk .nil)
  rintro g r o ⟨hI,hM,ho,hr,hg⟩
  repeat(refine zS ?_;intros)
  refine aL3 [2,3,4] (fun g r o=>[(11,U g),(12,U r),(13,U o)]) (fun _ _ _=>[]) (fun g r o=>Qdx a b d g (r+4294967296*o)∧Qlu a b c d e g∧o≤1∧r<4294967296∧g<4294967296) (fun g _ _=>g) g r o ⟨hI,hM,ho,hr,hg⟩ (entL (.cons zle (.cons zle (.cons zle .nil))) zk .nil) fun g r o ⟨hI,hM,ho,hr,hg⟩=> ?_
  repeat(refine zS ?_;intros)
  refine zB ?_ ?_<;>intro h
  · repeat(refine zS ?_;intros)
    rename_i h l e1 e2 e3
    have yes:=fun ht=>hK g (QsR (c:=c) hI (by omega) e1 e2 hc ht) hM hg
    have no:=fun ht=>QsQ (c:=c) hI (by omega) e1 e2 hc ht
    have pos:h<r∨h=r∧l≤c∨0<g:=by
      by_cases ht:h<r∨h=r∧l≤c
      · omega
      · have :=QsS (no ht);omega
    repeat' (first | (refine zS ?_;intros)| (refine zB ?_ ?_<;>intro))
    · exact aRet1 rfl zv (yes (by omega)) zle
    · exact aRet1 rfl zv (yes (by omega)) zle
    · rename_i s c' f1 f2 f3
      exact ag3 (g -1) s c' ⟨hI.next0 (by omega) (by omega) (by omega),hM.next (no (by omega)),f2,f3,by omega⟩ (entL (.cons zle (.cons zle (.cons zle .nil))) zk .nil)
    · rename_i s c' f1 f2 f3
      exact ag3 (g -1) s c' ⟨hI.next0 (by omega) (by omega) (by omega),hM.next (no (by omega)),f2,f3,by omega⟩ (entL (.cons zle (.cons zle (.cons zle .nil))) zk .nil)
  · repeat(refine zS ?_;intros)
    exact aRet1 rfl zv (hK g (Qnh hI (by omega) hg he) hM hg) zle⟩
instance QyI:TK prog 237 (∀{g k c d:Nat}{V Z v:List Nat}(_:k=v.length+1)(_:k≤Z.length)(_:v.length≤1099511627776)(_:d<4294967296)(_: ∀d∈V++Z,d<BS) (_: ∀d∈v,d<BS),AC prog 237 [(some g,.arr 46 1 ((V++Z).map U))] [lsl 1 g V.length k c,raw v,U d] fun K=> ∀R bo,R.length=k→(∀d∈R,d<BS)→bo≤1→val R+d*val v=val (Z.take k)+BS^k*bo→K [(some g,.arr 46 1 ((V++(R++Z.drop k)).map U))] [Bo (decide (bo≠0))]):=⟨fun {g k c d V Z v} hk hZ hv40 hd hA hv=>by
  subst hk
  refine aEnterF func237 rfl ntmps237 rfl fun K C hC hK=> ?_
  repeat(refine zS ?_;intros)
  refine aL4 [0,1,2,15,16] (fun k _ b c=>[(17,N k),(8,U b),(7,U c)]) (fun k P _ _=>[.arr 46 1 ((V++(P++Z.drop k)).map U)]) (fun k P b c=>k≤v.length∧P.length=k∧(∀d∈P,d<BS)∧b≤1∧c<4294967296∧val P+d*val (v.take k)=val (Z.take k)+BS^k*(b+c)) (fun k _ _ _=>v.length -k) 0 [] 0 0 ⟨by omega,rfl,by simp,by omega,by omega,by simp [val]⟩ (entL (.cons zle (.cons zle (.cons zle .nil))) zk (.cons (ob_raw (by simp)) .nil)) fun k P b c ⟨hk,hP,hlt,hb,hc,hw⟩=> ?_
  repeat(refine zS ?_;intros)
  have hq:=Qhy (U:=V) rfl hP (show k<Z.length by omega) (t:=V.length+k) rfl
  have hq2:=dlt (i:=k) (Qey hA)
  refine zB ?_ ?_<;>intro h
  · have hq3:=Qch (dlt (i:=k) hv) hd
    have hcm:=Nat.mul_comm d (v.getD k 0)
    repeat(refine zS ?_;intros)
    rename_i m l e1 e2 e3 s c' f1 f2 f3 s' b' g1 g2 g3
    exact ag4 (k+1) (P++[s']) b' (m+c') ⟨by omega,by simp [hP],YL hlt g3,g2,by omega,QoZ hw hP (by omega)⟩ (entL (.cons zle (.cons zle (.cons zle .nil))) zk (.cons (ob_raw (QdV rfl hP (by omega) rfl)) .nil))
  · obtain rfl:k=v.length:=by omega
    repeat(refine zS ?_;intros)
    rename_i s' b' g1 g2 g3
    refine AX.ent (entH (.cons (ob_raw (QdV rfl hP (by omega) rfl)) .nil)) ?_
    exact aRet (rs:=[_]) rfl rfl (.refl _) zr (hK (P++[s']) b' (by simp [hP]) (YL hlt g3) g2 (QtX hw hP (Nat.le_refl _) (by omega)))⟩
instance QyJ:TK prog 238 (∀{g k c:Nat}{V Z v:List Nat}(_:k=v.length+1)(_:k≤Z.length)(_:v.length≤1099511627776)(_: ∀d∈V++Z,d<BS) (_: ∀d∈v,d<BS),AC prog 238 [(some g,.arr 46 1 ((V++Z).map U))] [lsl 1 g V.length k c,raw v] fun K=> ∀R cr,R.length=k→(∀d∈R,d<BS)→val R+BS^k*cr=val (Z.take k)+val v→K [(some g,.arr 46 1 ((V++(R++Z.drop k)).map U))] []):=⟨fun {g k c V Z v} hk hZ hv40 hA hv=>by
  subst hk
  refine aEnterF func238 rfl ntmps238 rfl fun K C hC hK=> ?_
  repeat(refine zS ?_;intros)
  refine aL3 [0,1,7,8] (fun k _ c=>[(9,N k),(4,U c)]) (fun k P _=>[.arr 46 1 ((V++(P++Z.drop k)).map U)]) (fun k P c=>k≤v.length∧P.length=k∧(∀d∈P,d<BS)∧c≤1∧val P+BS^k*c=val (Z.take k)+val (v.take k)) (fun k _ _=>v.length -k) 0 [] 0 ⟨by omega,rfl,by simp,by omega,by simp [val]⟩ (entL (.cons zle (.cons zle .nil)) zk (.cons (ob_raw (by simp)) .nil)) fun k P c ⟨hk,hP,hlt,hc,hw⟩=> ?_
  repeat(refine zS ?_;intros)
  have hq:=Qhy (U:=V) rfl hP (show k<Z.length by omega) (t:=V.length+k) rfl
  have hq2:=dlt (i:=k) (Qey hA)
  refine zB ?_ ?_<;>intro h
  · have hq3:=dlt (i:=k) hv
    repeat(refine zS ?_;intros)
    rename_i s b g1 g2 g3
    exact ag3 (k+1) (P++[s]) b ⟨by omega,by simp [hP],YL hlt g3,g2,Qcb hw hP (by omega)⟩ (entL (.cons zle (.cons zle .nil)) zk (.cons (ob_raw (QdV rfl hP (by omega) rfl)) .nil))
  · obtain rfl:k=v.length:=by omega
    have hd0:v.getD v.length 0=0:=QaR (n:=v.length) (Nat.le_refl _) _ (Nat.le_refl _)
    repeat(refine zS ?_;intros)
    rw[hq]
    refine AX.ent (entH (.cons (ob_raw (QdV rfl hP (by omega) rfl)) .nil)) ?_
    exact aEnd (rs:=[]) rfl rfl (.refl _) zr (hK (P++[_]) ((Z.getD v.length 0+c)/4294967296) (by simp [hP]) (YL hlt (Nat.mod_lt _ (by omega))) (by have :=Qcb (s:=(Z.getD v.length 0+c) % 4294967296) (c':=(Z.getD v.length 0+c)/4294967296) hw hP (by omega);rwa [Yh v (show v.length≤v.length+1 by omega)] at this))⟩
end Go.Proofs.YtjdpemcnlejpfaaGreatDoor
