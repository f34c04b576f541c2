/-
  U4, U5, Q1, U7, U6, V1, V2
-/
import Derived.Test.YtjdpemcnlejpfaaGreatDoorD2
import Derived.Test.YtjdpemcnlejpfaaGreatDoorDivMath2
set_option linter.all false
namespace Go.Proofs.YtjdpemcnlejpfaaGreatDoor
open Go.RowKit Go.Gx Go.Am Tryz
instance c16:TK prog 16 (∀{l:List Int}(_:l.length≤1099511627776)(_: ∀z∈l,-9223372036854775808≤z∧z≤9223372036854775807),AC prog 16 [] [sl 1 (l.map (I .i64))] fun K=>K [] [pc 2 (Xa l)]):=⟨fun {l} hl hr=>by
  refine aEnter func16 rfl ntmps16 rfl fun K C hC hK=> ?_
  repeat(refine zS ?_;intros)
  refine aL2 [3,9,10] (fun k _=>[(11,N k)]) (fun k P=>[.arr 25 2 ((P++List.replicate (l.length -k) 0).map (it 2))]) (fun k P=>k≤l.length∧P=l.take k) (fun k _=>l.length -k) 0 [] ⟨by omega,rfl⟩ (entL (.cons zle .nil) zk (.cons (ob_it (by simp) (by omega)) .nil)) fun k P ⟨hk,hP⟩=> ?_
  have hP1:P.length=k:=by rw[hP,List.length_take];omega
  repeat(refine zS ?_;intros)
  refine zB ?_ ?_<;>intro h
  · have hz: -9223372036854775808≤l.getD k 0∧l.getD k 0≤9223372036854775807:=by
      have hk:k<l.length:=by omega
      simp only[List.getD,List.getElem?_eq_getElem hk,Option.getD_some];exact hr _ (List.getElem_mem hk)
    repeat(refine zS ?_;intros)
    exact ag2 (k+1) (P++[l.getD k 0]) ⟨by omega,by rw[hP];have :=Qdq (f:=id) (x0:=(0:Int)) (l:=l) (k:=k) (by omega);simpa using this⟩ (entL (.cons zle .nil) zk (.cons (ob_it (QfT hP1 (by omega)) (by omega)) .nil))
  · obtain rfl:k=l.length:=by omega
    repeat(refine zS ?_;intros)
    refine AL.ent (entFzS hC (s:=22) (by exact rfl) 0 (by exact rfl) lq (a:=pc 2 l) (.of_eq (by rw[hP,Nat.sub_self,List.replicate_zero,List.append_nil,List.take_length]))) ?_
    repeat(refine zS ?_;intros)
    exact aRet1 rfl zv hK (le_refl _)⟩
instance Qyr:TK prog 204 (∀{M:Nat}{l:List Int}(_:M≤1099511627776)(_:l.length≤1099511627776),AC prog 204 [] [pv M l] fun K=>K [] [pc M (Xa (Xf l (-1)))]):=⟨fun {M l} hM hl=>by
  have h1:=Xe l
  refine aEnter func204 rfl ntmps204 rfl fun K C hC hK=> ?_
  rw[←QqB] at hK
  repeat(refine zS ?_;intros)
  exact aRet1 rfl zv hK (le_pcc (by omega))⟩
instance c19:TK prog 19 (∀{M:Nat}{l:List Int}(_:l.length≤1099511627776),AC prog 19 [] [pv M l] fun K=>K [] [I .i64 (((Xa l).length:Int) -1)]):=⟨fun {M l} hl=>by
  refine aEnter func19 rfl ntmps19 rfl fun K C hC hK=> ?_
  have h1:=Xe l
  repeat(refine zS ?_;intros)
  exact aRet1 rfl zv hK (le_refl _)⟩
instance c38:TK prog 38 (∀{M:Nat}{l:List Int}(_:M≤1099511627776)(_:l.length≤1099511627776),AC prog 38 [] [pv M l] fun K=>K [] [it M (ldP l)]):=⟨fun {M l} hM hl=>by
  refine aEnter func38 rfl ntmps38 rfl fun K C hC hK=> ?_
  have h1:=Xe l
  repeat(refine zS ?_;intros)
  refine zB ?_ ?_<;>intro h<;>repeat(refine zS ?_;intros)
  · exact aRet (rs:=[_]) rfl rfl (List.nil_sublist _) (arW0 zv 0 rfl rfl (by kernel_rfl) (by rw[show ldP l=0 by unfold ldP coI;rw[if_pos (by omega)]];exact le_i0) arN) hK
  · exact aRet (rs:=[_]) rfl rfl (List.nil_sublist _) (arW0 zv 0 rfl rfl (by kernel_rfl) (le_ie (by unfold ldP coI;rw[if_neg (by omega)];show(Xa l).getD _ 0=(Xa l).getD _ 0;congr 1;omega) (Nat.le_refl _)) arN) hK⟩
instance c15:TK prog 15 (∀{M Mc:Nat}{l:List Int}{c:Int}(_:M+Mc≤1099511627776)(_:l.length≤1099511627776),AC prog 15 [] [pv M l,iv Mc c] fun K=>K [] [pc (M+Mc) (Xa (Xf l c))]):=⟨fun {M Mc l c} hM hl=>by
  refine aEnter func15 rfl ntmps15 rfl fun K C hC hK=> ?_
  iterate 7 (refine zS ?_;intros)
  refine AW.ent (entBx hC (s:=3) (by exact rfl) 0 (by exact rfl)) ?_
  repeat(refine zS ?_;intros)
  exact aRet1 rfl zv hK (le_refl _)⟩
instance c72:TK prog 72 (∀{M:Nat}{l:List Int}(_:M≤1099511627)(_:l.length≤1099511627776),AC prog 72 [] [pv M l] fun K=>K [] [pc (M+2) (Xn (Xa l))]):=⟨fun {M l} hM hl=>by
  refine aEnter func72 rfl ntmps72 rfl fun K C hC hK=> ?_
  have h1:=Xe l
  repeat(refine zS ?_;intros)
  generalize Xa l=f at *
  refine zB ?_ ?_<;>intro h<;>repeat(refine zS ?_;intros)
  · obtain rfl:f=[]:=List.eq_nil_of_length_eq_zero (by omega)
    exact aRet1 rfl zv hK le_p0
  refine aL2 [0,3,15] (fun k _=>[(16,N k)]) (fun k P=>[.arr 25 2 ((P++List.replicate (f.length -1 -k) 0).map (it (M+2)))]) (fun k P=>k≤f.length -1∧P=(List.range k).map fun i=>co f (i+1)*((i+1:Nat):Int)) (fun k _=>f.length -1 -k) 0 [] ⟨by omega,rfl⟩ (entL (.cons zle .nil) zk (.cons (ob_it (by simp) (by omega)) .nil)) fun k P ⟨hk,hP⟩=> ?_
  have hP1:P.length=k:=by rw[hP];simp
  repeat(refine zS ?_;intros)
  refine zB ?_ ?_<;>intro h2
  · repeat(refine zS ?_;intros)
    have hs2:P++[co f (k+1)*((k+1:Nat):Int)]=(List.range (k+1)).map fun i=>co f (i+1)*((i+1:Nat):Int):=by rw[hP];exact QdW
    exact ag2 (k+1) _ ⟨by omega,hs2⟩ (entL (.cons zle .nil) zk (.cons (ob_it (QfT hP1 (by omega)) (by omega)) .nil))
  · obtain rfl:k=f.length -1:=by omega
    repeat(refine zS ?_;intros)
    exact aRetO rfl hC zv 0 rfl lq hK (.of_eq (by rw[hP,Nat.sub_self,List.replicate_zero,List.append_nil];rfl))⟩
instance c63:TK prog 63 (∀{M M':Nat}{f g:List Int}(_:f.length≤1099511627776)(_:g.length≤1099511627776),AC prog 63 [] [pv M f,pv M' g] fun K=>K [] [I .i64 (Qbv (Xa f) (Xa g))]):=⟨fun {M M' f g} hf hg=>by
  refine aEnter func63 rfl ntmps63 rfl fun K C hC hK=> ?_
  have h1:=Xe f
  have h2:=Xe g
  repeat(refine zS ?_;intros)
  generalize Xa f=f at *
  generalize Xa g=g at *
  refine zB ?_ ?_<;>intro h<;>repeat(refine zS ?_;intros)
  · exact aRet1 rfl zv hK (leI (QmJ (by omega)))
  refine zB ?_ ?_<;>intro h'<;>repeat(refine zS ?_;intros)
  · exact aRet1 rfl zv hK (leI (QmI (by omega)))
  rw[QmH (by omega) rfl] at hK
  refine aL1 [0,1] (fun(k:Nat)=>[(5,I .i64 ((k:Int) -1))]) (fun _=>[]) (fun k=>k≤f.length∧YT f g f.length=YT f g k) (fun k=>k) f.length ⟨by omega,rfl⟩ (entL (.cons zle .nil) zk .nil) fun k ⟨hk,hc⟩=> ?_
  repeat(refine zS ?_;intros)
  refine zB ?_ ?_<;>intro h3
  · repeat(refine zS ?_;intros)
    rename_i c c1 c2 c3 c4 c5
    refine zB ?_ ?_<;>intro h4<;>repeat(refine zS ?_;intros)
    · have e:=QcA hc (by omega) (fun e=>h4 (c3.2 e))
      have :=Zi (co f (k -1)) (co g (k -1))
      exact aRet1 rfl zv hK (leI (by rw[e];show c=Qru (f.getD (k -1) 0) (g.getD (k -1) 0);have :=Zi (f.getD (k -1) 0) (g.getD (k -1) 0);omega))
    · exact ag1 (k -1) ⟨by omega,QeS hc (by omega) (c3.1 (by omega))⟩ (entL (.cons zle .nil) zk .nil)
  · obtain rfl:k=0:=by omega
    repeat(refine zS ?_;intros)
    exact aRet1 rfl zv hK (leI (by rw[hc];rfl))⟩
instance c30:TK prog 30 (∀{M M':Nat}{f g:List Int}(_:f.length≤1099511627776)(_:g.length≤1099511627776),AC prog 30 [] [pv M f,pv M' g] fun K=>K [] [Bo (decide (Xa f=Xa g))]):=⟨fun {M M' f g} hf hg=>by
  refine aEnter func30 rfl ntmps30 rfl fun K C hC hK=> ?_
  repeat(refine zS ?_;intros)
  exact aRet1 rfl zv hK (.of_eq (congrArg Bo (Qq2 rfl)))⟩
end Go.Proofs.YtjdpemcnlejpfaaGreatDoor
namespace Go.Proofs.YtjdpemcnlejpfaaGreatDoor
open Go.RowKit Go.Gx Go.Am Tryz
theorem Qqb{l:List Int}{k:Nat}{a v:Int}(hk:0<k)(hl:k≤l.length)(h:v=evI (l.drop k) a):v*a+l.getD (k -1) 0=evI (l.drop (k -1)) a:=by
  have hk1:k -1<l.length:=by omega
  rw[List.drop_eq_getElem_cons hk1,show k -1+1=k by omega,evI,←h]
  simp only[List.getD,List.getElem?_eq_getElem hk1,Option.getD_some]
  rw[Int.mul_comm];omega
theorem QjF{n k a:Nat}(hk:0<k)(hl:k≤n):(n -k)*a+a=(n -(k -1))*a:=by rw[←Nat.succ_mul];congr 1;omega
instance Qw1:TK prog 207 (∀{M Ma:Nat}{l:List Int}{a:Int}(_:M+l.length*(Ma+1)≤1099511)(_:Ma≤1099511)(_:l.length≤1099511627776),AC prog 207 [] [pv M l,iv Ma a] fun K=>K [] [it (M+l.length*(Ma+1)) (evI l a)]):=⟨fun {M Ma l a} hM hMa hl=>by
  refine aEnter func207 rfl ntmps207 rfl fun K C hC hK=> ?_
  repeat(refine zS ?_;intros)
  refine aL2 [0,3,4,5] (fun(k:Nat) _=>[(6,I .i64 ((k:Int) -1))]) (fun k v=>[.arr 25 1 (itl (M+(l.length -k)*(Ma+1)) v),.arr 25 1 [Bo false,nilS],.arr 25 2 [iv Ma a]]) (fun k v=>k≤l.length∧v=evI (l.drop k) a) (fun k _=>k) l.length 0 ⟨by omega,by rw[List.drop_length];rfl⟩ (entL (.cons zle .nil) zk (.cons (ob_i0 rfl) (.cons (ob_refl _) (.cons (ob_refl _) .nil)))) fun k v ⟨hk,hv⟩=> ?_
  repeat(refine zS ?_;intros)
  refine zB ?_ ?_<;>intro h
  · have hm:=QjF (a:=Ma+1) (show 0<k by omega) hk
    have hm2:(l.length -(k -1))*(Ma+1)≤l.length*(Ma+1):=Nat.mul_le_mul_right _ (by omega)
    repeat(refine zS ?_;intros)
    exact ag2 (k -1) _ ⟨by omega,Qqb (by omega) hk hv⟩ (entL (.cons zle .nil) zk (.cons (ob_i rfl (by omega)) (.cons (ob_refl _) (.cons (ob_refl _) .nil))))
  · obtain rfl:k=0:=by omega
    rw[List.drop_zero] at hv
    subst hv
    repeat(refine zS ?_;intros)
    exact aRet (rs:=[_]) rfl rfl (List.nil_sublist _) (arW0 zv 1 rfl rfl (by kernel_rfl) (le_itt (by rw[Nat.sub_zero];exact Nat.le_refl _)) arN) hK⟩
instance Qyi:TK prog 184 (∀{M:Nat}{l:List Int}(_:M≤1099511627776)(_:l.length≤1099511627776),AC prog 184 [] [pv M l] fun K=>K [] [it M (hgt l:Int)]):=⟨fun {M l} hM hl=>by
  refine aEnter func184 rfl ntmps184 rfl fun K C hC hK=> ?_
  repeat(refine zS ?_;intros)
  refine aL1 [2,3,7,8] (fun k=>[(9,N k)]) (fun k=>[.arr 25 1 (itl M (hgt (l.take k):Int)),.arr 25 1 [Bo false,nilS]]) (fun k=>k≤l.length) (fun k=>l.length -k) 0 (by omega) (entL (.cons zle .nil) zk (.cons (ob_i0 rfl) (.cons (ob_refl _) .nil))) fun k hk=> ?_
  repeat(refine zS ?_;intros)
  refine zB ?_ ?_<;>intro h
  · repeat(refine zS ?_;intros)
    refine alB 0 (by exact rfl) fun b x hb=> ?_
    have hx:(l.getD k 0).natAbs=x:=by rw[←hb,sg_abs]
    repeat(refine zS ?_;intros)
    have ht:=Qqn l (show k<l.length by omega)
    rw[show(co l k).natAbs=x from hx] at ht
    rename_i c c1 c2 c3 c4
    rw[Int.natAbs_natCast] at c1 c2
    refine zB ?_ ?_<;>intro h2<;>repeat(refine zS ?_;intros)
    · exact ag1 (k+1) (by omega) (entL (.cons zle .nil) zk (.drop (.cons (ob_i (by rw[hx];omega) (by omega)) (.cons (ob_refl _) .nil))))
    · exact ag1 (k+1) (by omega) (entL (.cons zle .nil) zk (.drop (.cons (ob_i (by omega) (by omega)) (.cons (ob_refl _) .nil))))
  · obtain rfl:k=l.length:=by omega
    rw[←List.take_length (l:=l)] at hK
    repeat(refine zS ?_;intros)
    exact aRet (rs:=[_]) rfl rfl (List.nil_sublist _) (arW0 zv 1 rfl rfl (by kernel_rfl) (le_ie (by simp) (Nat.le_refl _)) arN) hK⟩
end Go.Proofs.YtjdpemcnlejpfaaGreatDoor
namespace Go.Proofs.YtjdpemcnlejpfaaGreatDoor
open Go.RowKit Go.Gx Go.Am Tryz
instance QFA:TK prog 103 (∀{M:Nat}{r:Rat},AC prog 103 [] [qv M r] fun K=> ∀n d:Int,0<d→(n:Rat)=r*(d:Rat)→K [] [iv (max M 2) n,iv (max M 2) d]):=⟨fun {M r}=>by
  refine aEnter func103 rfl ntmps103 rfl fun K C hC hK=> ?_
  refine opQ 0 (by exact rfl) fun b x y h=> ?_
  repeat(refine zS ?_;intros)
  rename_i g1 g2 g3
  refine zB ?_ ?_<;>intro hy
  · subst hy
    obtain rfl:r=0:=(h.resolve_right fun h=>h.1 rfl).2
    repeat(refine zS ?_;intros)
    exact aRet (rs:=[_,_]) rfl rfl (List.nil_sublist _) zr (hK 0 1 (by decide) (by grind))
  · have h1:=qv_neg h hy
    repeat(refine zS ?_;intros)
    refine aDrT [(5,g2)] [0,1,2,3,4,5,6] (zS ?_)
    iterate 2 (refine zS ?_;intros)
    refine adEw (q:=2) (js:=[(5,1)]) (by exact rfl) ye (by exact rfl) zg (by kernel_rfl) zjs1 ?_
    repeat(refine zS ?_;intros)
    exact aRet (rs:=[_,_]) rfl rfl (List.nil_sublist _) zr (hK (sg b x) y (by omega) h1)⟩
instance QFC:TK prog 105 (∀{M M':Nat}{n d:Int}{r:Rat}(_:M≤274877906944)(_:M'≤274877906944)(_:0<d)(_:(n:Rat)=r*(d:Rat)),AC prog 105 [] [iv M n,iv M' d] fun K=>K [] [qt (max M M') r]):=⟨fun {M M' n d r} hM hM' hd h=>by
  refine aEnter func105 rfl ntmps105 rfl fun K C hC hK=> ?_
  have hg:=QFk (n:=n) hd
  have⟨h1,h2⟩:=QFl h hd
  refine opI 1 (by exact rfl) fun b x hb=> ?_
  repeat(refine zS ?_;intros)
  exact aRet (rs:=[_]) rfl rfl (List.nil_sublist _) (arW0 zv 1 rfl rfl (by kernel_rfl) (le_qb h1 h2 (by omega) (by omega)) arN) hK⟩
instance c50:TK prog 50 (∀{M M':Nat}{n d:Int}(_:M≤274877906944)(_:M'≤274877906944),AC prog 50 [] [iv M n,iv M' d] fun K=>(d=0→K [] [qv 0 0,I .i64 2])∧(d≠0→ ∀r:Rat,(n:Rat)=r*(d:Rat)→K [] [qt (max M M') r,I .i64 0])):=⟨fun {M M' n d} hM hM'=>by
  refine aEnter func50 rfl ntmps50 rfl fun K C hC hK=> ?_
  repeat(refine zS ?_;intros)
  rename_i s h1 h2 h3 h4 h5
  refine zB ?_ ?_<;>intro h6
  · repeat(refine zS ?_;intros)
    exact aRet (rs:=[_,_]) rfl rfl (List.nil_sublist _) zr (hK.1 (h1.1 h6))
  have hd:d≠0:=fun h=>h6 (h1.2 h)
  have hr:=QEP (n:=n) hd
  have hk:=hK.2 hd _ hr
  generalize(n:Rat)/ (d:Rat)=r at hr hk
  have ha:(0:Int)<(d.natAbs:Int):=by omega
  repeat(refine zS ?_;intros)
  refine zB ?_ ?_<;>intro h7
  · have hr2:((-n:Int):Rat)=r*(((d.natAbs:Nat):Int):Rat):=by
      have e:((d.natAbs:Nat):Int)= -d:=by omega
      rw[e,Rat.intCast_neg,Rat.intCast_neg,hr];grind
    repeat(refine zS ?_;intros)
    exact aRet (rs:=[_,_]) rfl rfl (List.nil_sublist _) zr hk
  · have hr2:(n:Rat)=r*(((d.natAbs:Nat):Int):Rat):=by
      have e:((d.natAbs:Nat):Int)=d:=by omega
      rw[e,hr]
    repeat(refine zS ?_;intros)
    exact aRet (rs:=[_,_]) rfl rfl (List.nil_sublist _) zr hk⟩
instance QFy:TK prog 140 (∀{M:Nat}{r:Rat}(_:M≤274877906944),AC prog 140 [] [qv M r] fun K=>K [] [qt (max M 2) r]):=⟨fun {M r} hM=>by
  refine aEnter func140 rfl ntmps140 rfl fun K C hC hK=> ?_
  repeat(refine zS ?_;intros)
  exact aRet (rs:=[_]) rfl rfl (List.nil_sublist _) zr hK⟩
instance c47:TK prog 47 (∀{M:Nat}{r:Rat},AC prog 47 [] [qv M r] fun K=> ∀s:Int,(s=0↔r=0)→(s<0↔r<0)→(0<s↔0<r)→ -1≤s→s≤1→K [] [I .i64 s]):=⟨fun {M r}=>by
  refine aEnter func47 rfl ntmps47 rfl fun K C hC hK=> ?_
  repeat(refine zS ?_;intros)
  rename_i n d hd h g1 g2 s h1 h2 h3 h4 h5
  have⟨k1,k2,k3⟩:=QFm h hd
  exact aRet1 rfl zv (hK s (h1.trans k3) (h2.trans k1) (h3.trans k2) h4 h5) (le_refl _)⟩
instance c49:TK prog 49 (∀{M M':Nat}{r s:Rat}(_:M≤274877906944)(_:M'≤274877906944),AC prog 49 [] [qv M r,qv M' s] fun K=>K [] [I .i64 (cmQ r s)]):=⟨fun {M M' r s} hM hM'=>by
  refine aEnter func49 rfl ntmps49 rfl fun K C hC hK=> ?_
  repeat(refine zS ?_;intros)
  rename_i n d hd h g1 g2 m f hf k g3 g4 c h1 h2 h3 h4 h5
  rw[←QFp (h1.trans (QEd h hd k hf)) (h2.trans (QEd k hf h hd)) h4 h5] at hK
  exact aRet1 rfl zv hK (le_refl _)⟩
end Go.Proofs.YtjdpemcnlejpfaaGreatDoor
namespace Go.Proofs.YtjdpemcnlejpfaaGreatDoor
open Go.RowKit Go.Gx Go.Am Tryz
end Go.Proofs.YtjdpemcnlejpfaaGreatDoor
namespace Go.Proofs.YtjdpemcnlejpfaaGreatDoor
open Go.RowKit Go.Gx Go.Am Tryz
theorem Qtk{a b M L:Nat}(hb:1≤b):(a*M+a*a*(L+2)+3)+(b*M+b*b*(L+1))+(a*L+1)≤(a+b)*M+(a+b)*(a+b)*(L+2)+3:=by
  obtain⟨c,rfl⟩: ∃c,b=c+1:=⟨b -1,by omega⟩;grind
theorem Qtl{b M L:Nat}(hb:1≤b):(b*M+b*b*(L+1))+(b*M+b*b*(L+1))+(b*L+1)≤(2*b)*M+(2*b)*(2*b)*(L+1):=by
  obtain⟨c,rfl⟩: ∃c,b=c+1:=⟨b -1,by omega⟩;grind
theorem Qvy{a n M L:Nat}(h:a≤n):a*M+a*a*(L+2)+3≤n*M+n*n*(L+2)+3:=by
  have h1:=Nat.mul_le_mul_right M h
  have h2:=Nat.mul_le_mul_right (L+2) (Nat.mul_le_mul h h)
  omega
theorem QwG{a n M L:Nat}(h:a≤n):a*M+a*a*(L+1)≤n*M+n*n*(L+2):=by
  have h1:=Nat.mul_le_mul_right M h
  have h2:=Nat.mul_le_mul (Nat.mul_le_mul h h) (show L+1≤L+2 by omega)
  omega
theorem QuC{a n L:Nat}(h:a≤n):a*L≤n*n*(L+2):=by
  refine Nat.mul_le_mul ?_ (by omega)
  rcases Nat.eq_zero_or_pos n with h0|h0
  · omega
  · have :=Nat.mul_le_mul_right n h0;omega
theorem Qr1{R S:List Int}{x y:Nat}(hR:R.length≤x+1)(hS:S.length≤y+1):(Xa (Xg R S)).length≤x+y+1:=by
  have h1:=Xe (Xg R S)
  by_cases h:R.length=0∨S.length=0
  · have :Xg R S=[]:=by unfold Xg;rw[if_pos h]
    have h0:(Xa ([]:List Int)).length=0:=rfl
    rw[this];omega
  · have :=Yo (f:=R) (g:=S) (by omega) (by omega);omega
set_option maxHeartbeats 1000000 in
instance c40:TK prog 40 (∀{M L n:Nat}{l:List Int}(_:(Xa l).length≤L+1)(_:2*(n*M)+4*(n*n*(L+2))+3≤10995116)(_:n≤1099511)(_:M≤1099511)(_:l.length≤1099511),AC prog 40 [] [pv M l,N n] fun K=>K [] [pc (n*M+n*n*(L+2)+3) (Xa (Zk l n))]):=⟨fun {M L n l} hL hM hn hM1 hl=>by
  refine aEnter func40 rfl ntmps40 rfl fun K C hC hK=> ?_
  have h1:=Xe l
  have h2:=Xe [(1:Int)]
  have hh: ∀z∈[(1:Int)],-9223372036854775808≤z∧z≤9223372036854775807:=by intro z hz;simp at hz;omega
  have hh0:([(1:Int)]).length≤1099511627776:=by simp
  repeat(refine zS ?_;intros)
  refine aL5 [] (fun u a b R S=>[(1,N u),(5,pc (a*M+a*a*(L+2)+3) R),(6,pc (b*M+b*b*(L+1)) S)]) (fun _ _ _ _ _=>[]) (fun u a b R S=>(u=0∨a+u*b=n)∧a≤n∧1≤b∧(u=0∨b≤n)∧R.length≤a*L+1∧S.length≤b*L+1∧Canon ZM R∧Xa (Xg R (Zk S u))=Xa (Zk l n)) (fun u _ _ _ _=>u) n 0 1 (Xa [1]) (Xa l) ⟨by omega,by omega,by omega,by omega,by rw[Qrm];simp,by omega,Xs _ _,QqL l n⟩ (entL (.cons zle (.cons zle (.cons zle .nil))) zk .nil) fun u a b R S ⟨hu,ha,hb,hbn,hR,hS,hc,hp⟩=> ?_
  repeat(refine zS ?_;intros)
  refine zB ?_ ?_<;>intro h
  · have hub:a+u*b=n:=hu.resolve_left (by omega)
    have hbn:b≤n:=hbn.resolve_left (by omega)
    have e1:=Qvy (M:=M) (L:=L) ha
    have e2:=QwG (M:=M) (L:=L) hbn
    have e3:=QuC (L:=L) ha
    have e4:=QuC (L:=L) hbn
    have e5:=Qtk (a:=a) (M:=M) (L:=L) hb
    have e6:=Qtl (M:=M) (L:=L) hb
    have e7:=Qr1 hR hS
    have e8:=Qr1 hS hS
    have e9:(a+b)*L=a*L+b*L:=Nat.add_mul ..
    have e10:2*b*L=b*L+b*L:=by rw[Nat.mul_assoc];omega
    have e15:u≤u*b:=Nat.le_mul_of_pos_right u hb
    have e11:b≤u*b:=Nat.le_mul_of_pos_left b (by omega)
    have e12:u*b=u/2*(2*b)+u % 2*b:=by
      conv=>lhs;rw[←Nat.div_add_mod u 2,Nat.add_mul,Nat.mul_comm 2,Nat.mul_assoc]
    repeat(refine zS ?_;intros)
    refine zB ?_ ?_<;>intro h1
    · have e13:u % 2=1:=by omega
      rw[e13,Nat.one_mul] at e12
      repeat(refine zS ?_;intros)
      refine zB ?_ ?_<;>intro h3<;>repeat(refine zS ?_;intros)
      · have e14:2*b≤u/2*(2*b):=Nat.le_mul_of_pos_left _ (by omega)
        exact ag5 (u/2) (a+b) (2*b) (Xa (Xg R S)) (Xa (Xg S S)) ⟨.inr (by omega),by omega,by omega,.inr (by omega),by omega,by omega,Xs _ _,QqN hp (by omega) rfl rfl⟩ (entL (.cons zle (.cons (le_pcc (by omega)) (.cons (le_pcc (by omega)) .nil))) zk .nil)
      · exact ag5 0 (a+b) b (Xa (Xg R S)) S ⟨.inl rfl,by omega,hb,.inl rfl,by omega,hS,Xs _ _,QqM hp (by omega) rfl rfl⟩ (entL (.cons zle (.cons (le_pcc (by omega)) (.cons zle .nil))) zk .nil)
    · have e13:u % 2=0:=by omega
      rw[e13,Nat.zero_mul] at e12
      have e14:2*b≤u/2*(2*b):=Nat.le_mul_of_pos_left _ (by omega)
      repeat(refine zS ?_;intros)
      exact ag5 (u/2) a (2*b) R (Xa (Xg S S)) ⟨.inr (by omega),by omega,by omega,.inr (by omega),by omega,by omega,hc,Qor hp (by omega) rfl⟩ (entL (.cons zle (.cons zle (.cons (le_pcc (by omega)) .nil))) zk .nil)
  · have e1:=Qvy (M:=M) (L:=L) ha
    repeat(refine zS ?_;intros)
    exact aRet1 rfl zv hK (by rw[pow_end hp (by omega) hc];exact le_pcc e1)⟩
end Go.Proofs.YtjdpemcnlejpfaaGreatDoor
namespace Go.Proofs.YtjdpemcnlejpfaaGreatDoor
open Go.RowKit Go.Gx Go.Am Tryz
def QaX(fs:List (List Int)):Nat:=fs.foldl (fun c f=>Nat.gcd c (Xy f)) 0
theorem Qid: ∀(fs:List (List Int))(c:Nat),fs.foldl (fun c f=>Nat.gcd c (Xy f)) c∣c
  | [],c=>Nat.dvd_refl c
  |f::fs,c=>Nat.dvd_trans (Qid fs (Nat.gcd c (Xy f))) (Nat.gcd_dvd_left ..)
theorem Qga{fs:List (List Int)}{k:Nat}(hk:k<fs.length):QaX (fs.take (k+1))=Nat.gcd (QaX (fs.take k)) (Xy (fs.getD k [])):=by
  unfold QaX
  rw[List.take_succ_eq_append_getElem hk,List.foldl_append]
  simp only[List.getD,List.getElem?_eq_getElem hk,Option.getD_some,List.foldl_cons,List.foldl_nil]
theorem QmS{fs:List (List Int)}{k:Nat}:QaX fs∣QaX (fs.take k):=by
  unfold QaX
  conv=>lhs;rw[←List.take_append_drop k fs,List.foldl_append]
  exact Qid _ _
theorem QlG(F:List Int): ∀k,Xy F∣Xy (F.drop k):=by
  induction F with
  |nil=>intro k;simp
  |cons a F ih=>
    intro k
    cases k with
    |zero=>exact Nat.dvd_refl _
    |succ k=>rw[List.drop_succ_cons,Qbh];exact Nat.dvd_trans (Nat.gcd_dvd_left ..) (ih k)
theorem QmT{fs:List (List Int)}{k i:Nat}(hk:k<fs.length)(h:Nat.gcd (QaX (fs.take k)) (Xy ((fs.getD k []).drop i))=1):QaX fs=1:=by
  have h1:QaX fs∣QaX (fs.take (k+1)):=QmS
  rw[Qga hk] at h1
  have h2:=Nat.dvd_gcd (Nat.dvd_trans h1 (Nat.gcd_dvd_left ..)) (Nat.dvd_trans (Nat.dvd_trans h1 (Nat.gcd_dvd_right ..)) (QlG _ i))
  rw[h] at h2
  exact Nat.dvd_one.1 h2
set_option maxHeartbeats 1000000 in
instance QxM:TK prog 131 (∀{M:Nat}{fs:List (List Int)}(_:M≤274877906944),AC prog 131 [] [sl 1 (fs.map (pv M))] fun K=>K [] [it (max M 2) (QaX fs:Int)]):=⟨fun {M fs} hM=>by
  refine aEnter func131 rfl ntmps131 rfl fun K C hC hK=> ?_
  repeat(refine zS ?_;intros)
  refine aL2 [2,3,4,10,11] (fun k _=>[(12,N k)]) (fun k c=>[.arr 25 1 (itl (max M 2) ((c:Nat):Int)),.arr 25 1 (itl 2 1),.arr 25 1 [Bo false,nilS]]) (fun k c=>k≤fs.length∧c=QaX (fs.take k)) (fun k _=>fs.length -k) 0 0 ⟨by omega,rfl⟩ (entL (.cons zle .nil) zk (.cons (ob_i0 rfl) (.cons (ob_refl _) (.cons (ob_refl _) .nil)))) fun k c ⟨hk,hc⟩=> ?_
  repeat(refine zS ?_;intros)
  refine zB ?_ ?_<;>intro h
  · repeat(refine zS ?_;intros)
    refine aL2 [2,3,4,6,10,11,12] (fun(i:Nat) _=>[(7,I .i64 ((i:Int) -1))]) (fun i g=>[.arr 25 1 (itl (max M 2) ((g:Nat):Int)),.arr 25 1 (itl 2 1),.arr 25 1 [Bo false,nilS]]) (fun i g=>i≤(fs.getD k []).length∧g=Nat.gcd c (Xy ((fs.getD k []).drop i))) (fun i _=>i) (fs.getD k []).length c ⟨by omega,QlH (Nat.le_refl _)⟩ (entL (.cons zle .nil) zk (.cons (ob_refl _) (.cons (ob_refl _) (.cons (ob_refl _) .nil)))) fun i g ⟨hi,hg⟩=> ?_
    repeat(refine zS ?_;intros)
    refine zB ?_ ?_<;>intro h1
    · have hs:=QmU hg (show 0<i by omega) hi rfl rfl
      repeat(refine zS ?_;intros)
      have hgg:Int.gcd (g:Int) ((fs.getD k []).getD (i -1) 0)=Nat.gcd c (Xy ((fs.getD k []).drop (i -1))):=hs
      refine zB ?_ ?_<;>intro h2<;>repeat(refine zS ?_;intros)
      · have h3:QaX fs=1:=QmT (show k<fs.length by omega) (i:=i -1) (by rw[←hc,←hgg];omega)
        exact aRet (rs:=[_]) rfl rfl (List.nil_sublist _) (arW0 zv 2 rfl rfl (by kernel_rfl) (le_ie (by rw[h2,h3];rfl) (by omega)) arN) hK
      · exact ag2 (i -1) _ ⟨by omega,hgg⟩ (entL (.cons zle .nil) zk (.cons (ob_i rfl (by omega)) (.cons (ob_refl _) (.cons (ob_refl _) .nil))))
    · obtain rfl:i=0:=by omega
      rw[List.drop_zero] at hg
      repeat(refine zS ?_;intros)
      exact ag2 (k+1) g ⟨by omega,by rw[hg,hc,Qga (by omega)]⟩ (entL (.cons zle .nil) zk (.cons (ob_refl _) (.cons (ob_refl _) (.cons (ob_refl _) .nil))))
  · obtain rfl:k=fs.length:=by omega
    rw[List.take_length] at hc
    repeat(refine zS ?_;intros)
    exact aRet (rs:=[_]) rfl rfl (List.nil_sublist _) (arW0 zv 2 rfl rfl (by kernel_rfl) (le_ie (by rw[hc]) (Nat.le_refl _)) arN) hK⟩
instance c92:TK prog 92 (∀{M:Nat}{l:List Int}(_:M≤274877906944),AC prog 92 [] [pv M l] fun K=>K [] [it (max M 2) (Xy l:Int)]):=⟨fun {M l} hM=>by
  refine aEnter func92 rfl ntmps92 rfl fun K C hC hK=> ?_
  rw[show Xy l=QaX [l] by show _=Nat.gcd 0 (Xy l);simp] at hK
  repeat(refine zS ?_;intros)
  exact aRZ (rs:=[_]) rfl hK⟩
theorem QqH:(∀{M Mc:Nat}{l:List Int}{c:Int}(_:M≤274877906944)(_:Mc≤274877906944)(_:l.length≤1099511627776)(_:c≠0∨Xa l=[]),AC prog 116 [] [pv M l,iv Mc c] fun K=> ∀g,K [(some g,.arr 25 2 (((Xa l).map (Int.tdiv · c)).map (it M)))] [lsl 2 g 0 (Xa l).length (Xa l).length]):=fun {M Mc l c} hM hMc hl h0=>by
  refine aEnter func116 rfl ntmps116 rfl fun K C hC hK=> ?_
  have h1:=Xe l
  have own:=QaG (M:=M) (l:=l) (by omega) (by omega)
  iterate 9 (refine zS ?_;intros)
  refine alO (zcallX own) zg fun g=> ?_
  repeat(refine zS ?_;intros)
  generalize Xa l=F at *
  refine aL2 [3,5,10] (fun k _=>[(11,N k)]) (fun k P=>[.arr 25 2 ((P++F.drop k).map (it M)),.arr 25 2 [iv Mc c]]) (fun k P=>k≤F.length∧P=(F.take k).map (Int.tdiv · c)) (fun k _=>F.length -k) 0 [] ⟨by omega,rfl⟩ (entL (.cons zle .nil) zk (.cons (ob_it (by simp) (by omega)) (.cons (ob_refl _) .nil))) fun k P ⟨hk,hP⟩=> ?_
  have hP1:P.length=k:=by rw[hP,List.length_map,List.length_take];omega
  repeat(refine zS ?_;intros)
  refine zB ?_ ?_<;>intro h
  · have hk1:k<F.length:=by omega
    have hg:(P++F.drop k).getD k 0=F.getD k 0:=by simp [List.getD,List.getElem?_append_right,hP1]
    have hs:P++[(F.getD k 0).tdiv c]=(F.take (k+1)).map (Int.tdiv · c):=by rw[hP];exact Qdq hk1
    have hst:(P++F.drop k).set k ((F.getD k 0).tdiv c)=(P++[(F.getD k 0).tdiv c])++F.drop (k+1):=by
      rw[List.set_append_right _ _ (by omega),hP1,Nat.sub_self,List.drop_eq_getElem_cons hk1,List.set_cons_zero,List.append_assoc];rfl
    have hc0:c≠0:=h0.resolve_right (by intro e;rw[e] at hk1;simp at hk1)
    have hlen:k<(P++F.drop k).length:=by simp [hP1];omega
    repeat(refine zS ?_;intros)
    exact ag2 (k+1) _ ⟨by omega,hs⟩ (entL (.cons zle .nil) zk (.cons (ob_it (by rw[hg];exact hst) (by omega)) (.cons (ob_refl _) .nil)))
  · obtain rfl:k=F.length:=by omega
    repeat(refine zS ?_;intros)
    refine AX.ent (entH (.cons (ob_it (show _=F.map (Int.tdiv · c) by rw[hP,List.drop_length,List.append_nil,List.take_length]) (Nat.le_refl _)) (HLe.none _))) ?_
    exact aRet (rs:=[_]) rfl rfl (.refl _) zr (hK _)
instance Qxz:TK prog 116 (∀{M Mc:Nat}{l:List Int}{c:Int}(_:M≤274877906944)(_:Mc≤274877906944)(_:l.length≤1099511627776)(_:c≠0∨Xa l=[]),AC prog 116 [] [pv M l,iv Mc c] fun K=>K [] [pc M ((Xa l).map (Int.tdiv · c))]):=⟨fun hM hMc hl h0=>ac_fz (le_refl _) (by have :=QqH hM hMc hl h0;simpa only[List.length_map] using this)⟩
end Go.Proofs.YtjdpemcnlejpfaaGreatDoor
namespace Go.Proofs.YtjdpemcnlejpfaaGreatDoor
open Go.RowKit Go.Gx Go.Am Tryz
instance c66:TK prog 66 (∀{M:Nat}{l:List Int}(_:M≤27487790694)(_:l.length≤1099511627776),AC prog 66 [] [pv M l] fun K=>K [] [pc M (Xr l)]):=⟨fun {M l} hM hl=>by
  refine aEnter func66 rfl ntmps66 rfl fun K C hC hK=> ?_
  have hc:ldP l≠0→(Xy l:Int)≠0:=fun h=>by have :=Qc2 h;omega
  repeat(refine zS ?_;intros)
  rename_i s s1 s2 s3 s4 s5
  refine zB ?_ ?_<;>intro h<;>repeat(refine zS ?_;intros)
  · exact aRet1 rfl zv hK (by rw[←Qgt (s1.1 h)];exact le_p0)
  refine zB ?_ ?_<;>intro h'<;>repeat(refine zS ?_;intros)
  · have h0:=hc (by omega)
    have e:Yc l= -(Xy l:Int):=by unfold Yc;rw[if_pos (by omega)]
    have h2: -(Xy l:Int)≠0∨Xa l=[]:= .inl (by omega)
    repeat(refine zS ?_;intros)
    exact aRet1 rfl zv hK (by unfold Xr;rw[e];exact le_refl _)
  · have h0:=hc (by omega)
    have e:Yc l=(Xy l:Int):=by unfold Yc;rw[if_neg (by omega)]
    have h2:(Xy l:Int)≠0∨Xa l=[]:= .inl h0
    repeat(refine zS ?_;intros)
    exact aRet1 rfl zv hK (by unfold Xr;rw[e];exact le_refl _)⟩
instance QxZ:TK prog 147 (∀{M:Nat}{l:List Int}(_:M≤27487790694)(_:l.length≤1099511627776),AC prog 147 [] [pv M l] fun K=>K [] [pc M (if ldP l<0 then Xa (Xf l (-1)) else Xa l)]):=⟨fun {M l} hM hl=>by
  refine aEnter func147 rfl ntmps147 rfl fun K C hC hK=> ?_
  repeat(refine zS ?_;intros)
  rename_i s s1 s2 s3 s4 s5
  refine zB ?_ ?_<;>intro h<;>repeat(refine zS ?_;intros)
  · rw[if_pos (by omega)] at hK
    exact aRet1 rfl zv hK (le_refl _)
  · rw[if_neg (by omega)] at hK
    exact aRet1 rfl zv hK (le_refl _)⟩
end Go.Proofs.YtjdpemcnlejpfaaGreatDoor
