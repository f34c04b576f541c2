/-
  F10
-/
import Derived.Test.YtjdpemcnlejpfaaGreatDoorF8
import Derived.Test.YtjdpemcnlejpfaaGreatDoorAscThy
set_option linter.all false
namespace Go.Proofs.YtjdpemcnlejpfaaGreatDoor
open Go.RowKit Go.Gx Go.Am Tryz
theorem Rel.mineF{C:Ctx}{env:Nat→AV}{H:Hp}{S:Nat→Prop}{e:Nat→Value}{w:World}{g1:Nat}{o1 o2 o:Ob}{g:Option Nat}(hC:C.F=inH [(some g1,o1)])(r:Rel C env H S e w){j i:Nat}(hj:H[j]? =some (g,o))(hi:H[i]? =some (some g1,o2))(hij:i≠j): ∀b,g=some b→C.w0.heap.size≤b:=fun b hb=>by
  refine(r.own.ow _ (List.mem_of_getElem? hj) b hb).2.resolve_left fun hF=> ?_
  rw[hC] at hF
  obtain⟨x,hx,hx1⟩:=hF
  rw[List.mem_singleton.1 hx] at hx1
  have e1:g1=b:=by simpa using hx1
  subst e1
  obtain⟨hi1,hi2⟩:=List.getElem?_eq_some_iff.1 hi
  obtain⟨hj1,hj2⟩:=List.getElem?_eq_some_iff.1 hj
  have hp:=List.pairwise_iff_getElem.1 r.own.nd
  rcases Nat.lt_or_ge i j with h|h
  · exact hp i j hi1 hj1 h g1 (by rw[hi2]) (by rw[hj2];exact hb)
  · exact hp j i hj1 hi1 (by omega) g1 (by rw[hj2];exact hb) (by rw[hi2])
theorem QsO{C:Ctx}{env:Nat→AV}{H:Hp}{g1:Nat}{o1 o2:Ob}(hC:C.F=inH [(some g1,o1)]){s z m c:Nat}{g:Option Nat}{t:TypeId}{l:List AV}(hs:env s=gh g m c)(j:Nat)(hj:H[j]? =some (g,.gro t z l c))(hm:l.length=m)(i:Nat)(hi:H[i]? =some (some g1,o2))(hij:i≠j):Ent C env H (updA env s (sl z l)) (H.eraseIdx j):=by
  unfold Ent
  exact fun e w S r=>⟨_,by have :=(r.share j hj (Rel.mineF hC r hj hi hij)).upd (d:=s) (gh_sl (av_tmp hs r) r j hj hm);rwa [upd_same'] at this⟩
instance Qx2:TK prog 151 (∀{M g cp:Nat}{L:List (List Int)}{c:List Nat}(_:L.length≤1000)(_:c.length≤1000),AC prog 151 [(some g,.arr 3 1 (c.map Am.N))] [pcs M L,lsl 1 g 0 c.length cp] fun K=>K [(some g,.arr 3 1 (c.map Am.N))] [pcs M (Qdh 0 L c)]):=⟨fun {M g cp L c} hL hc=>by
  have hcm:(c.map Am.N).length=c.length:=List.length_map ..
  refine aEnterF func151 rfl ntmps151 rfl fun K C hC hK=> ?_
  repeat(refine zS ?_;intros)
  refine AW.ent (entGro 30 1) ?_
  refine aLoop [1,8,9] (fun x:Option Nat×Nat×Nat=>[(5,gh x.1 (Qdh 0 (L.take x.2.2) c).length x.2.1),(10,Am.N x.2.2)]) (fun x=>[(x.1,.gro 30 1 ((Qdh 0 (L.take x.2.2) c).map (pc M)) x.2.1),(some g,.arr 3 1 (c.map Am.N))]) (fun x=>x.2.2≤L.length) (fun x=>L.length -x.2.2) (none,0,0) (Nat.zero_le _) (entL (.cons Qas (.cons zle .nil)) zk (HLe.refl _)) fun⟨k0,c0,k⟩ hk=> ?_
  dsimp only at hk⊢
  repeat(refine zS ?_;intros)
  refine zB ?_ ?_<;>intro h
  · have hlk:(L.take k).length=k:=by rw[List.length_take];omega
    have hsn:=Qiu (c:=c) (a:=L.getD k []) (Z:=L.take k) (o:=0)
    rw[hlk,Nat.zero_add,show L.take k++[L.getD k []]=L.take (k+1) by rw[List.take_add_one];simp [List.getD,show k<L.length by omega]] at hsn
    obtain⟨u,eu⟩: ∃u,L.getD k []=u:=⟨_,rfl⟩
    rw[eu] at hsn
    have hct:AC prog 209 [] [sl 1 (c.map Am.N),Am.N k] fun K=>K [] [Bo (decide (k∈c))]:=Qxh.k (by omega)
    have ho:(Qdh 0 (L.take k) c).length≤1000:=by
      have key: ∀(Z:List (List Int)) o,(Qdh o Z c).length≤Z.length:=by
        intro Z
        induction Z with
        |nil=>intro o;simp [Qdh]
        |cons a Z ih=>intro o;have :=ih (o+1);unfold Qdh;split<;>simp <;>omega
      have :=key (L.take k) 0;omega
    repeat(refine zS ?_;intros)
    rw[eu]
    repeat(refine zS ?_;intros)
    refine alO (aoCallB le_fnv hct (agO zv 1 (by exact rfl) (by omega) ⟨_,.tail _ (.head _),rfl⟩ (.of_eq (by rw[List.drop_zero,List.take_of_length_le (by omega)])) (agC (a:=I .i64 (k:Int)) zv (le_refl _) (agNil zcs))) (by exact rfl)) zg ?_
    repeat(refine zS ?_;intros)
    refine zB ?_ ?_<;>intro h2
    · rw[if_neg h2] at hsn
      repeat(refine zS ?_;intros)
      rename_i k1 c1
      exact aAgain (k1,c1,k+1) (by show k+1≤L.length;omega) (by show L.length -(k+1)<L.length -k;omega) (entL (.cons (Qcr (by rw[hsn];simp)) (.cons zle .nil)) zk (.cons (Qa4 (by rw[hsn,List.map_append];rfl)) (HLe.refl _)))
    · rw[if_pos (Classical.not_not.1 h2),List.append_nil] at hsn
      repeat(refine zS ?_;intros)
      exact aAgain (k0,c0,k+1) (by show k+1≤L.length;omega) (by show L.length -(k+1)<L.length -k;omega) (entL (.cons (Qcr (by rw[hsn])) (.cons zle .nil)) zk (.cons (Qa4 (by rw[hsn])) (HLe.refl _)))
  · obtain rfl:k=L.length:=by omega
    rw[List.take_length]
    repeat(refine zS ?_;intros)
    refine AX.ent (QsO hC (s:=4) (by exact rfl) 0 (by exact rfl) (by rw[List.length_map]) 1 (by exact rfl) (by decide)) ?_
    exact aRet (rs:=[_]) rfl rfl (.refl _) zr hK⟩
theorem QrF: ∀{l:List (List Int)},(∀u∈l,u.length≤32)→Qd8 l≤32*l.length
  | [],_=>by simp [Qd8]
  |a::l,h=>by
    have h1:=QrF (l:=l) fun u hu=>h u (by simp [hu])
    have h2:=h a (by simp)
    have h3:=Xe a
    have h4:Qd8 (a::l)=((Xa a).length -1)+Qd8 l:=rfl
    rw[List.length_cons];omega
theorem Qox{m:Nat}: ∀{l:List (List Int)}{X:List Int},(∀u∈l,u.length≤32)→(Qi6 m X l).length≤X.length+32*l.length
  | [],X,_=>by simp [Qi6]
  |a::l,X,h=>by
    have h1:=Qox (m:=m) (l:=l) (X:=Zg m (Xa (Xg X a))) fun u hu=>h u (by simp [hu])
    have h2:=h a (by simp)
    have h3:=Zu m (Xa (Xg X a))
    have h4:=Nat.le_trans (Xe (Xg X a)) (Yo X a)
    have h5:Qi6 m X (a::l)=Qi6 m (Zg m (Xa (Xg X a))) l:=rfl
    rw[h5,List.length_cons];omega
theorem QtM{L:List (List Int)}{c:List Nat}(hi: ∀i∈c,i<L.length): ∀u∈QiP L c,u∈L:=fun u hu=>by
  unfold QiP at hu
  obtain⟨i,h,rfl⟩:=List.mem_map.1 hu
  exact QbC (hi i h)
theorem Qif{c:List Nat}{k:Nat}(h:k<c.length):c.getD k 0∈c:=by
  simp only[List.getD,List.getElem?_eq_getElem h,Option.getD_some];exact List.getElem_mem h
set_option maxHeartbeats 4000000 in
instance Qxc:TK prog 150 (∀{M m size gs cp:Nat}{f:List Int}{L:List (List Int)}{c:List Nat}{φ:Nat→Bool}{g0:List Int}(_:2≤M∧M≤64)(_:0<m)(_:f.length≤32)(_:L.length≤32)(_: ∀u∈L,u.length≤32∧1≤(Xa u).length) (_:1≤c.length∧c.length≤32) (_: ∀i∈c,i<L.length) (_:Qd8 (QiP L c)<size) (_:g0=Xr (Zg m (Xf (pL (QiP L c)) (ldP f)))) (_:ldP g0≠0) (_:Xy g0=1),AC prog 150 [(some gs,.arr 3 1 (c.map Am.N))] [pv M f,pcs M L,lsl 1 gs 0 c.length cp,iv M (m:Int),sl 1 ((Qap size φ).map Bo)] fun K=>(∀r,P f=P r*P g0→r.length=(Xa f).length -((Xa g0).length -1)→K [(some gs,.arr 3 1 (c.map Am.N))] [pc M g0,pc (M+(M+g0.length+4)*f.length) r,Bo true])∧((φ (Qd8 (QiP L c))=true→YY m (ldP f*evI (pL (QiP L c)) 0)∣ldP f*evI f 0→ ¬P g0∣P f)→K [(some gs,.arr 3 1 (c.map Am.N))] [pc M [],pc M [],Bo false])):=⟨fun {M m size gs cp f L c φ g0} hM hm hf hL hu hc hi hds hg0 hl0 hc0=>by
  have hcm:(c.map Am.N).length=c.length:=List.length_map ..
  refine aEnterF func150 rfl ntmps150 rfl fun K C hC hK=> ?_
  have hev: ∀u:List Int,u.length≤32→AC prog 207 [] [pc M u,agg [Bo false,nilS]] fun K=>K [] [it (M+u.length*1) (evI u 0)]:=fun u hul=>AC.les (Qw1.k (M:=M) (Ma:=0) (l:=u) (a:=0) (by omega) (by omega) (by omega)) (.cons le_pcv0 (.cons le_i0v .nil))
  have hevf:AC prog 207 [] [pv M f,agg [Bo false,nilS]] fun K=>K [] [it (M+f.length*1) (evI f 0)]:=AC.les (Qw1.k (M:=M) (Ma:=0) (l:=f) (a:=0) (by omega) (by omega) (by omega)) (.cons (le_refl _) (.cons le_i0v .nil))
  have hsl:=QtL L c
  have hnil:QiP L c≠ []:=fun h=>by rw[h] at hsl;simp at hsl;omega
  repeat(refine zS ?_;intros)
  rename_i g8 g13 g15
  obtain⟨S,hS⟩: ∃S,QiP L c=S:=⟨_,rfl⟩
  have hSm:=QtM hi
  rw[hS] at hsl hnil hds hg0 hK hSm
  have hS32: ∀u∈S,u.length≤32:=fun u h=>(hu u (hSm u h)).1
  refine aL1 [0,1,2,4,8,13,15,25,26] (fun k=>[(14,Am.N (Qd8 (S.take k))),(27,Am.N k)]) (fun k=>[.arr 25 1 (itl M (QpU m (ldP f) (S.take k))),.arr 25 1 (itl M (ldP f)),.arr 25 2 [iv M (m:Int)],.arr 3 1 (c.map Am.N)]) (fun k=>k≤c.length) (fun k=>c.length -k) 0 (by omega) (entL (.cons zle (.cons zle .nil)) zk (.cons (ob_i rfl (by omega)) (HLe.refl _))) fun k hk=> ?_
  have hdk:Qd8 (S.take k)≤32*32:=Nat.le_trans (QrF fun u h=>hS32 u (List.mem_of_mem_take h)) (by rw[List.length_take];omega)
  repeat(refine zS ?_;intros)
  refine zB ?_ ?_<;>intro h
  · have hik:=hi _ (Qif (c:=c) (k:=k) (by omega))
    have hst:=Qk9 (L:=L) (c:=c) (k:=k) (by omega)
    have⟨a1,a2⟩:=hu _ (QbC hik)
    rw[hS] at hst
    obtain⟨i,ei⟩: ∃i,c.getD k 0=i:=⟨_,rfl⟩
    rw[ei] at hik hst a1 a2
    obtain⟨u,eu⟩: ∃u,L.getD i []=u:=⟨_,rfl⟩
    rw[eu] at hst a1 a2
    obtain⟨e,he⟩: ∃e,(Xa u).length=e+1:=⟨(Xa u).length -1,by omega⟩
    have hut:=Xe u
    have hc1:=Qkl m (ldP f) (S.take k) u
    have hd1:=Qp6 (S.take k) u
    rw[←hst] at hc1 hd1
    rw[he,Nat.add_sub_cancel] at hd1
    have hevu:=hev u a1
    obtain⟨z,ez⟩: ∃z,QpU m (ldP f) (S.take k)=z:=⟨_,rfl⟩
    obtain⟨d,ed⟩: ∃d,Qd8 (S.take k)=d:=⟨_,rfl⟩
    rw[ez] at hc1
    rw[ed] at hd1 hdk
    rw[ez,ed]
    repeat(refine zS ?_;intros)
    rw[ei]
    repeat(refine zS ?_;intros)
    rw[eu]
    repeat(refine zS ?_;intros)
    rw[he,show(((e+1:Nat):Int) -1)=((e:Nat):Int) by omega]
    repeat(refine zS ?_;intros)
    rw[eu]
    repeat(refine zS ?_;intros)
    exact ag1 (k+1) (by omega) (entL (.cons (leI (by rw[hd1,Int.natCast_add])) (.cons zle .nil)) zk (.cons (ob_i (by rw[hc1]) (by omega)) (HLe.refl _)))
  obtain rfl:k=c.length:=by omega
  have hSt:S.take c.length=S:=List.take_of_length_le (by omega)
  rw[hSt] at hdk⊢
  rw[QuK hm hnil]
  have hbl:(Qap size φ).length=size:=Qd4
  have hbg:(Qap size φ).getD (Qd8 S) false=φ (Qd8 S):=QdB hds
  obtain⟨q,hq⟩: ∃q,Qd8 S=q:=⟨_,rfl⟩
  rw[hq] at hbg hds hK⊢
  obtain⟨z,ez⟩: ∃z,YY m (ldP f*evI (pL S) 0)=z:=⟨_,rfl⟩
  rw[ez] at hK⊢
  repeat(refine zS ?_;intros)
  rw[hbg]
  cases hφ:φ q
  · repeat(refine zS ?_;intros)
    exact aRet (rs:=[_,_,_]) rfl rfl (.cons _ (.cons _ (.cons _ (.refl _)))) (arT zv le_p0 (arT zv le_p0 (arT zv (le_refl _) arN))) (hK.2 fun h=>by rw[hφ] at h;cases h)
  repeat(refine zS ?_;intros)
  refine zB ?_ ?_<;>intro h2
  · repeat(refine zS ?_;intros)
    exact aRet (rs:=[_,_,_]) rfl rfl (.cons _ (.cons _ (.cons _ (.refl _)))) (arT zv le_p0 (arT zv le_p0 (arT zv (le_refl _) arN))) (hK.2 fun _ h=>absurd h h2)
  repeat(refine zS ?_;intros)
  refine aL1 [0,1,8,69,70] (fun k=>[(18,pc M (Qi6 m [ldP f] (S.take k))),(71,Am.N k)]) (fun _=>[.arr 25 1 (itl M z),.arr 25 1 (itl M (ldP f)),.arr 25 2 [iv M (m:Int)],.arr 3 1 (c.map Am.N)]) (fun k=>k≤c.length) (fun k=>c.length -k) 0 (by omega) (entL (.cons (by exact le_refl (pc M [ldP f])) (.cons zle .nil)) zk (HLe.refl _)) fun k hk=> ?_
  have hXl:(Qi6 m [ldP f] (S.take k)).length≤1+32*32:=Nat.le_trans (Qox fun u h=>hS32 u (List.mem_of_mem_take h)) (by rw[List.length_take];simp;omega)
  repeat(refine zS ?_;intros)
  refine zB ?_ ?_<;>intro h
  · have hik:=hi _ (Qif (c:=c) (k:=k) (by omega))
    have hst:=Qk9 (L:=L) (c:=c) (k:=k) (by omega)
    have⟨a1,a2⟩:=hu _ (QbC hik)
    rw[hS] at hst
    obtain⟨i,ei⟩: ∃i,c.getD k 0=i:=⟨_,rfl⟩
    rw[ei] at hik hst a1 a2
    obtain⟨u,eu⟩: ∃u,L.getD i []=u:=⟨_,rfl⟩
    rw[eu] at hst a1 a2
    have hp1:=QkX m [ldP f] (S.take k) u
    rw[←hst] at hp1
    obtain⟨X,eX⟩: ∃X,Qi6 m [ldP f] (S.take k)=X:=⟨_,rfl⟩
    rw[eX] at hp1 hXl⊢
    have hpl:=Nat.le_trans (Xe (Xg X u)) (Yo X u)
    repeat(refine zS ?_;intros)
    rw[ei]
    repeat(refine zS ?_;intros)
    rw[eu]
    repeat(refine zS ?_;intros)
    exact ag1 (k+1) (by omega) (entL (.cons (le_pe hp1.symm (Nat.le_refl _)) (.cons zle .nil)) zk (HLe.refl _))
  obtain rfl:k=c.length:=by omega
  rw[hSt] at hXl⊢
  rw[QvJ hm hnil] at hXl⊢
  obtain⟨X,eX⟩: ∃X,Zg m (Xf (pL S) (ldP f))=X:=⟨_,rfl⟩
  rw[eX] at hXl hg0⊢
  have hgl:=Yz X
  have hXt:=Xe X
  rw[←hg0] at hgl
  repeat(refine zS ?_;intros)
  rw[←hg0]
  repeat(refine zS ?_;intros)
  refine⟨fun Q hx hl=> ?_,fun hf=> ?_⟩
  · repeat(refine zS ?_;intros)
    exact aRet (rs:=[_,_,_]) rfl rfl (.cons _ (.cons _ (.cons _ (.refl _)))) (arT zv (le_refl _) (arT zv (le_refl _) (arT zv (le_refl _) arN))) (hK.1 Q (QP.eq fun x=>by simp only[v_P,Xq];exact hx x) hl)
  · repeat(refine zS ?_;intros)
    exact aRet (rs:=[_,_,_]) rfl rfl (.cons _ (.cons _ (.cons _ (.refl _)))) (arT zv le_p0 (arT zv le_p0 (arT zv (le_refl _) arN))) (hK.2 fun _ _=>Qgj hc0 hl0 hf)⟩
end Go.Proofs.YtjdpemcnlejpfaaGreatDoor
