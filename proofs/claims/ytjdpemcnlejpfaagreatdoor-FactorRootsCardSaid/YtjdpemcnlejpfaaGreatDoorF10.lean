/-
  F10, F11
-/
import Derived.Test.YtjdpemcnlejpfaaGreatDoorH7
import Derived.Test.YtjdpemcnlejpfaaGreatDoorSuitThy
set_option linter.all false
namespace Go.Proofs.YtjdpemcnlejpfaaGreatDoor
open Go.RowKit Go.Gx Go.Am Tryz
theorem Rel.mineF{C:Ctx}{env:Nat→AV}{H:Hp}{S:Nat→Prop}{e:Nat→Value}{w:World}{g1:Nat}{o1 o2 o:Ob}{g:Option Nat}(hC:C.F=inH [(some g1,o1)])(r:Rel C env H S e w){j i:Nat}(hj:H[j]? =some (g,o))(hi:H[i]? =some (some g1,o2))(hij:i≠j): ∀b,g=some b→C.w0.heap.size≤b:=fun b hb=>by
  refine(r.own.ow _ (List.mem_of_getElem? hj) b hb).2.resolve_left fun hF=> ?_
  rw[hC] at hF
  obtain⟨x,hx,hx1⟩:=hF
  rw[List.mem_singleton.1 hx] at hx1
  have e1:g1=b:=by simpa using hx1
  subst e1
  obtain⟨hi1,hi2⟩:=List.getElem?_eq_some_iff.1 hi
  obtain⟨hj1,hj2⟩:=List.getElem?_eq_some_iff.1 hj
  have hp:=List.pairwise_iff_getElem.1 r.own.nd
  rcases Nat.lt_or_ge i j with h|h
  · exact hp i j hi1 hj1 h g1 (by rw[hi2]) (by rw[hj2];exact hb)
  · exact hp j i hj1 hi1 (by omega) g1 (by rw[hj2];exact hb) (by rw[hi2])
theorem QsO{C:Ctx}{env:Nat→AV}{H:Hp}{g1:Nat}{o1 o2:Ob}(hC:C.F=inH [(some g1,o1)]){s z m c:Nat}{g:Option Nat}{t:TypeId}{l:List AV}(hs:env s=gh g m c)(j:Nat)(hj:H[j]? =some (g,.gro t z l c))(hm:l.length=m)(i:Nat)(hi:H[i]? =some (some g1,o2))(hij:i≠j):Ent C env H (updA env s (sl z l)) (H.eraseIdx j):=by
  unfold Ent
  exact fun e w S r=>⟨_,by have :=(r.share j hj (Rel.mineF hC r hj hi hij)).upd (d:=s) (gh_sl (av_tmp hs r) r j hj hm);rwa [upd_same'] at this⟩
instance Qx2:TK prog 151 (∀{M g cp:Nat}{L:List (List Int)}{c:List Nat}(_:L.length≤1000)(_:c.length≤1000),AC prog 151 [(some g,.arr 3 1 (c.map Am.N))] [pcs M L,lsl 1 g 0 c.length cp] fun K=>K [(some g,.arr 3 1 (c.map Am.N))] [pcs M (Qdh 0 L c)]):=⟨fun {M g cp L c} hL hc=>by
  have hcm:(c.map Am.N).length=c.length:=List.length_map ..
  refine aEnterF func151 rfl ntmps151 rfl fun K C hC hK=> ?_
  repeat(refine zS ?_;intros)
  refine AW.ent (entGro 30 1) ?_
  refine aLoop [1,8,9] (fun x:Option Nat×Nat×Nat=>[(5,gh x.1 (Qdh 0 (L.take x.2.2) c).length x.2.1),(10,Am.N x.2.2)]) (fun x=>[(x.1,.gro 30 1 ((Qdh 0 (L.take x.2.2) c).map (pc M)) x.2.1),(some g,.arr 3 1 (c.map Am.N))]) (fun x=>x.2.2≤L.length) (fun x=>L.length -x.2.2) (none,0,0) (Nat.zero_le _) (entL (.cons Qas (.cons zle .nil)) zk (HLe.refl _)) fun⟨k0,c0,k⟩ hk=> ?_
  dsimp only at hk⊢
  repeat(refine zS ?_;intros)
  refine zB ?_ ?_<;>intro h
  · have hlk:(L.take k).length=k:=by rw[List.length_take];omega
    have hsn:=Qiu (c:=c) (a:=L.getD k []) (Z:=L.take k) (o:=0)
    rw[hlk,Nat.zero_add,show L.take k++[L.getD k []]=L.take (k+1) by rw[List.take_add_one];simp [List.getD,show k<L.length by omega]] at hsn
    obtain⟨u,eu⟩: ∃u,L.getD k []=u:=⟨_,rfl⟩
    rw[eu] at hsn
    have hct:AC prog 209 [] [sl 1 (c.map Am.N),Am.N k] fun K=>K [] [Bo (decide (k∈c))]:=Qxh.k (by omega)
    have ho:(Qdh 0 (L.take k) c).length≤1000:=by
      have key: ∀(Z:List (List Int)) o,(Qdh o Z c).length≤Z.length:=by
        intro Z
        induction Z with
        |nil=>intro o;simp [Qdh]
        |cons a Z ih=>intro o;have :=ih (o+1);unfold Qdh;split<;>simp <;>omega
      have :=key (L.take k) 0;omega
    repeat(refine zS ?_;intros)
    rw[eu]
    repeat(refine zS ?_;intros)
    refine alO (aoCallB le_fnv hct (agO zv 1 (by exact rfl) (by omega) ⟨_,.tail _ (.head _),rfl⟩ (.of_eq (by rw[List.drop_zero,List.take_of_length_le (by omega)])) (agC (a:=I .i64 (k:Int)) zv (le_refl _) (agNil zcs))) (by exact rfl)) zg ?_
    repeat(refine zS ?_;intros)
    refine zB ?_ ?_<;>intro h2
    · rw[if_neg h2] at hsn
      repeat(refine zS ?_;intros)
      rename_i k1 c1
      exact aAgain (k1,c1,k+1) (by show k+1≤L.length;omega) (by show L.length -(k+1)<L.length -k;omega) (entL (.cons (Qcr (by rw[hsn];simp)) (.cons zle .nil)) zk (.cons (Qa4 (by rw[hsn,List.map_append];rfl)) (HLe.refl _)))
    · rw[if_pos (Classical.not_not.1 h2),List.append_nil] at hsn
      repeat(refine zS ?_;intros)
      exact aAgain (k0,c0,k+1) (by show k+1≤L.length;omega) (by show L.length -(k+1)<L.length -k;omega) (entL (.cons (Qcr (by rw[hsn])) (.cons zle .nil)) zk (.cons (Qa4 (by rw[hsn])) (HLe.refl _)))
  · obtain rfl:k=L.length:=by omega
    rw[List.take_length]
    repeat(refine zS ?_;intros)
    refine AX.ent (QsO hC (s:=4) (by exact rfl) 0 (by exact rfl) (by rw[List.length_map]) 1 (by exact rfl) (by decide)) ?_
    exact aRet (rs:=[_]) rfl rfl (.refl _) zr hK⟩
theorem QrF: ∀{l:List (List Int)},(∀u∈l,u.length≤32)→Qd8 l≤32*l.length
  | [],_=>by simp [Qd8]
  |a::l,h=>by
    have h1:=QrF (l:=l) fun u hu=>h u (by simp [hu])
    have h2:=h a (by simp)
    have h3:=Xe a
    have h4:Qd8 (a::l)=((Xa a).length -1)+Qd8 l:=rfl
    rw[List.length_cons];omega
theorem Qox{m:Nat}: ∀{l:List (List Int)}{X:List Int},(∀u∈l,u.length≤32)→(Qi6 m X l).length≤X.length+32*l.length
  | [],X,_=>by simp [Qi6]
  |a::l,X,h=>by
    have h1:=Qox (m:=m) (l:=l) (X:=Zg m (Xa (Xg X a))) fun u hu=>h u (by simp [hu])
    have h2:=h a (by simp)
    have h3:=Zu m (Xa (Xg X a))
    have h4:=Nat.le_trans (Xe (Xg X a)) (Yo X a)
    have h5:Qi6 m X (a::l)=Qi6 m (Zg m (Xa (Xg X a))) l:=rfl
    rw[h5,List.length_cons];omega
theorem QtM{L:List (List Int)}{c:List Nat}(hi: ∀i∈c,i<L.length): ∀u∈QiP L c,u∈L:=fun u hu=>by
  unfold QiP at hu
  obtain⟨i,h,rfl⟩:=List.mem_map.1 hu
  exact QbC (hi i h)
theorem Qif{c:List Nat}{k:Nat}(h:k<c.length):c.getD k 0∈c:=by
  simp only[List.getD,List.getElem?_eq_getElem h,Option.getD_some];exact List.getElem_mem h
set_option maxHeartbeats 4000000 in
instance Qxc:TK prog 150 (∀{M m size gs cp:Nat}{f:List Int}{L:List (List Int)}{c:List Nat}{φ:Nat→Bool}{g0:List Int}(_:2≤M∧M≤64)(_:0<m)(_:f.length≤32)(_:L.length≤32)(_: ∀u∈L,u.length≤32∧1≤(Xa u).length) (_:1≤c.length∧c.length≤32) (_: ∀i∈c,i<L.length) (_:Qd8 (QiP L c)<size) (_:g0=Xr (Zg m (Xf (pL (QiP L c)) (ldP f)))) (_:ldP g0≠0) (_:Xy g0=1),AC prog 150 [(some gs,.arr 3 1 (c.map Am.N))] [pv M f,pcs M L,lsl 1 gs 0 c.length cp,iv M (m:Int),sl 1 ((Qap size φ).map Bo)] fun K=>(∀r,P f=P r*P g0→r.length=(Xa f).length -((Xa g0).length -1)→K [(some gs,.arr 3 1 (c.map Am.N))] [pc M g0,pc (M+(M+g0.length+4)*f.length) r,Bo true])∧((φ (Qd8 (QiP L c))=true→YY m (ldP f*evI (pL (QiP L c)) 0)∣ldP f*evI f 0→ ¬P g0∣P f)→K [(some gs,.arr 3 1 (c.map Am.N))] [pc M [],pc M [],Bo false])):=⟨fun {M m size gs cp f L c φ g0} hM hm hf hL hu hc hi hds hg0 hl0 hc0=>by
  have hcm:(c.map Am.N).length=c.length:=List.length_map ..
  refine aEnterF func150 rfl ntmps150 rfl fun K C hC hK=> ?_
  have hev: ∀u:List Int,u.length≤32→AC prog 207 [] [pc M u,agg [Bo false,nilS]] fun K=>K [] [it (M+u.length*1) (evI u 0)]:=fun u hul=>AC.les (Qw1.k (M:=M) (Ma:=0) (l:=u) (a:=0) (by omega) (by omega) (by omega)) (.cons le_pcv0 (.cons le_i0v .nil))
  have hevf:AC prog 207 [] [pv M f,agg [Bo false,nilS]] fun K=>K [] [it (M+f.length*1) (evI f 0)]:=AC.les (Qw1.k (M:=M) (Ma:=0) (l:=f) (a:=0) (by omega) (by omega) (by omega)) (.cons (le_refl _) (.cons le_i0v .nil))
  have hsl:=QtL L c
  have hnil:QiP L c≠ []:=fun h=>by rw[h] at hsl;simp at hsl;omega
  repeat(refine zS ?_;intros)
  rename_i g8 g13 g15
  obtain⟨S,hS⟩: ∃S,QiP L c=S:=⟨_,rfl⟩
  have hSm:=QtM hi
  rw[hS] at hsl hnil hds hg0 hK hSm
  have hS32: ∀u∈S,u.length≤32:=fun u h=>(hu u (hSm u h)).1
  refine aL1 [0,1,2,4,8,13,15,25,26] (fun k=>[(14,Am.N (Qd8 (S.take k))),(27,Am.N k)]) (fun k=>[.arr 25 1 (itl M (QpU m (ldP f) (S.take k))),.arr 25 1 (itl M (ldP f)),.arr 25 2 [iv M (m:Int)],.arr 3 1 (c.map Am.N)]) (fun k=>k≤c.length) (fun k=>c.length -k) 0 (by omega) (entL (.cons zle (.cons zle .nil)) zk (.cons (ob_i rfl (by omega)) (HLe.refl _))) fun k hk=> ?_
  have hdk:Qd8 (S.take k)≤32*32:=Nat.le_trans (QrF fun u h=>hS32 u (List.mem_of_mem_take h)) (by rw[List.length_take];omega)
  repeat(refine zS ?_;intros)
  refine zB ?_ ?_<;>intro h
  · have hik:=hi _ (Qif (c:=c) (k:=k) (by omega))
    have hst:=Qk9 (L:=L) (c:=c) (k:=k) (by omega)
    have⟨a1,a2⟩:=hu _ (QbC hik)
    rw[hS] at hst
    obtain⟨i,ei⟩: ∃i,c.getD k 0=i:=⟨_,rfl⟩
    rw[ei] at hik hst a1 a2
    obtain⟨u,eu⟩: ∃u,L.getD i []=u:=⟨_,rfl⟩
    rw[eu] at hst a1 a2
    obtain⟨e,he⟩: ∃e,(Xa u).length=e+1:=⟨(Xa u).length -1,by omega⟩
    have hut:=Xe u
    have hc1:=Qkl m (ldP f) (S.take k) u
    have hd1:=Qp6 (S.take k) u
    rw[←hst] at hc1 hd1
    rw[he,Nat.add_sub_cancel] at hd1
    have hevu:=hev u a1
    obtain⟨z,ez⟩: ∃z,QpU m (ldP f) (S.take k)=z:=⟨_,rfl⟩
    obtain⟨d,ed⟩: ∃d,Qd8 (S.take k)=d:=⟨_,rfl⟩
    rw[ez] at hc1
    rw[ed] at hd1 hdk
    rw[ez,ed]
    repeat(refine zS ?_;intros)
    rw[ei]
    repeat(refine zS ?_;intros)
    rw[eu]
    repeat(refine zS ?_;intros)
    rw[he,show(((e+1:Nat):Int) -1)=((e:Nat):Int) by omega]
    repeat(refine zS ?_;intros)
    rw[eu]
    repeat(refine zS ?_;intros)
    exact ag1 (k+1) (by omega) (entL (.cons (leI (by rw[hd1,Int.natCast_add])) (.cons zle .nil)) zk (.cons (ob_i (by rw[hc1]) (by omega)) (HLe.refl _)))
  obtain rfl:k=c.length:=by omega
  have hSt:S.take c.length=S:=List.take_of_length_le (by omega)
  rw[hSt] at hdk⊢
  rw[QuK hm hnil]
  have hbl:(Qap size φ).length=size:=Qd4
  have hbg:(Qap size φ).getD (Qd8 S) false=φ (Qd8 S):=QdB hds
  obtain⟨q,hq⟩: ∃q,Qd8 S=q:=⟨_,rfl⟩
  rw[hq] at hbg hds hK⊢
  obtain⟨z,ez⟩: ∃z,YY m (ldP f*evI (pL S) 0)=z:=⟨_,rfl⟩
  rw[ez] at hK⊢
  repeat(refine zS ?_;intros)
  rw[hbg]
  cases hφ:φ q
  · repeat(refine zS ?_;intros)
    exact aRet (rs:=[_,_,_]) rfl rfl (.cons _ (.cons _ (.cons _ (.refl _)))) (arT zv le_p0 (arT zv le_p0 (arT zv (le_refl _) arN))) (hK.2 fun h=>by rw[hφ] at h;cases h)
  repeat(refine zS ?_;intros)
  refine zB ?_ ?_<;>intro h2
  · repeat(refine zS ?_;intros)
    exact aRet (rs:=[_,_,_]) rfl rfl (.cons _ (.cons _ (.cons _ (.refl _)))) (arT zv le_p0 (arT zv le_p0 (arT zv (le_refl _) arN))) (hK.2 fun _ h=>absurd h h2)
  repeat(refine zS ?_;intros)
  refine aL1 [0,1,8,69,70] (fun k=>[(18,pc M (Qi6 m [ldP f] (S.take k))),(71,Am.N k)]) (fun _=>[.arr 25 1 (itl M z),.arr 25 1 (itl M (ldP f)),.arr 25 2 [iv M (m:Int)],.arr 3 1 (c.map Am.N)]) (fun k=>k≤c.length) (fun k=>c.length -k) 0 (by omega) (entL (.cons (by exact le_refl (pc M [ldP f])) (.cons zle .nil)) zk (HLe.refl _)) fun k hk=> ?_
  have hXl:(Qi6 m [ldP f] (S.take k)).length≤1+32*32:=Nat.le_trans (Qox fun u h=>hS32 u (List.mem_of_mem_take h)) (by rw[List.length_take];simp;omega)
  repeat(refine zS ?_;intros)
  refine zB ?_ ?_<;>intro h
  · have hik:=hi _ (Qif (c:=c) (k:=k) (by omega))
    have hst:=Qk9 (L:=L) (c:=c) (k:=k) (by omega)
    have⟨a1,a2⟩:=hu _ (QbC hik)
    rw[hS] at hst
    obtain⟨i,ei⟩: ∃i,c.getD k 0=i:=⟨_,rfl⟩
    rw[ei] at hik hst a1 a2
    obtain⟨u,eu⟩: ∃u,L.getD i []=u:=⟨_,rfl⟩
    rw[eu] at hst a1 a2
    have hp1:=QkX m [ldP f] (S.take k) u
    rw[←hst] at hp1
    obtain⟨X,eX⟩: ∃X,Qi6 m [ldP f] (S.take k)=X:=⟨_,rfl⟩
    rw[eX] at hp1 hXl⊢
    have hpl:=Nat.le_trans (Xe (Xg X u)) (Yo X u)
    repeat(refine zS ?_;intros)
    rw[ei]
    repeat(refine zS ?_;intros)
    rw[eu]
    repeat(refine zS ?_;intros)
    exact ag1 (k+1) (by omega) (entL (.cons (le_pe hp1.symm (Nat.le_refl _)) (.cons zle .nil)) zk (HLe.refl _))
  obtain rfl:k=c.length:=by omega
  rw[hSt] at hXl⊢
  rw[QvJ hm hnil] at hXl⊢
  obtain⟨X,eX⟩: ∃X,Zg m (Xf (pL S) (ldP f))=X:=⟨_,rfl⟩
  rw[eX] at hXl hg0⊢
  have hgl:=Yz X
  have hXt:=Xe X
  rw[←hg0] at hgl
  repeat(refine zS ?_;intros)
  rw[←hg0]
  repeat(refine zS ?_;intros)
  refine⟨fun Q hx hl=> ?_,fun hf=> ?_⟩
  · repeat(refine zS ?_;intros)
    exact aRet (rs:=[_,_,_]) rfl rfl (.cons _ (.cons _ (.cons _ (.refl _)))) (arT zv (le_refl _) (arT zv (le_refl _) (arT zv (le_refl _) arN))) (hK.1 Q (QP.eq fun x=>by simp only[v_P,Xq];exact hx x) hl)
  · repeat(refine zS ?_;intros)
    exact aRet (rs:=[_,_,_]) rfl rfl (.cons _ (.cons _ (.cons _ (.refl _)))) (arT zv le_p0 (arT zv le_p0 (arT zv (le_refl _) arN))) (hK.2 fun _ _=>Qgj hc0 hl0 hf)⟩
end Go.Proofs.YtjdpemcnlejpfaaGreatDoor
namespace Go.Proofs.YtjdpemcnlejpfaaGreatDoor
open Go.RowKit Go.Gx Go.Am Tryz
section
variable{P:Program}{n:Nat}{D:List Deferred}{C:Ctx}{env:Nat→AV}{H:Hp}
theorem Qwg{l Dn p:Nat}{fn:FuncId}{assign body:Code}{e1:Nat→Value}{R':Ending→World→Prop}{D1:List Deferred}{H':Hp}(hH:H=(some l,.raw (.loop (recL D1 n e1 p assign body Dn fn .ready none)))::H')
    (h: ∀RO,Ob.raw (.loop (recL D1 n e1 p assign body Dn fn .busy none))=RO→AW P n D C body (roundPost P l R') env ((some l,RO)::H')):AX n D C (RB P l body R') .normal env H:=axRB hH (h _ rfl)
theorem QgJ{l Dn p:Nat}{fn:FuncId}{assign body:Code}{e1:Nat→Value}{D1:List Deferred}{H' H2:Hp}{RO:Ob}{x:Exit}{K:Hp→List AV→Prop}(j:Option Code)(hx:wayOf x=some j)(hR:Ob.raw (.loop (recL D1 n e1 p assign body Dn fn .busy none))=RO)(hH:H=(some l,RO)::H')(hle:HLe H' H2)
    (k:K ((some l,.raw (.loop (recL D1 n e1 p assign body Dn fn (lst j) j)))::H2) [Bo j.isNone]):AX n D C (roundPost P l (Ret (Post C K))) x env H:=by subst hR;exact axRd j hx hH hle k
end
theorem Qst{size:Nat}:(Qap size fun j=>decide (j<0))=List.replicate size false:=by
  unfold Qap
  rw[List.eq_replicate_iff]
  exact⟨by simp,fun b hb=>by obtain⟨j,_,rfl⟩:=List.mem_map.1 hb;simp⟩
theorem Qss{size k:Nat}(h:k<size):(Qap size fun j=>decide (j<k)).set k true=Qap size fun j=>decide (j<k+1):=by
  unfold Qap
  refine List.ext_getElem? fun i=> ?_
  rw[List.getElem?_set]
  simp only[List.getElem?_map,List.length_map,List.length_range]
  by_cases hi:i<size
  · rw[List.getElem?_range hi]
    by_cases h0:k=i
    · subst h0;rw[if_pos rfl,if_pos h];simp
    · rw[if_neg h0];simp only[Option.map_some];congr 1;simp;omega
  · rw[List.getElem?_eq_none (by simpa using hi)]
    by_cases h0:k=i
    · omega
    · rw[if_neg h0];rfl
def Qj9(φ ψ:Nat→Bool)(k q:Nat):Bool:=if q<k then φ q&&ψ q else φ q
theorem QuE{size k:Nat}{φ ψ:Nat→Bool}(h:k<size){b:Bool}(hb:b=(φ k&&ψ k)):(Qap size (Qj9 φ ψ k)).set k b=Qap size (Qj9 φ ψ (k+1)):=by
  unfold Qap
  refine List.ext_getElem? fun i=> ?_
  rw[List.getElem?_set]
  simp only[List.getElem?_map,List.length_map,List.length_range]
  by_cases hi:i<size
  · rw[List.getElem?_range hi]
    by_cases h0:k=i
    · subst h0;rw[if_pos rfl,if_pos h,hb];simp [Qj9]
    · rw[if_neg h0];simp only[Option.map_some];congr 1;unfold Qj9
      by_cases h2:i<k
      · rw[if_pos h2,if_pos (by omega)]
      · rw[if_neg h2,if_neg (by omega)]
  · rw[List.getElem?_eq_none (by simpa using hi)]
    by_cases h0:k=i
    · omega
    · rw[if_neg h0];rfl
def Qum(f:List Int)(p:Nat)(l:List (List Nat)):Prop:=PrS p∧Qlv p f l∧l.length≤17∧ ∀d∈l,d.length≤32
abbrev ChS:=Nat×List (List Nat)× (Nat→Bool)×Nat
def ChI(f:List Int)(n:Nat)(s:ChS):Prop:=2≤n∧s.2.2.2=QeU (fun p=>decide (Qbx p f)) n∧s.2.2.2<5∧Qbw f s.2.2.1∧(1≤s.2.2.2→Qum f s.1 s.2.1)
def ChF(f:List Int)(s:ChS):Prop:=Qum f s.1 s.2.1∧Qbw f s.2.2.1
theorem ChI.lt{f:List Int}{n B:Nat}{s:ChS}(h:ChI f n s)(h5:5≤QeU (fun p=>decide (Qbx p f)) B):n<B:=by
  apply Nat.lt_of_not_le
  intro hle
  have :=cnt_mono (S:=fun p=>decide (Qbx p f)) hle
  have h2:=h.2.1;have h3:=h.2.2.1
  omega
theorem ChI.skip{f:List Int}{n:Nat}{s:ChS}(h:ChI f n s)(hn:n<4096)(hp: ¬Xk n):ChI f (n+1) s:=by
  obtain⟨h1,h2,h3⟩:=h
  refine⟨by omega,?_,h3⟩
  rw[h2,QeU]
  have :ZN n=false:=Bool.eq_false_iff.2 fun e=>hp ((ZZ hn).1 e)
  rw[this];rfl
theorem ChI.miss{f:List Int}{n:Nat}{s:ChS}(h:ChI f n s)(hs: ¬Qbx n f):ChI f (n+1) s:=by
  obtain⟨h1,h2,h3⟩:=h
  refine⟨by omega,?_,h3⟩
  rw[h2,QeU,decide_eq_false hs,Bool.and_false];rfl
theorem ChI.hit{f:List Int}{n:Nat}{s:ChS}{p:Nat}{l:List (List Nat)}{φ:Nat→Bool}(h:ChI f n s)(hn:n<4096)(hp:Xk n)(hs:Qbx n f)(hφ:Qbw f φ)(hb:Qum f p l)(h5:s.2.2.2+1≠5):ChI f (n+1) (p,l,φ,s.2.2.2+1):=by
  obtain⟨h1,h2,h3,h4⟩:=h
  refine⟨by omega,?_,by show s.2.2.2+1<5;omega,hφ,fun _=>hb⟩
  show s.2.2.2+1=_
  rw[h2,QeU,decide_eq_true hs,(ZZ hn).2 hp];rfl
theorem Qnq{p:Nat}{f:List Int}{l:List (List Nat)}(hp:PrS p)(hs:Qbx p f)(hl:Zv p (Gx.zl (XS p (XO p (XR p f)))) l)(hll:l.length+1≤(XR p f).length): ∀d∈l,d.length≤(XR p f).length:=by
  have hc:=XK (p:=p) (by have :=hp.two;omega) f
  have hm:=(QfB hp.1 hc hs.2).1
  have e:=Qam hp.1 hc
  rw[hc.nrm] at hl
  have :=Qkt hp hm hl (by rw[e];exact hll)
  rwa [e] at this
theorem Qp9{l:List (List Nat)}:els 1 [Qi7 l]:=fun a ha=>by rw[List.mem_singleton.1 ha];exact⟨by rw[sl_sh];rfl,by rw[sl_sh];simp⟩
set_option maxHeartbeats 4000000 in
theorem QnE{f:List Int}(hf:f.length≤17)(hn:Nrm f)(h2:2≤f.length)(h5:5≤QeU (fun p=>decide (Qbx p f)) (Bof f.length)):AC prog 96 [] [pv 17 f] fun K=> ∀p l φ,Qum f p l→Qbw f φ→K [] [W32 p,Qi7 l,sl 1 ((Qap f.length φ).map Bo)]:=by
  refine aEnterM func96 rfl ntmps96 rfl fun K C hC hK=> ?_
  have hB4:=Quu f.length
  have hN:NoF C:=fun b hb=>by rw[hC] at hb;obtain⟨x,hx,_⟩:=hb;cases hx
  obtain⟨n0,hn0⟩: ∃n,f.length=n+1:=⟨f.length -1,by omega⟩
  have htl:(Xa f).length=n0+1:=by rw[hn.t];exact hn0
  repeat(refine zS ?_;intros)
  rw[show((Xa f).length:Int) -1+1=((f.length:Nat):Int) by omega]
  repeat(refine zS ?_;intros)
  rename_i g1 g2 g3 g4 gp
  refine AW.ent (entH (H':=[(some gp,.arr 4 1 ((Qap f.length fun j=>decide (j<0)).map Bo)),(some g4,.arr 130 1 [lsl 1 gp 0 f.length f.length]),(some g3,.arr 129 1 [Qi7 []]),(some g2,.arr 46 1 [W32 0]),(some g1,.arr 30 1 [pv 17 f])]) (.cons (ob_eq (by rw[Qst])) (.cons (ob_refl _) (.cons (ob_arr (.cons le_nil .nil) Qp9) (.cons (ob_refl _) (.cons (ob_refl _) (HLe.none _))))))) ?_
  refine aL1 [1,2,3,4,17] (fun k=>[(18,Am.N k)]) (fun k=>[.arr 4 1 ((Qap f.length fun j=>decide (j<k)).map Bo),.arr 130 1 [lsl 1 gp 0 f.length f.length],.arr 129 1 [Qi7 []],.arr 46 1 [W32 0],.arr 30 1 [pv 17 f]]) (fun k=>k≤f.length) (fun k=>f.length -k) 0 (by omega) (entL (.cons zle .nil) zk (HLe.refl _)) fun k hk=> ?_
  have hbl:(Qap f.length fun j=>decide (j<k)).length=f.length:=Qd4
  repeat(refine zS ?_;intros)
  refine zB ?_ ?_<;>intro h
  · have hset:=Qss (size:=f.length) (k:=k) (by omega)
    repeat(refine zS ?_;intros)
    exact ag1 (k+1) (by omega) (entL (.cons zle .nil) zk (.cons (ob_eq (by rw[←hset])) (HLe.refl _)))
  obtain rfl:k=f.length:=by omega
  repeat(refine zS ?_;intros)
  rename_i g6
  have hone:(Qap f.length fun j=>decide (j<f.length))=Qap f.length fun _=>true:=QcV fun q hq=>decide_eq_true hq
  refine aRange (el:=W32) (E:=fun s n=>Xk n∧ChI f n s) (Ψ:=fun s n kk=>(∀s',ChI f (n+1) s'→kk s' none)∧ ∀s' c,(some c=some (.exit 2)∧ChF f s')→kk s' (some c)) (Fin:=fun s j=>j=some (.exit 2)∧ChF f s) (G:=fun s=>[(some g6,.arr 3 1 [Am.N s.2.2.2]),(some gp,.arr 4 1 ((Qap f.length s.2.2.1).map Bo)),(some g4,.arr 130 1 [lsl 1 gp 0 f.length f.length]),(some g3,.arr 129 1 [Qi7 s.2.1]),(some g2,.arr 46 1 [W32 s.1]),(some g1,.arr 30 1 [pv 17 f])]) (s0:=((0,[],(fun _=>true),0):ChS)) (lb:=[ep (W32 2)]) zle rfl (.cons (ob_refl _) (.cons (ob_eq (by rw[hone])) (HLe.refl _))) ?_ (fun l w1 S1 LO hY=> ?_) ?_
  · intro lx Dn fn e1 s n hE K' C' hC' hK'
    obtain⟨hp,hI⟩:=hE
    have hnB:=hI.lt h5
    have hps:PrS n:=⟨hp,by omega⟩
    have hn1:=hps.two
    have hn2:=hps.lt
    have hn0':0<n:=by omega
    have hrl:=QeC hn0' f
    have htl':=Xe f
    have hnr:XO n (XR n f)=XR n f:=(XK hn0' f).nrm
    have hlf:(XR n f).length≤17:=by omega
    repeat(refine zS ?_;intros)
    refine Qwg rfl fun RO hRO=> ?_
    repeat(refine zS ?_;intros)
    refine zB ?_ ?_<;>intro hs
    · repeat(refine zS ?_;intros)
      exact QgJ none rfl hRO rfl (HLe.refl _) (hK'.1 s (hI.miss hs))
    have hs:Qbx n f:=Classical.not_not.1 hs
    have hsq:(XN n (XO n (XR n f)) (XR n (Xn (Gx.zl (XO n (XR n f)))))).length=1:=by rw[hnr];exact hs.2
    have hpow:n=2∨n^ (((XR n f).length -1)/2+1)≤9223372036854775808:= .inr (Nat.le_trans (Nat.pow_le_pow_right hn0' (by omega)) (Qsd hf hnB))
    repeat(refine zS ?_;intros)
    rename_i l hl hll
    have hF:=Qqg hp hs hl
    have hMon:=Qnq hps hs hl hll
    have hd1: ∀d∈l,d.length≤1000:=fun d hd=>by have :=hMon d hd;omega
    have hmon:=hF.mon
    repeat(refine zS ?_;intros)
    rename_i ψ hψ
    have hposs:=hI.2.2.2.1.and (hF.poss hψ)
    have hbest:Qum f n l:=⟨hps,hF,by omega,fun d hd=>by have :=hMon d hd;omega⟩
    obtain⟨P0,B0,φ,T⟩:=s
    dsimp only at hposs
    have hT5:=hI.2.2.1
    have hT:=hI.2.2.2.2
    have hhit:=fun P1 B1 hb=>hI.hit (φ:=fun q=>φ q&&ψ q) (p:=P1) (l:=B1) (by omega) hp hs hposs hb
    dsimp only at hT5 hT hhit
    have hll:l.length≤17:=hbest.2.2.1
    clear hpow hsq hl hF hMon hd1 hmon hψ hs hI hnB hn0 htl hnr hB4 hrl htl' hlf h5 hK hone hN
    repeat(refine zS ?_;intros)
    refine aL1 [1,2,3,4,6,7,8,10,25,26,45] (fun k=>[(46,Am.N k)]) (fun k=>[RO,.arr 3 1 [Am.N T],.arr 4 1 ((Qap f.length (Qj9 φ ψ k)).map Bo),.arr 130 1 [lsl 1 gp 0 f.length f.length],.arr 129 1 [Qi7 B0],.arr 46 1 [W32 P0],.arr 30 1 [pv 17 f]]) (fun k=>k≤f.length) (fun k=>f.length -k) 0 (by omega) (entL (.cons zle .nil) zk (.cons (ob_refl _) (.cons (ob_refl _) (.cons (ob_eq (by rw[QcV (φ:=Qj9 φ ψ 0) (ψ:=φ) fun q _=>by unfold Qj9;rw[if_neg (by omega)]])) (HLe.refl _))))) fun k hk=> ?_
    have hbl:(Qap f.length (Qj9 φ ψ k)).length=f.length:=Qd4
    have hbl2:(Qap f.length ψ).length=f.length:=Qd4
    repeat(refine zS ?_;intros)
    refine zB ?_ ?_<;>intro h
    · have e1:(Qap f.length (Qj9 φ ψ k)).getD k false=φ k:=by rw[QdB (by omega)];unfold Qj9;rw[if_neg (by omega)]
      have e2:(Qap f.length ψ).getD k false=ψ k:=QdB (by omega)
      have hset: ∀b,b=(φ k&&ψ k)→(Qap f.length (Qj9 φ ψ k)).set k b=Qap f.length (Qj9 φ ψ (k+1)):=fun b hb=>QuE (by omega) hb
      repeat(refine zS ?_;intros)
      rw[e1]
      cases hφk:φ k
      · rw[hφk,Bool.false_and] at hset
        repeat(refine zS ?_;intros)
        exact ag1 (k+1) (by omega) (entL (.cons zle .nil) zk (.cons (ob_refl _) (.cons (ob_refl _) (.cons (ob_eq (by rw[hset _ rfl])) (HLe.refl _)))))
      · rw[hφk,Bool.true_and] at hset
        repeat(refine zS ?_;intros)
        rw[e2]
        repeat(refine zS ?_;intros)
        exact ag1 (k+1) (by omega) (entL (.cons zle .nil) zk (.cons (ob_refl _) (.cons (ob_refl _) (.cons (ob_eq (by rw[hset _ rfl])) (HLe.refl _)))))
    obtain rfl:k=f.length:=by omega
    rw[QcV (φ:=Qj9 φ ψ f.length) (ψ:=fun q=>φ q&&ψ q) fun q hq=>by unfold Qj9;rw[if_pos hq]]
    repeat(refine zS ?_;intros)
    refine zB ?_ ?_<;>intro h6
    · repeat(refine zS ?_;intros)
      refine zB ?_ ?_<;>intro h7<;>repeat(refine zS ?_;intros)
      · exact QgJ (some (.exit 2)) rfl hRO rfl (HLe.refl _) (hK'.2 (n,l,fun q=>φ q&&ψ q,T+1) (.exit 2) ⟨rfl,hbest,hposs⟩)
      · exact QgJ none rfl hRO rfl (HLe.refl _) (hK'.1 (n,l,fun q=>φ q&&ψ q,T+1) (hhit n l hbest (by omega)))
    have hT:=hT (by omega)
    have hB17:B0.length≤17:=hT.2.2.1
    repeat(refine zS ?_;intros)
    refine zB ?_ ?_<;>intro h7<;>repeat(refine zS ?_;intros)
    · refine zB ?_ ?_<;>intro h8<;>repeat(refine zS ?_;intros)
      · exact QgJ (some (.exit 2)) rfl hRO rfl (HLe.refl _) (hK'.2 (n,l,fun q=>φ q&&ψ q,T+1) (.exit 2) ⟨rfl,hbest,hposs⟩)
      · refine zB ?_ ?_<;>intro h9<;>repeat(refine zS ?_;intros)
        · exact QgJ (some (.exit 2)) rfl hRO rfl (HLe.refl _) (hK'.2 (n,l,fun q=>φ q&&ψ q,T+1) (.exit 2) ⟨rfl,hbest,hposs⟩)
        · exact QgJ none rfl hRO rfl (HLe.refl _) (hK'.1 (n,l,fun q=>φ q&&ψ q,T+1) (hhit n l hbest (by omega)))
    · refine zB ?_ ?_<;>intro h8<;>repeat(refine zS ?_;intros)
      · exact QgJ (some (.exit 2)) rfl hRO rfl (HLe.refl _) (hK'.2 (P0,B0,fun q=>φ q&&ψ q,T+1) (.exit 2) ⟨rfl,hT,hposs⟩)
      · refine zB ?_ ?_<;>intro h9<;>repeat(refine zS ?_;intros)
        · exact QgJ (some (.exit 2)) rfl hRO rfl (HLe.refl _) (hK'.2 (P0,B0,fun q=>φ q&&ψ q,T+1) (.exit 2) ⟨rfl,hT,hposs⟩)
        · exact QgJ none rfl hRO rfl (HLe.refl _) (hK'.1 (P0,B0,fun q=>φ q&&ψ q,T+1) (hhit P0 B0 hT (by omega)))
  · have :=QnD LO (ChI f) (fun s j=>j=some (.exit 2)∧ChF f s) (fun n s h hnp=>h.skip (by have :=h.lt h5;omega) hnp) (fun n s h=>by have :=h.lt h5;omega) (fun s n hE=>hY s n hE) (s0:=((0,[],(fun _=>true),0):ChS)) ⟨Nat.le_refl _,rfl,by decide,fun _ _ _=>rfl,fun h=>absurd h (by decide)⟩
    exact this
  · intro Dn s j hj
    obtain⟨rfl,hb,hφ⟩:=hj
    show AT _ _ _ _ _ _ _ _
    repeat(refine zS ?_;intros)
    refine aDrT [(3,g2),(4,g3)] [0,1,2,3,4,5] (zS ?_)
    refine adEw (q:=4) (js:=[(3,5)]) (by exact rfl) ye (by exact rfl) zg (by kernel_rfl) zjs1 ?_
    refine adEw (q:=3) (js:=[(3,5),(4,4)]) (by exact rfl) ye (by exact rfl) zg (by kernel_rfl) zjs ?_
    refine AD.ent (entFzS hN (s:=85) (by exact rfl) 2 (by exact rfl) (by rw[List.length_map];exact Qd4) (a:=sl 1 ((Qap f.length s.2.2.1).map Bo)) (le_refl _)) ?_
    repeat(refine zS ?_;intros)
    exact aRetM (rs:=[_,_,_]) rfl rfl (by exact rfl) (List.nil_sublist _) (arC zv 3 (by exact rfl) (by exact rfl) (by kernel_rfl) (le_refl _) (arC zv 2 (by exact rfl) (by exact rfl) (by kernel_rfl) (le_refl _) (arC zv 1 (by exact rfl) (by exact rfl) (by kernel_rfl) (le_refl _) arN))) (hK _ _ _ hb hφ)
instance c96:TK prog 96 (∀{f:List Int}(_:f.length≤17)(_:Nrm f)(_:2≤f.length)(_:5≤QeU (fun p=>decide (Qbx p f)) (Bof f.length)),AC prog 96 [] [pv 17 f] fun K=> ∀p l φ,Qum f p l→Qbw f φ→K [] [W32 p,Qi7 l,sl 1 ((Qap f.length φ).map Bo)]):=⟨fun hf hn h2 h5=>QnE hf hn h2 h5⟩
end Go.Proofs.YtjdpemcnlejpfaaGreatDoor
