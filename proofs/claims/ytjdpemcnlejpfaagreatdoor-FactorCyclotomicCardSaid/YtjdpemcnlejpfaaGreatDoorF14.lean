/-
  F14, F15, F16, G1, G2, G3, G7
-/
import Derived.Test.YtjdpemcnlejpfaaGreatDoorF12
import Derived.Test.YtjdpemcnlejpfaaGreatDoorLawLift
import Derived.Test.YtjdpemcnlejpfaaGreatDoorAmS2
import Derived.Test.YtjdpemcnlejpfaaGreatDoorCycThy
set_option linter.all false
namespace Go.Proofs.YtjdpemcnlejpfaaGreatDoor
open Go.RowKit Go.Gx Go.Am Tryz
instance c61:TK prog 61 (∀{k:Option Nat}{c:Nat}{l:List (List Int×Nat)}(_:l.length≤1000)(_: ∀x∈l,x.1.length≤1048576),AC prog 61 [(k,.gro 53 2 (l.map (fv 17)) c)] [gh k l.length c,fnv 62 []] fun K=> ∀l':List (List Int×Nat),l'.Perm l→(l'.Pairwise fun x y=> ¬Qbv (Xa y.1) (Xa x.1)<0)→K [(k,.gro 53 2 (l'.map (fv 17)) c)] []):=⟨fun {k c l} hl hf=>
  AC.imp (acSortK Tryz.sortF (z:=2) (fun _=>by kernel_rfl) (fun _=>by kernel_rfl) (F:=fv 17) (fun _=>agg_sh) (by decide) (QhB fun x:List Int×Nat=>Xa x.1) (g:=62) (cs:=[]) (TC.ca) (fun x hx y hy=>c62.k (hf x hx) (hf y hy)) rfl (by omega)) fun K h l' hp hs=>h l' hp hs⟩
theorem Qo0{f:List Int}{l:List (List Int)}(h:QgG f l): ∀g∈l,P g∣P f:=fun g hg=>by rw[←h.prod];exact QkS hg
theorem Qrc{f:List Int}{l:List (List Int)}(hf:Nrm f)(h:QgG f l): ∀g∈l,g.length≤f.length:=fun g hg=>by
  have h1:=Qaj (Qo0 h g hg) hf.ne
  rw[Yj,Yj,(h.n g hg).t,hf.t] at h1
  exact h1
instance c28:TK prog 28 (∀{M:Nat}{F:List Int}(_:FcF F M),AC prog 28 [] [pv M F] fun K=>(¬Qem (P F) (der (P F))→K [] [pcs 18 [],I .i64 5])∧(Qem (P F) (der (P F))→ ∀l,QgG (Xr F) l→l.length≤17→(l.Pairwise fun x y=> ¬Qbv (Xa y) (Xa x)<0)→K [] [pcs 18 l,I .i64 0])):=⟨fun {M F} hF=>by
  refine aEnter func28 rfl ntmps28 rfl fun K C hC hK=> ?_
  obtain⟨hM,hl,⟨m,hb,hm⟩,hsp⟩:=hF
  repeat(refine zS ?_;intros)
  rename_i b hbq
  cases b
  · have hnc: ¬Qem (P F) (der (P F)):=fun h=>by have :=hbq.2 h;cases this
    rw[show(!false)=true from rfl]
    repeat(refine zS ?_;intros)
    exact aRet2 rfl zv zv (hK.1 hnc) le_nil (le_refl _)
  have hsq:=hbq.1 rfl
  rw[show(!true)=false from rfl]
  have hF0:P F≠0:=fun h0=>Qir (by rw[h0] at hsq;exact hsq)
  have hpn:=YD hF0
  have hpl:=Yz F
  have hT:=Xe F
  have hdp:P (Xr F)∣P F:=by rw[QaK ((Xz F).2 hF0),Qdz (by have :=XC (Yi ((Xz F).2 hF0));grind)];exact XL _
  have hpsq:Qem (P (Xr F)) (der (P (Xr F))):=(Qav hpn.ne).2 fun π hπ=>by rw[QcP hπ hF0];exact(Qav hF0).1 hsq π hπ
  have hS:=hsp hF0 _ hpn hdp hpsq
  have hb17:=Qnw hb hpn hm
  have hspl:AC prog 60 [] [pc M (Xr F)] fun K=> ∀k c (l:List (List Int)),QgG (Xr F) l→l.length≤17→K [(k,.gro 30 1 (l.map (pc 18)) c)] [gh k l.length c]:=AC.les (c60.k hS) (.cons (QcI hb17) .nil)
  repeat(refine zS ?_;intros)
  rename_i k c l hl1 hl2
  have hlens:=Qrc hpn hl1
  have hl9: ∀g∈l,g.length≤1048576:=fun g hg=>by have :=hlens g hg;omega
  refine alO (zcallO 0 (by exact rfl)) zg ?_
  intro l' hp hs
  refine⟨rfl,?_⟩
  have hll:=hp.length_eq
  repeat(refine zS ?_;intros)
  refine AX.ent (entFzG hC (s:=2) (by exact rfl) 0 (by exact rfl) (by rw[List.length_map];exact hll)) ?_
  exact aRet2 rfl zv zv (hK.2 hsq l' (hl1.perm hp) (by omega) hs) (le_refl _) (le_refl _)⟩
theorem QuP{p:QP}{k:Nat}{ds:List (List Int×Nat)}(h:DL p k ds):DL p (max k 1) ds:=⟨h.e,fun f hf=>by have :=h.lt f hf;omega,h.asc,fun π hπ h1 h2=>h.all π hπ h1 (by omega)⟩
theorem QsK{p:List Int}{k:Nat}{ds:List (List Int×Nat)}(h:DL (P p) k ds)(e:Qfw ds=P p): ∀π,Irr π→va π (P p)<max k 1:=fun π hπ=>by
  rcases Nat.eq_zero_or_pos (va π (P p)) with h0|h0
  · omega
  · apply Nat.lt_of_not_le
    intro hle
    have :=(QhK hπ ds h.e h.asc).2 fun f hf=>by have :=h.lt f hf;omega
    rw[e] at this;omega
theorem QrA{p:List Int}{d:List Int×Nat}(h:DE (P p) d)(hp:P p≠0):P d.1∣P p:=QaN h.n.ne hp fun π hπ=>by
  rw[h.v π hπ];have :=h.k1;split<;>omega
theorem Qln{ds:List (List Int×Nat)}(h:ds.Pairwise fun a b=>a.2<b.2){k:Nat}{d:List Int×Nat}(hk:ds[k]? =some d): ∀x∈ds.take k,x∈ds∧x.2<d.2:=fun x hx=>by
  obtain⟨i,hi⟩:=List.getElem?_of_mem hx
  rw[List.getElem?_take] at hi
  split at hi
  · rename_i hik
    obtain⟨h1,h2⟩:=List.getElem?_eq_some_iff.1 hi
    obtain⟨h3,h4⟩:=List.getElem?_eq_some_iff.1 hk
    have :=List.pairwise_iff_getElem.1 h i k h1 h3 hik
    rw[h2,h4] at this
    exact⟨List.mem_of_getElem? hi,this⟩
  · cases hi
theorem Qqf{l:List (List Int)}{j e:Nat}{L:List (List Int×Nat)}(h:j<l.length):L++(l.take (j+1)).map (fun g=>(g,e))=(L++(l.take j).map fun g=>(g,e))++[(l.getD j [],e)]:=by
  rw[List.take_add_one,List.map_append,List.append_assoc]
  simp [List.getD,h]
set_option maxHeartbeats 4000000 in
instance c20:TK prog 20 (∀{M:Nat}{F:List Int}(_:FcF F M),AC prog 20 [] [pv M F] fun K=> ∀fs,Quw F fs→K [] [it (max M 2) (Yc F),sl 2 (fs.map (fv 17))]):=⟨fun {M F} hF=>by
  refine aEnter func20 rfl ntmps20 rfl fun K C hC hK=> ?_
  obtain⟨hM,hl,⟨m,hb,hm⟩,hsp⟩:=hF
  repeat(refine zS ?_;intros)
  rename_i g2
  refine⟨fun h=> ?_,fun ds hd hdl=> ?_⟩
  · repeat(refine zS ?_;intros)
    rename_i g4
    refine AW.ent (entGro 53 2) ?_
    refine aLoop [2,4,16,17] (fun _:Unit=>[(6,gh none 0 0),(18,Am.N 0)]) (fun _=>[(none,.gro 53 2 (([]:List (List Int×Nat)).map (fv 17)) 0),(some g4,.arr 25 1 (itl 0 0)),(some g2,.arr 25 1 [Bo false,nilS])]) (fun _=>True) (fun _=>0) () trivial (entL (.cons Qas (.cons zle .nil)) zk (HLe.refl _)) fun _ _=> ?_
    repeat(refine zS ?_;intros)
    refine zB ?_ ?_<;>intro h9
    · exact absurd h9 (by simp)
    have hl0:([]:List (List Int×Nat)).length≤1000:=by simp
    have hx0: ∀x∈([]:List (List Int×Nat)),x.1.length≤1048576:=by simp
    repeat(refine zS ?_;intros)
    refine alO (zcallO 0 (by exact rfl)) zg ?_
    intro L' hp hs
    refine⟨rfl,?_⟩
    obtain rfl:=hp.eq_nil
    repeat(refine zS ?_;intros)
    refine AX.ent (entFzG hC (s:=3) (by exact rfl) 0 (by exact rfl) (by simp)) ?_
    have hK0:=hK [] (.inl ⟨h,rfl⟩)
    rw[ZY h] at hK0
    exact aRet (rs:=[_,_]) rfl rfl (List.nil_sublist _) zr hK0
  obtain⟨hF0,_,⟨kd,hDL⟩,hdp⟩:=hd
  have hpn:=YD hF0
  have hpl:=Yz F
  have hT:=Xe F
  have hdpF:P (Xr F)∣P F:=by rw[QaK ((Xz F).2 hF0),Qdz (by have :=XC (Yi ((Xz F).2 hF0));grind)];exact XL _
  repeat(refine zS ?_;intros)
  rename_i g4 _
  refine AW.ent (entGro 53 2) ?_
  refine aLoop [2,4,16,17] (fun x:Option Nat×Nat×List (List Int×Nat)×Nat=>[(6,gh x.1 x.2.2.1.length x.2.1),(18,Am.N x.2.2.2)]) (fun x=>[(x.1,.gro 53 2 (x.2.2.1.map (fv 17)) x.2.1),(some g4,.arr 25 1 (itl (max M 2) (Yc F))),(some g2,.arr 25 1 [Bo false,nilS])]) (fun x=>x.2.2.2≤ds.length∧Qpu (ds.take x.2.2.2) x.2.2.1∧x.2.2.1.length≤17*x.2.2.2) (fun x=>ds.length -x.2.2.2) (none,0,[],0) ⟨Nat.zero_le _,Qpu.nil,Nat.zero_le _⟩ (entL (.cons Qas (.cons zle .nil)) zk (HLe.refl _)) fun⟨ko,c0,L,k⟩ ⟨hk,hU,hL⟩=> ?_
  dsimp only at hk hU hL⊢
  repeat(refine zS ?_;intros)
  refine zB ?_ ?_<;>intro h1
  · have hget:ds[k]? =some (ds.getD k ([],0)):=by simp [List.getD,show k<ds.length by omega]
    obtain⟨d,ed⟩: ∃d,ds.getD k ([],0)=d:=⟨_,rfl⟩
    rw[ed] at hget
    have hdm:d∈ds:=List.mem_of_getElem? hget
    have hde:=hDL.e d hdm
    have hdd:=QrA hde hpn.ne
    have hS:=hsp hF0 d.1 hde.n (Yq hdd hdpF) hde.sqf
    have htk:ds.take (k+1)=ds.take k++[d]:=by rw[List.take_add_one,hget];rfl
    repeat(refine zS ?_;intros)
    rename_i g8
    rw[ed]
    repeat(refine zS ?_;intros)
    rename_i k1 c1 l hl1 hl2
    have hl17: ∀g∈l,∀i,(co g i).natAbs<BS^17:=fun g hg=>Qkv hb hm (by have :=hpn.s;omega) (hl1.n g hg) (Yq (Qo0 hl1 g hg) hdd)
    refine AW.ent (entH (.cons (ob_gro (l':=l.map (pc 17)) (Les.map l fun g hg=>QcI (hl17 g hg)) Qne) (HLe.refl _))) ?_
    refine AW.ent (entFzG hC (s:=24) (by exact rfl) 0 (by exact rfl) (by rw[List.length_map])) ?_
    refine aLoop [2,4,8,16,17,18,24,25] (fun x:Option Nat×Nat×Nat=>[(6,gh x.1 (L++(l.take x.2.2).map fun g=>(g,d.2)).length x.2.1),(26,Am.N x.2.2)]) (fun x=>[(x.1,.gro 53 2 ((L++(l.take x.2.2).map fun g=>(g,d.2)).map (fv 17)) x.2.1),(some g8,.arr 101 1 [pc 17 d.1,Am.N d.2]),(some g4,.arr 25 1 (itl (max M 2) (Yc F))),(some g2,.arr 25 1 [Bo false,nilS])]) (fun x=>x.2.2≤l.length) (fun x=>l.length -x.2.2) (ko,c0,0) (Nat.zero_le _) (entL (.cons (Qcr (by simp)) (.cons zle .nil)) zk (.pick 1 rfl (Qa4 (by simp)) (HLe.refl _))) fun⟨k2,c2,j⟩ hj=> ?_
    dsimp only at hj⊢
    repeat(refine zS ?_;intros)
    refine zB ?_ ?_<;>intro h2
    · have hsn:=Qqf (l:=l) (j:=j) (e:=d.2) (L:=L) (by omega)
      obtain⟨g,eg⟩: ∃g,l.getD j []=g:=⟨_,rfl⟩
      rw[eg] at hsn
      obtain⟨A,eA⟩: ∃A,(L++(l.take j).map fun g=>(g,d.2))=A:=⟨_,rfl⟩
      have hLl:(L++(l.take j).map fun g=>(g,d.2)).length≤17*17+17:=by rw[List.length_append,List.length_map,List.length_take];omega
      rw[eA] at hsn hLl⊢
      repeat(refine zS ?_;intros)
      rw[eg]
      repeat(refine zS ?_;intros)
      rename_i k3 c3
      exact aAgain (k3,c3,j+1) (by show j+1≤l.length;omega) (by show l.length -(j+1)<l.length -j;omega) (entL (.cons (Qcr (by rw[hsn];simp)) (.cons zle .nil)) zk (.cons (Qa4 (by rw[hsn,List.map_append];rfl)) (HLe.refl _)))
    obtain rfl:j=l.length:=by omega
    rw[List.take_length]
    repeat(refine zS ?_;intros)
    exact aAgain (k2,c2,L++l.map fun g=>(g,d.2),k+1) ⟨by show k+1≤ds.length;omega,by rw[htk];exact hU.more hde (fun x hx=>⟨hDL.e x (Qln hDL.asc hget x hx).1,(Qln hDL.asc hget x hx).2⟩) hl1,by show(L++l.map fun g=>(g,d.2)).length≤17*(k+1);rw[List.length_append,List.length_map];omega⟩ (by show ds.length -(k+1)<ds.length -k;omega) (entL (.cons (le_refl _) (.cons zle .nil)) zk (.cons (ob_refl _) (.drop (HLe.refl _))))
  obtain rfl:k=ds.length:=by omega
  rw[List.take_length] at hU
  have hx17: ∀x∈L,x.1.length≤1048576:=fun x hx=>by
    obtain⟨d,hdm,_,hxd⟩:=hU.fr x hx
    have h8:=Qaj (Yq hxd (QrA (hDL.e d hdm) hpn.ne)) hpn.ne
    rw[Yj,Yj,(hU.n x hx).t,hpn.t] at h8
    omega
  have hL9:L.length≤1000:=by omega
  repeat(refine zS ?_;intros)
  refine alO (zcallO 0 (by exact rfl)) zg ?_
  intro L' hp hs
  refine⟨rfl,?_⟩
  have hZ:=hU.done hF0 (QuP hDL) (QsK hDL hdp) hp hs
  have hll:=hp.length_eq
  repeat(refine zS ?_;intros)
  refine AX.ent (entFzG hC (s:=3) (by exact rfl) 0 (by exact rfl) (by rw[List.length_map];exact hll)) ?_
  exact aRet (rs:=[_,_]) rfl rfl (List.nil_sublist _) zr (hK L' (.inr ⟨hZ,by omega⟩))⟩
end Go.Proofs.YtjdpemcnlejpfaaGreatDoor
namespace Go.Proofs.YtjdpemcnlejpfaaGreatDoor
open Go.RowKit Go.Gx Go.Am Tryz
theorem Qu3{F:List Int}{M:Nat}(hM:M≤64)(hl:F.length≤17)(hd:(Xa F).length≤10)(hH: ∀i,(co F i).natAbs≤2^244):FcF F M:=by
  have key:P F≠0→ ∀g,Nrm g→P g∣P F→g.length≤10∧1≤g.length∧(∀i,(co g i).natAbs≤2^256)∧HB g (2*(ldP g*QmA g).natAbs+1)∧2*(ldP g*QmA g).natAbs+1≤2^540:=fun hF0 g hg hdv=>by
    have⟨h1,h2⟩:=Qny (n:=9) hd (by decide) hF0 hg hdv hH
    have hg6:hgt g≤2^256:=Nat.le_trans h1 (by decide+kernel)
    obtain⟨n,hn⟩:=Qa5 (G:=g) (by have :=hg.s;omega)
    have hn':g.length=n+1:=by have :=hg.t;rw[this] at hn;exact hn
    have hbnd:=Qsr hn
    have hld:(ldP g).natAbs≤2^256:=by rw[← (Zj hn).1];exact Nat.le_trans (Qd9 g n) hg6
    refine⟨h2,by omega,fun i=>Nat.le_trans (Qd9 g i) hg6,by rw[hbnd];exact Qva hn (by omega),?_⟩
    rw[hbnd]
    have h3:(ldP g).natAbs*(2^n*rtN (n+1)*hgt g)≤2^256*(2^9*5*2^256):=Nat.mul_le_mul hld (Nat.mul_le_mul (Nat.mul_le_mul (Nat.pow_le_pow_right (by decide) (by omega)) (rt5 _)) hg6)
    have h4:2*(2^256*(2^9*5*2^256))+1≤2^540:=by decide+kernel
    omega
  refine⟨hM,hl,?_,fun hF0 g hg hdv hsq=> ?_⟩
  · by_cases hF0:P F=0
    · exact⟨1,by rw[Qix hF0];exact Qvc,by decide+kernel⟩
    · have hpn:=YD hF0
      have hdp:P (Xr F)∣P F:=by rw[QaK ((Xz F).2 hF0),Qdz (by have :=XC (Yi ((Xz F).2 hF0));grind)];exact XL _
      obtain⟨_,_,_,h4,h5⟩:=key hF0 _ hpn hdp
      exact⟨_,h4,Nat.le_trans h5 (by decide+kernel)⟩
  · obtain⟨h1,h2,h3,h4,h5⟩:=key hF0 g hg hdv
    refine⟨hg,hsq,by omega,fun hl2=> ?_,h4,?_⟩
    · have :Bof g.length=4096:=by unfold Bof;rw[if_pos h1]
      rw[this]
      exact Qu5 (by rw[hg.t];exact hl2) (by rw[hg.t];exact h1) hsq h3
    · have :2^540<2^560:=by decide+kernel
      omega
end Go.Proofs.YtjdpemcnlejpfaaGreatDoor
namespace Go.Proofs.YtjdpemcnlejpfaaGreatDoor
open Go.RowKit Go.Gx Go.Am Tryz
theorem Qs3:FcF [0,0,-4,-4] 2:=Qu3 (by decide) (by decide) (by decide) fun i=>by
  match i with
  |0=>decide
  |1=>decide
  |2=>decide
  |3=>decide
  |i+4=>rw[XX (by simp)];decide
theorem Qs4:FcF [1,0,0,0,1] 2:=Qu3 (by decide) (by decide) (by decide) fun i=>by
  match i with
  |0=>decide
  |1=>decide
  |2=>decide
  |3=>decide
  |4=>decide
  |i+5=>rw[XX (by simp)];decide
theorem QiN{l:List Int}(h:l.length≤1099511627776):AC prog 30 [] [pc 17 l,pc 2 l] fun K=>K [] [Bo true]:=by
  have z:AC prog 30 [] [pv 17 l,pv 2 l] fun K=>K [] [Bo (decide (Xa l=Xa l))]:=c30.k h h
  rw[decide_eq_true rfl] at z
  exact AC.les z (.cons le_pcv0 (.cons le_pcv0 .nil))
set_option maxHeartbeats 4000000 in
instance c13:TK prog 13 (AC prog 13 [] [] fun K=>K [] [Bo true]):=⟨by
  refine aEnter func13 rfl ntmps13 rfl fun K C hC hK=> ?_
  have hF:AC prog 20 [] [pv 2 [0,0,-4,-4]] fun K=>K [] [it 2 (-4),sl 2 ([([0,1],2),([1,1],1)].map (fv 17))]:=AC.imp (c20.k Qs3) fun K hk fs hfs=>by
    rw[(hfs.fac Qnr.ne).1.uniq Qnr,QqQ];exact hk
  have hI:AC prog 24 [] [pv 2 [1,0,0,0,1]] fun K=>K [] [Bo true]:=AC.imp (c24.k Qs4) fun K hk b hb=>by
    rw[hb.2 QrN];exact hk
  have o1:AC prog 16 [] [sl 1 [I .i64 0,I .i64 0,I .i64 (-4),I .i64 (-4)]] fun K=>K [] [pc 2 [0,0,-4,-4]]:=c16.k (l:=[0,0,-4,-4]) (by decide) (by decide)
  repeat(refine zS ?_;intros)
  clear o1
  have s2:AC prog 30 [] [pc 17 [0,1],pc 2 [0,1]] fun K=>K [] [Bo true]:=QiN (by decide)
  have o2:AC prog 16 [] [sl 1 [I .i64 0,I .i64 1]] fun K=>K [] [pc 2 [0,1]]:=c16.k (l:=[0,1]) (by decide) (by decide)
  repeat(refine zS ?_;intros)
  clear o2 s2
  have s3:AC prog 30 [] [pc 17 [1,1],pc 2 [1,1]] fun K=>K [] [Bo true]:=QiN (by decide)
  have o3:AC prog 16 [] [sl 1 [I .i64 1,I .i64 1]] fun K=>K [] [pc 2 [1,1]]:=c16.k (l:=[1,1]) (by decide) (by decide)
  repeat(refine zS ?_;intros)
  clear o3 s3
  have o4:AC prog 16 [] [sl 1 [I .i64 1,I .i64 0,I .i64 0,I .i64 0,I .i64 1]] fun K=>K [] [pc 2 [1,0,0,0,1]]:=c16.k (l:=[1,0,0,0,1]) (by decide) (by decide)
  repeat(refine zS ?_;intros)
  exact aRet1 rfl zv hK (le_refl _)⟩
end Go.Proofs.YtjdpemcnlejpfaaGreatDoor
namespace Go.Proofs.YtjdpemcnlejpfaaGreatDoor
open Go.RowKit Go.Gx Go.Am Tryz
theorem Qy6{α:Type}{l:List α}{k:Nat}{x0:α}(h:k<l.length):l.getD k x0∈l:=by
  simp only[List.getD,List.getElem?_eq_getElem h,Option.getD_some];exact List.getElem_mem _
end Go.Proofs.YtjdpemcnlejpfaaGreatDoor
namespace Go.Proofs.YtjdpemcnlejpfaaGreatDoor
open Go.RowKit Go.Gx Go.Am Tryz
end Go.Proofs.YtjdpemcnlejpfaaGreatDoor
namespace Go.Proofs.YtjdpemcnlejpfaaGreatDoor
open Go.RowKit Go.Gx Go.Am Tryz
structure Qw0 (fs:List (List Int×Nat)):Prop where
  len:fs.length≤1000
  fc: ∀x∈fs,FcF x.1 17
  n: ∀x∈fs,Nrm x.1
  irr: ∀x∈fs,Irr (P x.1)
  k1: ∀x∈fs,1≤x.2
  asc:fs.Pairwise fun a b=>Qbv a.1 b.1<0
set_option maxHeartbeats 1000000 in
instance c23:TK prog 23 (∀{fs:List (List Int×Nat)}(_:Qw0 fs),AC prog 23 [] [sl 2 (fs.map (fv 17))] fun K=>K [] [Bo true]):=⟨fun {fs} hS=>by
  refine aEnter func23 rfl ntmps23 rfl fun K C hC hK=> ?_
  obtain⟨hl,hf,hn,hi,hk1,hasc⟩:=hS
  repeat(refine zS ?_;intros)
  refine aL1 [0,5,6] (fun k=>[(7,N k)]) (fun _=>[]) (fun k=>k≤fs.length) (fun k=>fs.length -k) 0 (Nat.zero_le _) (entL (.cons zle .nil) zk (HLe.none _)) fun k hk=> ?_
  repeat(refine zS ?_;intros)
  refine zB ?_ ?_<;>intro h
  · have h8:k<fs.length:=by omega
    have hm:=Qy6 (x0:=(([],0):List Int×Nat)) h8
    have u1:=hf _ hm
    have u2:=hn _ hm
    have u3:=hi _ hm
    have u4:=hk1 _ hm
    have hcmp: ∀j,k=j+1→Qbv (fs.getD j ([],0)).1 (fs.getD k ([],0)).1<0∧Nrm (fs.getD j ([],0)).1∧(fs.getD j ([],0)).1.length≤17:=fun j hj=>by
      have hmj:=Qy6 (x0:=(([],0):List Int×Nat)) (show j<fs.length by omega)
      refine⟨?_,hn _ hmj,(hf _ hmj).len⟩
      have :=List.pairwise_iff_getElem.1 hasc j k (by omega) h8 (by omega)
      simpa [List.getD,h8,show j<fs.length by omega] using this
    have u5:=u1.len
    have hN:AC prog 44 [] [pc 17 (fs.getD k ([],0)).1] fun K=>K [] [Bo true]:=AC.les (AC.imp (c44.k (M:=17) (F:=(fs.getD k ([],0)).1) (by omega) (by omega)) fun K hk b hb=>by
      rw[hb.2 ⟨by rw[u2.t],u2.s,u2.c⟩];exact hk) (.cons le_pcv0 .nil)
    have hI:AC prog 24 [] [pc 17 (fs.getD k ([],0)).1] fun K=>K [] [Bo true]:=AC.les (AC.imp (c24.k u1) fun K hk b hb=>by
      rw[hb.2 u3];exact hk) (.cons le_pcv0 .nil)
    rcases Nat.eq_zero_or_pos k with h0|h0
    · clear hcmp hm hf hn hi hk1 hasc u1 u3 u2
      repeat(refine zS ?_;intros)
      exact ag1 (k+1) (by omega) (entL (.cons zle .nil) zk (HLe.none _))
    · obtain⟨c1,c2,c3⟩:=hcmp (k -1) (by omega)
      rw[←c2.t,←u2.t] at c1
      clear hcmp hm hf hn hi hk1 hasc u1 u3 u2 c2
      repeat(refine zS ?_;intros)
      exact ag1 (k+1) (by omega) (entL (.cons zle .nil) zk (HLe.none _))
  repeat(refine zS ?_;intros)
  exact aRet1 rfl zv hK (le_refl _)⟩
end Go.Proofs.YtjdpemcnlejpfaaGreatDoor
namespace Go.Proofs.YtjdpemcnlejpfaaGreatDoor
open Go.RowKit Go.Gx Go.Am Tryz
set_option maxHeartbeats 1000000 in
theorem QCJ{M e:Nat}{F:List Int}(hM:M≤1099511627)(hF:F.length≤4096)(he:1≤e)(he2:e≤4096)(hq0:((Xa F).length -1)*e≤4000):AC prog 91 [] [pv M F,N e] fun K=>K [] [pc M (Xa (QvW (Xa F) e))]:=by
  refine aEnter func91 rfl ntmps91 rfl fun K C hC hK=> ?_
  have hT:=Xe F
  obtain⟨f,ef⟩: ∃f,Xa F=f:=⟨_,rfl⟩
  rw[ef] at hK hT hq0
  have hq:(f.length -1)*e≤4000:=hq0
  repeat(refine zS ?_;intros)
  rw[ef]
  refine zB ?_ ?_<;>intro h
  · rw[show QvW f e=[] by unfold QvW;rw[if_pos (by omega)]] at hK
    repeat(refine zS ?_;intros)
    exact aRet1 rfl zv hK le_p0
  repeat(refine zS ?_;intros)
  obtain⟨n,hn⟩: ∃n,(f.length -1)*e+1=n:=⟨_,rfl⟩
  rw[hn]
  refine aL1 [1,5,20,21] (fun k=>[(22,N k)]) (fun k=>[.arr 25 2 ((Qmf f e n k).map (it M))]) (fun k=>k≤f.length) (fun k=>f.length -k) 0 (by omega) (entL (.cons zle .nil) zk (.cons (ob_it (Qrf f e n) (by omega)) (HLe.none _))) fun k hk=> ?_
  have hl:(Qmf f e n k).length=n:=by simp [Qmf]
  repeat(refine zS ?_;intros)
  refine zB ?_ ?_<;>intro h2
  · have hkn:k*e≤(f.length -1)*e:=Nat.mul_le_mul_right e (by omega)
    have hst:=Qre (f:=f) (e:=e) (n:=n) (k:=k) (by omega) (by omega)
    repeat(refine zS ?_;intros)
    exact ag1 (k+1) (by omega) (entL (.cons zle .nil) zk (.drop (.cons (ob_it hst (by omega)) (HLe.none _))))
  · obtain rfl:k=f.length:=by omega
    rw[show QvW f e=Qmf f e n f.length by unfold QvW;rw[if_neg (by omega),hn]] at hK
    repeat(refine zS ?_;intros)
    refine AL.ent (entFzS hC (s:=34) (by exact rfl) 0 (by exact rfl) (by simp [Qmf]) (a:=pc M (Qmf f e n f.length)) (le_refl _)) ?_
    repeat(refine zS ?_;intros)
    exact aRet1 rfl zv hK (le_refl _)
theorem QCZ{M M':Nat}{F G:List Int}(hG:G.length≤4096)(h0:(Xa G).length=0):AC prog 90 [] [pv M F,pv M' G] fun K=>K [] [pc 0 [],I .i64 2]:=by
  refine aEnter func90 rfl ntmps90 rfl fun K C hC hK=> ?_
  repeat(refine zS ?_;intros)
  exact aRet2 rfl zv zv hK le_p0 (le_refl _)
def CyI(n:Nat)(x:Nat×Nat×Nat×List Int):Prop:=QCr n x.1=some (x.2.1,x.2.2.1)∧2≤x.1∧x.1≤n+1∧1≤x.2.1∧x.2.1≤n∧x.2.2.1≤1099511627∧x.2.2.2.length≤x.2.1+1∧(n≤16→Xa x.2.2.2=cy x.2.1)
theorem QC3{n:Nat}(h1:1≤n):CyI n (2,1,2,[-1,1]):=⟨by simp [QCr],Nat.le_refl _,by simp;omega,Nat.le_refl _,h1,by simp,by simp,fun _=>by decide⟩
theorem QDj{n p r M:Nat}{F:List Int}(h:CyI n (p,r,M,F))(hp:p≤n)(hc: ¬(2≤p∧n % p=0∧ZN p=true)):CyI n (p+1,r,M,F):=⟨QDi h.1 hc,by have :=h.2.1;simp at *;omega,by simp;omega,h.2.2.2.1,h.2.2.2.2.1,h.2.2.2.2.2.1,h.2.2.2.2.2.2.1,h.2.2.2.2.2.2.2⟩
theorem QDp{n p r M:Nat}{F G:List Int}(hn:n≤1000)(h:CyI n (p,r,M,F))(hp:p≤n)(hc:2≤p∧n % p=0∧ZN p=true)(hl:G.length≤r*p+1)(hs:n≤16→Xa G=cy (r*p)):CyI n (p+1,r*p,M+(M+(r+1)+4)*(r*p+1),G):=by
  have hq:QCr n p=some (r,M):=h.1
  obtain⟨a,b,c⟩:=QCV hn hp hq hc
  have hr:r≤n:=h.2.2.2.2.1
  have hr1:1≤r:=h.2.2.2.1
  refine⟨c,by simp;omega,by simp;omega,Nat.mul_pos hr1 (by omega),b,?_,hl,hs⟩
  have :=Nat.mul_le_mul (show M+(r+1)+4≤1049581 by omega) (show r*p+1≤1001 by omega)
  simp only[]
  omega
theorem QDf(f:List Int)(e:Nat):(QvW f e).length≤(f.length -1)*e+1:=by
  unfold QvW
  split
  · simp
  · simp [Qmf]
def QwS(n p:Nat):Bool:=match QCr n p with
  |some (r,_)=>decide (2≤p∧n % p=0∧ZN p=true→Xa (Xg (cy (r*p)) (cy r))=Xa (QvW (cy r) p)∧r*p≤16∧1≤r*p)
  |none=>true
theorem QDg:upto (fun n=>upto (fun p=>QwS n p) (n+1)) 17=true:=by decide+kernel
def QDG(n:Nat):Bool:=match QCr n (n+1) with
  |some (r,M)=>decide (n=0∨Xa (QvW (cy r) (n/r))=cy n∧M≤1000)
  |none=>true
theorem QC4:upto QDG 17=true:=by decide+kernel
theorem QC9: ∀n,n<17→nrm (cy n)≤1000:=by decide+kernel
theorem QCS{n p r M:Nat}{F:List Int}(h:CyI n (p,r,M,F))(hn:n≤16)(hp:p≤n)(hc:2≤p∧n % p=0∧ZN p=true):P (Xa (QvW (Xa F) p))=P (cy (r*p))*P F∧Xa F=cy r∧1≤r∧r≤16∧Xa (cy (r*p))=cy (r*p):=by
  have hs:=QyX (QyX QDg n (by omega)) p (by omega)
  have h0:QCr n p=some (r,M):=h.1
  have hr:r≤n:=h.2.2.2.2.1
  have hr1:1≤r:=h.2.2.2.1
  have hF:Xa F=cy r:=h.2.2.2.2.2.2.2 hn
  simp only[QwS,h0] at hs
  obtain⟨a,b,c⟩:=of_decide_eq_true hs hc
  exact⟨by rw[hF,←a,Yf,Zb,←hF,Yf],hF,hr1,by omega,(QCP _ c b).t⟩
theorem QC2{n p r M:Nat}{F:List Int}(h1:1≤n)(h:CyI n (p,r,M,F))(hp: ¬p≤n)(hn:n≤16):Xa (QvW (Xa F) (n/r))=cy n∧M≤1000:=by
  have hs:=QyX QC4 n (by omega)
  have h0:QCr n p=some (r,M):=h.1
  have hpn:p≤n+1:=h.2.2.1
  have hF:Xa F=cy r:=h.2.2.2.2.2.2.2 hn
  obtain rfl:p=n+1:=by omega
  simp only[QDG,h0] at hs
  rcases of_decide_eq_true hs with h|h
  · omega
  · rw[hF];exact h
theorem QCT{n:Nat}(hn:n≤1000): ∀p,p≤n+1→ ∀r M,QCr n p=some (r,M)→r≤1000∧M≤1099511627
  |0,_,r,M,h=>by
    simp only[QCr,Option.some.injEq,Prod.mk.injEq] at h
    omega
  |p+1,hp,r,M,h=>by
    obtain⟨⟨r0,M0⟩,h0⟩:=Option.isSome_iff_exists.1 (QCQ hn (n+1 -p) p (by omega))
    have ih:=QCT hn p (by omega) r0 M0 h0
    by_cases hc:2≤p∧n % p=0∧ZN p=true
    · obtain⟨a,b,c⟩:=QCV hn (by omega) h0 hc
      rw[h,Option.some.injEq,Prod.mk.injEq] at c
      have :=Nat.mul_le_mul (show M0+(r0+1)+4≤1049581 by omega) (show r0*p+1≤1001 by omega)
      omega
    · have c:=QDi h0 hc
      rw[h,Option.some.injEq,Prod.mk.injEq] at c
      omega
theorem QDu{n:Nat}(hn:n≤1000)(r M:Nat)(h:QCr n (n+1)=some (r,M)):M≤1099511627:=(QCT hn _ (Nat.le_refl _) r M h).2
set_option maxHeartbeats 2000000 in
theorem QDl{n B:Nat}(a:List Int→AV)(ha: ∀F,(n≤16→F=cy n)→(pc B F).le (a F))(h1:1≤n)(h2:n≤1000)(hB: ∀r M,QCr n (n+1)=some (r,M)→M≤B):AC prog 42 [] [N n] fun K=> ∀F,(n≤16→F=cy n)→K [] [a F,I .i64 0]:=by
  refine aEnter func42 rfl ntmps42 rfl fun K C hC hK=> ?_
  have o1:AC prog 16 [] [sl 1 [I .i64 (-1),I .i64 1]] fun K=>K [] [pc 2 [-1,1]]:=c16.k (l:=[-1,1]) (by decide) (by decide)
  repeat(refine zS ?_;intros)
  refine aL4 [0] (fun p r M F=>[(4,pc M F),(5,N (n/r)),(6,N p)]) (fun _ _ _ _=>[]) (fun p r M F=>CyI n (p,r,M,F)) (fun p _ _ _=>n+1 -p) 2 1 2 [-1,1] (QC3 h1) (entL (.cons (by exact le_refl (pc 2 [-1,1])) (.cons (leI (by simp)) (.cons zle .nil))) zk (HLe.none _)) fun p r M F hI=> ?_
  clear o1
  have hp2:2≤p:=hI.2.1
  have hpn:p≤n+1:=hI.2.2.1
  have hr1:1≤r:=hI.2.2.2.1
  have hrn:r≤n:=hI.2.2.2.2.1
  have hM:M≤1099511627:=hI.2.2.2.2.2.1
  have hF:F.length≤r+1:=hI.2.2.2.2.2.2.1
  repeat(refine zS ?_;intros)
  refine zB ?_ ?_<;>intro hp
  · have hcv:AC prog 77 [] [W32 p] fun K=>K [] [Bo (ZN p)]:=c77.k (n:=p) (by omega)
    have hp':p≤n:=by have h:(p:Int)≤n:=hp;omega
    by_cases hd:n % p=0
    · repeat(refine zS ?_;intros)
      cases hb:ZN p
      · repeat(refine zS ?_;intros)
        exact ag4 (p+1) r M F (QDj hI hp' fun h=>by rw[hb] at h;exact absurd h.2.2 (by decide)) (entL (.cons (le_refl _) (.cons (le_refl _) (.cons zle .nil))) zk (HLe.none _))
      have hc:2≤p∧n % p=0∧ZN p=true:=⟨hp2,hd,hb⟩
      have hT:=Xe F
      have⟨hMs,hrp,_⟩:=QCV h2 hp' (show QCr n p=some (r,M) from hI.1) hc
      have hq1:((Xa F).length -1)*p≤r*p:=Nat.mul_le_mul_right _ (by omega)
      have hsp:=QCJ (M:=M) (e:=p) (F:=F) hM (by omega) (by omega) (by omega) (by omega)
      have hSl:(Xa (QvW (Xa F) p)).length≤r*p+1:=Nat.le_trans (Xe _) (Nat.le_trans (QDf _ _) (by omega))
      have hex:AC prog 90 [] [pv M (Xa (QvW (Xa F) p)),pv M F] fun K=> ∀m G z,m≤M+(M+(r+1)+4)*(r*p+1)→G.length≤r*p+1→(n≤16→Xa G=cy (r*p))→K [] [pc m G,I .i64 z]:=by
        by_cases h0:(Xa F).length=0
        · refine AC.imp (QCZ (M:=M) (M':=M) (F:=Xa (QvW (Xa F) p)) (G:=F) (by omega) h0) fun K hk=>hk 0 [] 2 (Nat.zero_le _) (Nat.zero_le _) fun hn=> ?_
          have⟨_,h3,h4,h5,_⟩:=QCS hI hn hp' hc
          have :=QCP r h4 h5
          rw[←h3] at this
          exact absurd this.ne (by rw[Yf];exact fun hne=>hne (Ya.1 (by rw[Yj];omega)))
        · have hl0:ldP F≠0:=(Xz F).2 (QaA (by omega))
          refine AC.imp (c90.k (M:=M) (Mg:=M) (F:=Xa (QvW (Xa F) p)) (G:=F) (by omega) (by omega) hM hMs hl0) fun K hk=>⟨fun Q hx hl=>hk _ Q 0 (Nat.add_le_add_left (Nat.mul_le_mul (by omega) hSl) _) (by have :=Xe (Xa (QvW (Xa F) p));omega) fun hn=> ?_,fun hf=>hk 0 [] 3 (Nat.zero_le _) (Nat.zero_le _) fun hn=> ?_⟩
          · have⟨h3,h4,h5,h6,h7⟩:=QCS hI hn hp' hc
            have hne:P F≠0:=QaA (by omega)
            have e:P (Xa (QvW (Xa F) p))=P Q*P F:=QP.eq fun x=>by simp only[v_P,Xq];exact hx x
            rw[←h7]
            exact QfO (QiI hne (e.symm.trans h3))
          · have⟨h3,h4,h5,h6,_⟩:=QCS hI hn hp' hc
            have hcn:=(QCP r h5 h6).c
            rw[←h4,QaF] at hcn
            exact absurd ⟨_,by rw[h3,XT]⟩ (Qgj hcn hl0 hf)
      have hd2:n/r≤n:=Nat.div_le_self n r
      have hd3:(0:Int)≤(n:Int)/ (r:Int):=Int.ediv_nonneg (by omega) (by omega)
      repeat(refine zS ?_;intros)
      rename_i m G z b1 b2 b3
      trace_state
      exact ag4 (p+1) (r*p) (M+(M+(r+1)+4)*(r*p+1)) G (QDp h2 hI hp' hc b2 b3) (entL (.cons (le_pcc b1) (.cons (leI (show((n/r/p:Nat):Int)=((n/ (r*p):Nat):Int) by rw[Nat.div_div_eq_div_mul])) (.cons zle .nil))) zk (HLe.none _))
    · repeat(refine zS ?_;intros)
      exact ag4 (p+1) r M F (QDj hI hp' fun h=>hd h.2.1) (entL (.cons (le_refl _) (.cons (le_refl _) (.cons zle .nil))) zk (HLe.none _))
  · have hT:=Xe F
    have hp': ¬p≤n:=by
      intro h0
      have h: ¬(p:Int)≤n:=hp
      omega
    have hq1:((Xa F).length -1)*(n/r)≤n:=Nat.le_trans (Nat.mul_le_mul_right _ (by omega)) (Nat.mul_div_le n r)
    have hd1:1≤n/r:=(Nat.one_le_div_iff hr1).2 hrn
    have hd2:n/r≤n:=Nat.div_le_self n r
    have hsp:=QCJ (M:=M) (e:=n/r) (F:=F) hM (by omega) hd1 (by omega) (by omega)
    have hMB:M≤B:=hB r M (by
      have hq:QCr n p=some (r,M):=hI.1
      obtain rfl:p=n+1:=by omega
      exact hq)
    have hK':=hK (Xa (QvW (Xa F) (n/r))) fun hn=>(QC2 h1 hI hp' hn).1
    have hla:=AV.le.trans (le_pcc hMB) (ha (Xa (QvW (Xa F) (n/r))) fun hn=>(QC2 h1 hI hp' hn).1)
    clear hK
    repeat(refine zS ?_;intros)
    exact aRet2 rfl zv zv hK' hla (le_refl _)
instance c42:TK prog 42 (∀{n:Nat}(_:1≤n)(_:n≤16),AC prog 42 [] [N n] fun K=>K [] [pc 1 (cy n),I .i64 0]):=⟨fun {n} h1 h2=>AC.imp (QDl (B:=1000) (pc 1) (fun F e=>by
  rw[e h2]
  exact QcI fun i=>Nat.lt_of_le_of_lt (QkK _ i) (Nat.lt_of_le_of_lt (QC9 n (by omega)) (by decide+kernel))) h1 (by omega) fun r M h=>by
  have hs:=QyX QC4 n (by omega)
  simp only[QDG,h] at hs
  rcases of_decide_eq_true hs with h|h
  · omega
  · exact h.2) fun K hk F e=>by rw[e h2];exact hk⟩
theorem QC1{z:Int}(hz:z<1∨1000<z):AC prog 42 [] [I .i64 z] fun K=>K [] [pc 0 [],I .i64 4]:=by
  refine aEnter func42 rfl ntmps42 rfl fun K C hC hK=> ?_
  by_cases h:z<1
  · repeat(refine zS ?_;intros)
    exact aRet2 rfl zv zv hK le_p0 (le_refl _)
  · have h2:1000<z:=by omega
    repeat(refine zS ?_;intros)
    exact aRet2 rfl zv zv hK le_p0 (le_refl _)
theorem QDa{z:Int}(h1:1≤z)(h2:z≤1000):AC prog 42 [] [I .i64 z] fun K=> ∀F,K [] [pc 1099511627 F,I .i64 0]:=by
  obtain⟨n,rfl⟩: ∃n:Nat,z=(n:Int):=⟨z.toNat,by omega⟩
  exact AC.imp (QDl (n:=n) (B:=1099511627) (pc 1099511627) (fun _ _=>le_refl _) (by omega) (by omega) (QDu (by omega))) fun K hk F _=>hk F
end Go.Proofs.YtjdpemcnlejpfaaGreatDoor
