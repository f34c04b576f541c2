/-
  F14, F15, F16, F17, R17
-/
import Derived.Test.YtjdpemcnlejpfaaGreatDoorF12
import Derived.Test.YtjdpemcnlejpfaaGreatDoorAscThy
import Derived.Test.YtjdpemcnlejpfaaGreatDoorAmS2
import Derived.Test.YtjdpemcnlejpfaaGreatDoorAmRow
set_option linter.all false
namespace Go.Proofs.YtjdpemcnlejpfaaGreatDoor
open Go.RowKit Go.Gx Go.Am Tryz
instance c61:TK prog 61 (∀{k:Option Nat}{c:Nat}{l:List (List Int×Nat)}(_:l.length≤1000)(_: ∀x∈l,x.1.length≤1048576),AC prog 61 [(k,.gro 53 2 (l.map (fv 17)) c)] [gh k l.length c,fnv 62 []] fun K=> ∀l':List (List Int×Nat),l'.Perm l→(l'.Pairwise fun x y=> ¬Qbv (Xa y.1) (Xa x.1)<0)→K [(k,.gro 53 2 (l'.map (fv 17)) c)] []):=⟨fun {k c l} hl hf=>
  AC.imp (acSortK Tryz.sortF (z:=2) (fun _=>by kernel_rfl) (fun _=>by kernel_rfl) (F:=fv 17) (fun _=>agg_sh) (by decide) (QhB fun x:List Int×Nat=>Xa x.1) (g:=62) (cs:=[]) (TC.ca) (fun x hx y hy=>c62.k (hf x hx) (hf y hy)) rfl (by omega)) fun K h l' hp hs=>h l' hp hs⟩
theorem Qo0{f:List Int}{l:List (List Int)}(h:QgG f l): ∀g∈l,P g∣P f:=fun g hg=>by rw[←h.prod];exact QkS hg
theorem Qrc{f:List Int}{l:List (List Int)}(hf:Nrm f)(h:QgG f l): ∀g∈l,g.length≤f.length:=fun g hg=>by
  have h1:=Qaj (Qo0 h g hg) hf.ne
  rw[Yj,Yj,(h.n g hg).t,hf.t] at h1
  exact h1
instance c28:TK prog 28 (∀{M:Nat}{F:List Int}(_:FcF F M),AC prog 28 [] [pv M F] fun K=>(¬Qem (P F) (der (P F))→K [] [pcs 18 [],I .i64 5])∧(Qem (P F) (der (P F))→ ∀l,QgG (Xr F) l→l.length≤17→(l.Pairwise fun x y=> ¬Qbv (Xa y) (Xa x)<0)→K [] [pcs 18 l,I .i64 0])):=⟨fun {M F} hF=>by
  refine aEnter func28 rfl ntmps28 rfl fun K C hC hK=> ?_
  obtain⟨hM,hl,⟨m,hb,hm⟩,hsp⟩:=hF
  repeat(refine zS ?_;intros)
  rename_i b hbq
  cases b
  · have hnc: ¬Qem (P F) (der (P F)):=fun h=>by have :=hbq.2 h;cases this
    rw[show(!false)=true from rfl]
    repeat(refine zS ?_;intros)
    exact aRet2 rfl zv zv (hK.1 hnc) le_nil (le_refl _)
  have hsq:=hbq.1 rfl
  rw[show(!true)=false from rfl]
  have hF0:P F≠0:=fun h0=>Qir (by rw[h0] at hsq;exact hsq)
  have hpn:=YD hF0
  have hpl:=Yz F
  have hT:=Xe F
  have hdp:P (Xr F)∣P F:=by rw[QaK ((Xz F).2 hF0),Qdz (by have :=XC (Yi ((Xz F).2 hF0));grind)];exact XL _
  have hpsq:Qem (P (Xr F)) (der (P (Xr F))):=(Qav hpn.ne).2 fun π hπ=>by rw[QcP hπ hF0];exact(Qav hF0).1 hsq π hπ
  have hS:=hsp hF0 _ hpn hdp hpsq
  have hb17:=Qnw hb hpn hm
  have hspl:AC prog 60 [] [pc M (Xr F)] fun K=> ∀k c (l:List (List Int)),QgG (Xr F) l→l.length≤17→K [(k,.gro 30 1 (l.map (pc 18)) c)] [gh k l.length c]:=AC.les (c60.k hS) (.cons (QcI hb17) .nil)
  repeat(refine zS ?_;intros)
  rename_i k c l hl1 hl2
  have hlens:=Qrc hpn hl1
  have hl9: ∀g∈l,g.length≤1048576:=fun g hg=>by have :=hlens g hg;omega
  refine alO (zcallO 0 (by exact rfl)) zg ?_
  intro l' hp hs
  refine⟨rfl,?_⟩
  have hll:=hp.length_eq
  repeat(refine zS ?_;intros)
  refine AX.ent (entFzG hC (s:=2) (by exact rfl) 0 (by exact rfl) (by rw[List.length_map];exact hll)) ?_
  exact aRet2 rfl zv zv (hK.2 hsq l' (hl1.perm hp) (by omega) hs) (le_refl _) (le_refl _)⟩
theorem QuP{p:QP}{k:Nat}{ds:List (List Int×Nat)}(h:DL p k ds):DL p (max k 1) ds:=⟨h.e,fun f hf=>by have :=h.lt f hf;omega,h.asc,fun π hπ h1 h2=>h.all π hπ h1 (by omega)⟩
theorem QsK{p:List Int}{k:Nat}{ds:List (List Int×Nat)}(h:DL (P p) k ds)(e:Qfw ds=P p): ∀π,Irr π→va π (P p)<max k 1:=fun π hπ=>by
  rcases Nat.eq_zero_or_pos (va π (P p)) with h0|h0
  · omega
  · apply Nat.lt_of_not_le
    intro hle
    have :=(QhK hπ ds h.e h.asc).2 fun f hf=>by have :=h.lt f hf;omega
    rw[e] at this;omega
theorem QrA{p:List Int}{d:List Int×Nat}(h:DE (P p) d)(hp:P p≠0):P d.1∣P p:=QaN h.n.ne hp fun π hπ=>by
  rw[h.v π hπ];have :=h.k1;split<;>omega
theorem Qln{ds:List (List Int×Nat)}(h:ds.Pairwise fun a b=>a.2<b.2){k:Nat}{d:List Int×Nat}(hk:ds[k]? =some d): ∀x∈ds.take k,x∈ds∧x.2<d.2:=fun x hx=>by
  obtain⟨i,hi⟩:=List.getElem?_of_mem hx
  rw[List.getElem?_take] at hi
  split at hi
  · rename_i hik
    obtain⟨h1,h2⟩:=List.getElem?_eq_some_iff.1 hi
    obtain⟨h3,h4⟩:=List.getElem?_eq_some_iff.1 hk
    have :=List.pairwise_iff_getElem.1 h i k h1 h3 hik
    rw[h2,h4] at this
    exact⟨List.mem_of_getElem? hi,this⟩
  · cases hi
theorem Qqf{l:List (List Int)}{j e:Nat}{L:List (List Int×Nat)}(h:j<l.length):L++(l.take (j+1)).map (fun g=>(g,e))=(L++(l.take j).map fun g=>(g,e))++[(l.getD j [],e)]:=by
  rw[List.take_add_one,List.map_append,List.append_assoc]
  simp [List.getD,h]
set_option maxHeartbeats 4000000 in
instance c20:TK prog 20 (∀{M:Nat}{F:List Int}(_:FcF F M),AC prog 20 [] [pv M F] fun K=> ∀fs,Quw F fs→K [] [it (max M 2) (Yc F),sl 2 (fs.map (fv 17))]):=⟨fun {M F} hF=>by
  refine aEnter func20 rfl ntmps20 rfl fun K C hC hK=> ?_
  obtain⟨hM,hl,⟨m,hb,hm⟩,hsp⟩:=hF
  repeat(refine zS ?_;intros)
  rename_i g2
  refine⟨fun h=> ?_,fun ds hd hdl=> ?_⟩
  · repeat(refine zS ?_;intros)
    rename_i g4
    refine AW.ent (entGro 53 2) ?_
    refine aLoop [2,4,16,17] (fun _:Unit=>[(6,gh none 0 0),(18,Am.N 0)]) (fun _=>[(none,.gro 53 2 (([]:List (List Int×Nat)).map (fv 17)) 0),(some g4,.arr 25 1 (itl 0 0)),(some g2,.arr 25 1 [Bo false,nilS])]) (fun _=>True) (fun _=>0) () trivial (entL (.cons Qas (.cons zle .nil)) zk (HLe.refl _)) fun _ _=> ?_
    repeat(refine zS ?_;intros)
    refine zB ?_ ?_<;>intro h9
    · exact absurd h9 (by simp)
    have hl0:([]:List (List Int×Nat)).length≤1000:=by simp
    have hx0: ∀x∈([]:List (List Int×Nat)),x.1.length≤1048576:=by simp
    repeat(refine zS ?_;intros)
    refine alO (zcallO 0 (by exact rfl)) zg ?_
    intro L' hp hs
    refine⟨rfl,?_⟩
    obtain rfl:=hp.eq_nil
    repeat(refine zS ?_;intros)
    refine AX.ent (entFzG hC (s:=3) (by exact rfl) 0 (by exact rfl) (by simp)) ?_
    have hK0:=hK [] (.inl ⟨h,rfl⟩)
    rw[ZY h] at hK0
    exact aRet (rs:=[_,_]) rfl rfl (List.nil_sublist _) zr hK0
  obtain⟨hF0,_,⟨kd,hDL⟩,hdp⟩:=hd
  have hpn:=YD hF0
  have hpl:=Yz F
  have hT:=Xe F
  have hdpF:P (Xr F)∣P F:=by rw[QaK ((Xz F).2 hF0),Qdz (by have :=XC (Yi ((Xz F).2 hF0));grind)];exact XL _
  repeat(refine zS ?_;intros)
  rename_i g4 _
  refine AW.ent (entGro 53 2) ?_
  refine aLoop [2,4,16,17] (fun x:Option Nat×Nat×List (List Int×Nat)×Nat=>[(6,gh x.1 x.2.2.1.length x.2.1),(18,Am.N x.2.2.2)]) (fun x=>[(x.1,.gro 53 2 (x.2.2.1.map (fv 17)) x.2.1),(some g4,.arr 25 1 (itl (max M 2) (Yc F))),(some g2,.arr 25 1 [Bo false,nilS])]) (fun x=>x.2.2.2≤ds.length∧Qpu (ds.take x.2.2.2) x.2.2.1∧x.2.2.1.length≤17*x.2.2.2) (fun x=>ds.length -x.2.2.2) (none,0,[],0) ⟨Nat.zero_le _,Qpu.nil,Nat.zero_le _⟩ (entL (.cons Qas (.cons zle .nil)) zk (HLe.refl _)) fun⟨ko,c0,L,k⟩ ⟨hk,hU,hL⟩=> ?_
  dsimp only at hk hU hL⊢
  repeat(refine zS ?_;intros)
  refine zB ?_ ?_<;>intro h1
  · have hget:ds[k]? =some (ds.getD k ([],0)):=by simp [List.getD,show k<ds.length by omega]
    obtain⟨d,ed⟩: ∃d,ds.getD k ([],0)=d:=⟨_,rfl⟩
    rw[ed] at hget
    have hdm:d∈ds:=List.mem_of_getElem? hget
    have hde:=hDL.e d hdm
    have hdd:=QrA hde hpn.ne
    have hS:=hsp hF0 d.1 hde.n (Yq hdd hdpF) hde.sqf
    have htk:ds.take (k+1)=ds.take k++[d]:=by rw[List.take_add_one,hget];rfl
    repeat(refine zS ?_;intros)
    rename_i g8
    rw[ed]
    repeat(refine zS ?_;intros)
    rename_i k1 c1 l hl1 hl2
    have hl17: ∀g∈l,∀i,(co g i).natAbs<BS^17:=fun g hg=>Qkv hb hm (by have :=hpn.s;omega) (hl1.n g hg) (Yq (Qo0 hl1 g hg) hdd)
    refine AW.ent (entH (.cons (ob_gro (l':=l.map (pc 17)) (Les.map l fun g hg=>QcI (hl17 g hg)) Qne) (HLe.refl _))) ?_
    refine AW.ent (entFzG hC (s:=24) (by exact rfl) 0 (by exact rfl) (by rw[List.length_map])) ?_
    refine aLoop [2,4,8,16,17,18,24,25] (fun x:Option Nat×Nat×Nat=>[(6,gh x.1 (L++(l.take x.2.2).map fun g=>(g,d.2)).length x.2.1),(26,Am.N x.2.2)]) (fun x=>[(x.1,.gro 53 2 ((L++(l.take x.2.2).map fun g=>(g,d.2)).map (fv 17)) x.2.1),(some g8,.arr 101 1 [pc 17 d.1,Am.N d.2]),(some g4,.arr 25 1 (itl (max M 2) (Yc F))),(some g2,.arr 25 1 [Bo false,nilS])]) (fun x=>x.2.2≤l.length) (fun x=>l.length -x.2.2) (ko,c0,0) (Nat.zero_le _) (entL (.cons (Qcr (by simp)) (.cons zle .nil)) zk (.pick 1 rfl (Qa4 (by simp)) (HLe.refl _))) fun⟨k2,c2,j⟩ hj=> ?_
    dsimp only at hj⊢
    repeat(refine zS ?_;intros)
    refine zB ?_ ?_<;>intro h2
    · have hsn:=Qqf (l:=l) (j:=j) (e:=d.2) (L:=L) (by omega)
      obtain⟨g,eg⟩: ∃g,l.getD j []=g:=⟨_,rfl⟩
      rw[eg] at hsn
      obtain⟨A,eA⟩: ∃A,(L++(l.take j).map fun g=>(g,d.2))=A:=⟨_,rfl⟩
      have hLl:(L++(l.take j).map fun g=>(g,d.2)).length≤17*17+17:=by rw[List.length_append,List.length_map,List.length_take];omega
      rw[eA] at hsn hLl⊢
      repeat(refine zS ?_;intros)
      rw[eg]
      repeat(refine zS ?_;intros)
      rename_i k3 c3
      exact aAgain (k3,c3,j+1) (by show j+1≤l.length;omega) (by show l.length -(j+1)<l.length -j;omega) (entL (.cons (Qcr (by rw[hsn];simp)) (.cons zle .nil)) zk (.cons (Qa4 (by rw[hsn,List.map_append];rfl)) (HLe.refl _)))
    obtain rfl:j=l.length:=by omega
    rw[List.take_length]
    repeat(refine zS ?_;intros)
    exact aAgain (k2,c2,L++l.map fun g=>(g,d.2),k+1) ⟨by show k+1≤ds.length;omega,by rw[htk];exact hU.more hde (fun x hx=>⟨hDL.e x (Qln hDL.asc hget x hx).1,(Qln hDL.asc hget x hx).2⟩) hl1,by show(L++l.map fun g=>(g,d.2)).length≤17*(k+1);rw[List.length_append,List.length_map];omega⟩ (by show ds.length -(k+1)<ds.length -k;omega) (entL (.cons (le_refl _) (.cons zle .nil)) zk (.cons (ob_refl _) (.drop (HLe.refl _))))
  obtain rfl:k=ds.length:=by omega
  rw[List.take_length] at hU
  have hx17: ∀x∈L,x.1.length≤1048576:=fun x hx=>by
    obtain⟨d,hdm,_,hxd⟩:=hU.fr x hx
    have h8:=Qaj (Yq hxd (QrA (hDL.e d hdm) hpn.ne)) hpn.ne
    rw[Yj,Yj,(hU.n x hx).t,hpn.t] at h8
    omega
  have hL9:L.length≤1000:=by omega
  repeat(refine zS ?_;intros)
  refine alO (zcallO 0 (by exact rfl)) zg ?_
  intro L' hp hs
  refine⟨rfl,?_⟩
  have hZ:=hU.done hF0 (QuP hDL) (QsK hDL hdp) hp hs
  have hll:=hp.length_eq
  repeat(refine zS ?_;intros)
  refine AX.ent (entFzG hC (s:=3) (by exact rfl) 0 (by exact rfl) (by rw[List.length_map];exact hll)) ?_
  exact aRet (rs:=[_,_]) rfl rfl (List.nil_sublist _) zr (hK L' (.inr ⟨hZ,by omega⟩))⟩
end Go.Proofs.YtjdpemcnlejpfaaGreatDoor
namespace Go.Proofs.YtjdpemcnlejpfaaGreatDoor
open Go.RowKit Go.Gx Go.Am Tryz
theorem Qu3{F:List Int}{M:Nat}(hM:M≤64)(hl:F.length≤17)(hd:(Xa F).length≤10)(hH: ∀i,(co F i).natAbs≤2^244):FcF F M:=by
  have key:P F≠0→ ∀g,Nrm g→P g∣P F→g.length≤10∧1≤g.length∧(∀i,(co g i).natAbs≤2^256)∧HB g (2*(ldP g*QmA g).natAbs+1)∧2*(ldP g*QmA g).natAbs+1≤2^540:=fun hF0 g hg hdv=>by
    have⟨h1,h2⟩:=Qny (n:=9) hd (by decide) hF0 hg hdv hH
    have hg6:hgt g≤2^256:=Nat.le_trans h1 (by decide+kernel)
    obtain⟨n,hn⟩:=Qa5 (G:=g) (by have :=hg.s;omega)
    have hn':g.length=n+1:=by have :=hg.t;rw[this] at hn;exact hn
    have hbnd:=Qsr hn
    have hld:(ldP g).natAbs≤2^256:=by rw[← (Zj hn).1];exact Nat.le_trans (Qd9 g n) hg6
    refine⟨h2,by omega,fun i=>Nat.le_trans (Qd9 g i) hg6,by rw[hbnd];exact Qva hn (by omega),?_⟩
    rw[hbnd]
    have h3:(ldP g).natAbs*(2^n*rtN (n+1)*hgt g)≤2^256*(2^9*5*2^256):=Nat.mul_le_mul hld (Nat.mul_le_mul (Nat.mul_le_mul (Nat.pow_le_pow_right (by decide) (by omega)) (rt5 _)) hg6)
    have h4:2*(2^256*(2^9*5*2^256))+1≤2^540:=by decide+kernel
    omega
  refine⟨hM,hl,?_,fun hF0 g hg hdv hsq=> ?_⟩
  · by_cases hF0:P F=0
    · exact⟨1,by rw[Qix hF0];exact Qvc,by decide+kernel⟩
    · have hpn:=YD hF0
      have hdp:P (Xr F)∣P F:=by rw[QaK ((Xz F).2 hF0),Qdz (by have :=XC (Yi ((Xz F).2 hF0));grind)];exact XL _
      obtain⟨_,_,_,h4,h5⟩:=key hF0 _ hpn hdp
      exact⟨_,h4,Nat.le_trans h5 (by decide+kernel)⟩
  · obtain⟨h1,h2,h3,h4,h5⟩:=key hF0 g hg hdv
    refine⟨hg,hsq,by omega,fun hl2=> ?_,h4,?_⟩
    · have :Bof g.length=4096:=by unfold Bof;rw[if_pos h1]
      rw[this]
      exact Qu5 (by rw[hg.t];exact hl2) (by rw[hg.t];exact h1) hsq h3
    · have :2^540<2^560:=by decide+kernel
      omega
end Go.Proofs.YtjdpemcnlejpfaaGreatDoor
namespace Go.Proofs.YtjdpemcnlejpfaaGreatDoor
open Go.RowKit Go.Gx Go.Am Tryz
theorem Qs3:FcF [0,0,-4,-4] 2:=Qu3 (by decide) (by decide) (by decide) fun i=>by
  match i with
  |0=>decide
  |1=>decide
  |2=>decide
  |3=>decide
  |i+4=>rw[XX (by simp)];decide
theorem Qs4:FcF [1,0,0,0,1] 2:=Qu3 (by decide) (by decide) (by decide) fun i=>by
  match i with
  |0=>decide
  |1=>decide
  |2=>decide
  |3=>decide
  |4=>decide
  |i+5=>rw[XX (by simp)];decide
theorem QiN{l:List Int}(h:l.length≤1099511627776):AC prog 30 [] [pc 17 l,pc 2 l] fun K=>K [] [Bo true]:=by
  have z:AC prog 30 [] [pv 17 l,pv 2 l] fun K=>K [] [Bo (decide (Xa l=Xa l))]:=c30.k h h
  rw[decide_eq_true rfl] at z
  exact AC.les z (.cons le_pcv0 (.cons le_pcv0 .nil))
set_option maxHeartbeats 4000000 in
instance c13:TK prog 13 (AC prog 13 [] [] fun K=>K [] [Bo true]):=⟨by
  refine aEnter func13 rfl ntmps13 rfl fun K C hC hK=> ?_
  have hF:AC prog 20 [] [pv 2 [0,0,-4,-4]] fun K=>K [] [it 2 (-4),sl 2 ([([0,1],2),([1,1],1)].map (fv 17))]:=AC.imp (c20.k Qs3) fun K hk fs hfs=>by
    rw[(hfs.fac Qnr.ne).1.uniq Qnr,QqQ];exact hk
  have hI:AC prog 24 [] [pv 2 [1,0,0,0,1]] fun K=>K [] [Bo true]:=AC.imp (c24.k Qs4) fun K hk b hb=>by
    rw[hb.2 QrN];exact hk
  have o1:AC prog 16 [] [sl 1 [I .i64 0,I .i64 0,I .i64 (-4),I .i64 (-4)]] fun K=>K [] [pc 2 [0,0,-4,-4]]:=c16.k (l:=[0,0,-4,-4]) (by decide) (by decide)
  repeat(refine zS ?_;intros)
  clear o1
  have s2:AC prog 30 [] [pc 17 [0,1],pc 2 [0,1]] fun K=>K [] [Bo true]:=QiN (by decide)
  have o2:AC prog 16 [] [sl 1 [I .i64 0,I .i64 1]] fun K=>K [] [pc 2 [0,1]]:=c16.k (l:=[0,1]) (by decide) (by decide)
  repeat(refine zS ?_;intros)
  clear o2 s2
  have s3:AC prog 30 [] [pc 17 [1,1],pc 2 [1,1]] fun K=>K [] [Bo true]:=QiN (by decide)
  have o3:AC prog 16 [] [sl 1 [I .i64 1,I .i64 1]] fun K=>K [] [pc 2 [1,1]]:=c16.k (l:=[1,1]) (by decide) (by decide)
  repeat(refine zS ?_;intros)
  clear o3 s3
  have o4:AC prog 16 [] [sl 1 [I .i64 1,I .i64 0,I .i64 0,I .i64 0,I .i64 1]] fun K=>K [] [pc 2 [1,0,0,0,1]]:=c16.k (l:=[1,0,0,0,1]) (by decide) (by decide)
  repeat(refine zS ?_;intros)
  exact aRet1 rfl zv hK (le_refl _)⟩
end Go.Proofs.YtjdpemcnlejpfaaGreatDoor
namespace Go.Proofs.YtjdpemcnlejpfaaGreatDoor
open Go.RowKit Go.Gx Go.Am Tryz
theorem Qmz{x:Int}{p:Nat}(h: -32768≤x∧x≤32767)(hp:p≤13): -1000000≤x*(p:Int)∧x*(p:Int)≤1000000:=by
  have h1:(x*(p:Int)).natAbs≤32768*13:=by
    rw[Int.natAbs_mul,Int.natAbs_natCast]
    exact Nat.mul_le_mul (by omega) hp
  omega
set_option maxHeartbeats 4000000 in
instance c4:TK prog 4 (∀{L:List Int}{n:Nat}(_: ∀x∈L,-32768≤x∧x≤32767) (_:n<256),AC prog 4 [] [sl 1 (L.map (I .i16)),I .u8 (n:Int)] fun K=>K [] [Bo true]):=⟨fun {L n} hL hn=>by
  refine aEnter func4 rfl ntmps4 rfl fun K C hC hK=> ?_
  have hb: ∀i,-32768≤L.getD i 0∧L.getD i 0≤32767:=fun i=>by
    rcases Nat.lt_or_ge i L.length with h|h
    · simp only[List.getD,List.getElem?_eq_getElem h,Option.getD_some];exact hL _ (List.getElem_mem h)
    · simp [List.getD,List.getElem?_eq_none h]
  obtain⟨hp,hp13⟩:=QjX (n:=n) (l:=QiQ) rfl
  repeat(refine zS ?_;intros)
  refine zB ?_ ?_<;>intro h1
  · repeat(refine zS ?_;intros)
    exact aRet1 rfl zv hK (le_refl _)
  repeat(refine zS ?_;intros)
  refine zB ?_ ?_<;>intro h2
  · repeat(refine zS ?_;intros)
    exact aRet1 rfl zv hK (le_refl _)
  repeat(refine zS ?_;intros)
  generalize QiQ.getD (n % 6) 0=p at hp hp13⊢
  have hp2:=hp.1
  have hb0:=hb 0
  have hb1:=hb 1
  repeat(refine zS ?_;intros)
  refine alE (aeRem _ zv zv (by omega) rfl) rfl zg ?_
  repeat(refine zS ?_;intros)
  refine zB ?_ ?_<;>intro h3
  · repeat(refine zS ?_;intros)
    exact aRet1 rfl zv hK (le_refl _)
  repeat(refine zS ?_;intros)
  refine alE (aeRem _ zv zv (by omega) rfl) rfl zg ?_
  repeat(refine zS ?_;intros)
  refine zB ?_ ?_<;>intro h4
  · repeat(refine zS ?_;intros)
    exact aRet1 rfl zv hK (le_refl _)
  have hpm: -1000000≤L.getD 1 0*(p:Int)∧L.getD 1 0*(p:Int)≤1000000:=Qmz hb1 hp13
  iterate 7 (refine zS ?_;intros)
  refine alO (aoLitG _ rfl zLv (by kernel_rfl) rfl) zg fun g1=> ?_
  have hDb: ∀i,-32768≤(L.drop 2).getD i 0∧(L.drop 2).getD i 0≤32767:=fun i=>by
    have :=hb (2+i)
    simpa [List.getD,List.getElem?_drop] using this
  have hDl:(L.drop 2).length+2=L.length∧(L.drop 2).length≤5:=by rw[List.length_drop];omega
  have hE:=fun D:List Int=>QsM (a:=L.getD 0 0) (b:=L.getD 1 0) hp D (fun h=>h3 (Int.tmod_eq_zero_of_dvd h)) (fun h=>h4 (Int.tmod_eq_zero_of_dvd h))
  clear hb
  repeat(refine zS ?_;intros)
  generalize L.drop 2=D at hDb hDl⊢
  refine aLoop [5,6,47,48] (fun x:Option Nat×Nat×Nat=>[(8,gh x.1 (x.2.2+1) x.2.1),(49,Am.N x.2.2)]) (fun x=>[(x.1,.gro 2 1 ((L.getD 1 0*(p:Int)::(D.take x.2.2).map fun y=>y*(p:Int)).map (I .i64)) x.2.1)]) (fun x=>x.2.2≤D.length) (fun x=>D.length -x.2.2) (some g1,1,0) (Nat.zero_le _) (entL (.cons (le_refl _) (.cons zle .nil)) zk (HLe.refl _)) fun⟨k1,c1,j⟩ hj=> ?_
  dsimp only at hj⊢
  obtain⟨A,eA⟩: ∃A,(L.getD 1 0*(p:Int)::(D.take j).map fun y=>y*(p:Int))=A:=⟨_,rfl⟩
  have hA:A.length=j+1:=by rw[←eA];simp;omega
  rw[eA]
  repeat(refine zS ?_;intros)
  refine zB ?_ ?_<;>intro h5
  · have hbj:=hDb j
    have hpj:=Qmz hbj hp13
    have hsn:(L.getD 1 0*(p:Int)::(D.take (j+1)).map fun y=>y*(p:Int))=A++[D.getD j 0*(p:Int)]:=by
      rw[←eA,List.take_add_one,List.map_append]
      simp [List.getD,show j<D.length by omega]
    clear hE hDb hb1 hb0 h3 h4
    repeat(refine zS ?_;intros)
    rename_i k2 c2
    exact aAgain (k2,c2,j+1) (by show j+1≤D.length;omega) (by show D.length -(j+1)<D.length -j;omega) (entL (.cons (Qcr rfl) (.cons zle .nil)) zk (.cons (Qa4 (by rw[hsn,List.map_append];rfl)) (HLe.refl _)))
  obtain rfl:j=D.length:=by omega
  rw[List.take_length] at eA
  have hE:=hE D
  rw[eA] at hE
  obtain⟨Q,eQ⟩: ∃Q,A++[L.getD 0 0]=Q:=⟨_,rfl⟩
  rw[eQ] at hE
  have hQ: ∀x∈Q,x.natAbs≤1000000:=fun x hx=>by
    rw[←eQ,←eA] at hx
    rcases List.mem_append.1 hx with hx|hx
    · rcases List.mem_cons.1 hx with rfl|hx
      · omega
      · obtain⟨y,hy,rfl⟩:=List.mem_map.1 hx
        obtain⟨i,hi,rfl⟩:=List.getElem_of_mem hy
        have :=hDb i
        rw[List.getD,List.getElem?_eq_getElem hi,Option.getD_some] at this
        have :=Qmz this hp13
        omega
    · rw[List.mem_singleton.1 hx];omega
  have hQl:Q.length≤8:=by rw[←eQ,List.length_append,hA,List.length_singleton];omega
  have hT:=Xe Q
  have hFc:FcF (Xa Q) 2:=Qu3 (by decide) (by omega) (by rw[XV];omega) fun i=>by
    rw[Xo]
    simp only[co,List.getD]
    cases he:Q[i]? with
    |none=>simp
    |some x=>exact Nat.le_trans (hQ x (List.mem_of_getElem? he)) (by decide+kernel)
  have hOf:AC prog 16 [] [sl 1 (Q.map (I .i64))] fun K=>K [] [pc 2 (Xa Q)]:=c16.k (by omega) (fun z hz=>by have :=hQ z hz;omega)
  have hI:AC prog 24 [] [pv 2 (Xa Q)] fun K=>K [] [Bo true]:=AC.imp (c24.k hFc) fun K hk b hb=>by
    rw[hb.2 (by rw[Yf];exact hE.2)];exact hk
  clear hFc hQ hE hDb
  repeat(refine zS ?_;intros)
  refine AL.ent (entFzG hC (s:=64) (by exact rfl) 0 (by exact rfl) (by rw[List.length_append,List.length_map,hA])) ?_
  refine AL.ent (entSub (s:=64) (a:=sl 1 (Q.map (I .i64))) (.of_eq (by rw[←eQ,List.map_append];first |done|rfl))) ?_
  repeat(refine zS ?_;intros)
  exact aRet1 rfl zv hK (le_refl _)⟩
end Go.Proofs.YtjdpemcnlejpfaaGreatDoor
namespace Go.Proofs.YtjdpemcnlejpfaaGreatDoor
open Go.RowKit Go.Gx Go.Am Tryz
theorem QfX{W:World}{S:Nat→Prop}{A:Option Addr}{n c:Nat}{xs:List Int}{y:Nat}(h0:QfK W S A n c xs)(b1:y<256)(ht:Qi4 W):Calls Tryz.prog 4 #[.slice A n c,.int .u8 (y:Int)] W (Ret fun v w'=> ∃g:Bool,v= .bool g∧Ext W w'∧g=true):=
  am_row (vs:=[.slice A n c,.int .u8 (y:Int)]) (c4.k h0.2 b1) ⟨i16_rep h0,i_rep,trivial⟩ (tab_rep ht) ⟨rfl,rfl⟩
end Go.Proofs.YtjdpemcnlejpfaaGreatDoor
