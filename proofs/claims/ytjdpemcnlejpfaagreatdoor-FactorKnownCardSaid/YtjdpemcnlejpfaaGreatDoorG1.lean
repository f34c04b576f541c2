/-
  G1, G2, G3, G6, R26
-/
import Derived.Test.YtjdpemcnlejpfaaGreatDoorF14
import Derived.Test.YtjdpemcnlejpfaaGreatDoorModTab
import Derived.Test.YtjdpemcnlejpfaaGreatDoorKnThy
import Derived.Test.YtjdpemcnlejpfaaGreatDoorOpenU8
set_option linter.all false
namespace Go.Proofs.YtjdpemcnlejpfaaGreatDoor
open Go.RowKit Go.Gx Go.Am Tryz
theorem Qjr{F:List Int}{M:Nat}(hM:M≤64)(hl:F.length≤17)(hd:(Xa F).length≤10)(h:nrm F≤2^244):FcF F M:=Qu3 hM hl hd fun i=>Nat.le_trans (QkK F i) h
theorem Qy6{α:Type}{l:List α}{k:Nat}{x0:α}(h:k<l.length):l.getD k x0∈l:=by
  simp only[List.getD,List.getElem?_eq_getElem h,Option.getD_some];exact List.getElem_mem _
end Go.Proofs.YtjdpemcnlejpfaaGreatDoor
namespace Go.Proofs.YtjdpemcnlejpfaaGreatDoor
open Go.RowKit Go.Gx Go.Am Tryz
end Go.Proofs.YtjdpemcnlejpfaaGreatDoor
namespace Go.Proofs.YtjdpemcnlejpfaaGreatDoor
open Go.RowKit Go.Gx Go.Am Tryz
structure Qw0 (fs:List (List Int×Nat)):Prop where
  len:fs.length≤1000
  fc: ∀x∈fs,FcF x.1 17
  n: ∀x∈fs,Nrm x.1
  irr: ∀x∈fs,Irr (P x.1)
  k1: ∀x∈fs,1≤x.2
  asc:fs.Pairwise fun a b=>Qbv a.1 b.1<0
set_option maxHeartbeats 1000000 in
instance c23:TK prog 23 (∀{fs:List (List Int×Nat)}(_:Qw0 fs),AC prog 23 [] [sl 2 (fs.map (fv 17))] fun K=>K [] [Bo true]):=⟨fun {fs} hS=>by
  refine aEnter func23 rfl ntmps23 rfl fun K C hC hK=> ?_
  obtain⟨hl,hf,hn,hi,hk1,hasc⟩:=hS
  repeat(refine zS ?_;intros)
  refine aL1 [0,5,6] (fun k=>[(7,N k)]) (fun _=>[]) (fun k=>k≤fs.length) (fun k=>fs.length -k) 0 (Nat.zero_le _) (entL (.cons zle .nil) zk (HLe.none _)) fun k hk=> ?_
  repeat(refine zS ?_;intros)
  refine zB ?_ ?_<;>intro h
  · have h8:k<fs.length:=by omega
    have hm:=Qy6 (x0:=(([],0):List Int×Nat)) h8
    have u1:=hf _ hm
    have u2:=hn _ hm
    have u3:=hi _ hm
    have u4:=hk1 _ hm
    have hcmp: ∀j,k=j+1→Qbv (fs.getD j ([],0)).1 (fs.getD k ([],0)).1<0∧Nrm (fs.getD j ([],0)).1∧(fs.getD j ([],0)).1.length≤17:=fun j hj=>by
      have hmj:=Qy6 (x0:=(([],0):List Int×Nat)) (show j<fs.length by omega)
      refine⟨?_,hn _ hmj,(hf _ hmj).len⟩
      have :=List.pairwise_iff_getElem.1 hasc j k (by omega) h8 (by omega)
      simpa [List.getD,h8,show j<fs.length by omega] using this
    have u5:=u1.len
    have hN:AC prog 44 [] [pc 17 (fs.getD k ([],0)).1] fun K=>K [] [Bo true]:=AC.les (AC.imp (c44.k (M:=17) (F:=(fs.getD k ([],0)).1) (by omega) (by omega)) fun K hk b hb=>by
      rw[hb.2 ⟨by rw[u2.t],u2.s,u2.c⟩];exact hk) (.cons le_pcv0 .nil)
    have hI:AC prog 24 [] [pc 17 (fs.getD k ([],0)).1] fun K=>K [] [Bo true]:=AC.les (AC.imp (c24.k u1) fun K hk b hb=>by
      rw[hb.2 u3];exact hk) (.cons le_pcv0 .nil)
    rcases Nat.eq_zero_or_pos k with h0|h0
    · clear hcmp hm hf hn hi hk1 hasc u1 u3 u2
      repeat(refine zS ?_;intros)
      exact ag1 (k+1) (by omega) (entL (.cons zle .nil) zk (HLe.none _))
    · obtain⟨c1,c2,c3⟩:=hcmp (k -1) (by omega)
      rw[←c2.t,←u2.t] at c1
      clear hcmp hm hf hn hi hk1 hasc u1 u3 u2 c2
      repeat(refine zS ?_;intros)
      exact ag1 (k+1) (by omega) (entL (.cons zle .nil) zk (HLe.none _))
  repeat(refine zS ?_;intros)
  exact aRet1 rfl zv hK (le_refl _)⟩
end Go.Proofs.YtjdpemcnlejpfaaGreatDoor
namespace Go.Proofs.YtjdpemcnlejpfaaGreatDoor
open Go.RowKit Go.Gx Go.Am Tryz
section
variable{P:Program}{n:Nat}{C:Ctx}{env:Nat→AV}{H:Hp}{d:Option Nat}{ty:TypeId}{pos:String}{af:Array Edge}{gd:Option (Nat×Bool)}{x y:Operand}{t:TypeId}
theorem QCk{el:TypeId}{len:Nat}{k:IntKind}{q:Int}[c:TU P t (.array len el)][c':TS P el 1][c2:TL P el .one]{f:Nat→AV}{l:List Nat}(i:Nat)(hx:av n env x=agg (l.map f))(hy:av n env y=I k q)(hq:q=(i:Int))(hi:i<l.length)(hl:l.length=len):AE P n C env H .no ⟨d,.index t x y,ty,pos,af,gd⟩ (f (l.getD i 0)):=by
  unfold AE
  intro e w S r
  have h0:=r.at hx
  unfold agg at h0
  obtain⟨vs,h1,h2,_⟩:=h0
  unfold I at hy
  obtain⟨u,hu,hr⟩:=h2.get (i:=i) (a:=f (l.getD i 0)) (by simp [List.getD,hi])
  exact⟨u,hr,fun _ _=>QuZ i c.un c2.ld c'.sz h1 (r.lit hy) hq (by omega) (by simpa using hu)⟩
end
theorem QCl{F:List Int}{M:Nat}(hM:M≤64)(hl:F.length≤17)(hd:(Xa F).length≤11)(hp: ∀i,(co (Xr F) i).natAbs≤2^110)(hg: ∀g,Nrm g→P g∣P F→Qem (P g) (der (P g))→ ∀i,(co g i).natAbs≤2^56):FcF F M:=by
  refine⟨hM,hl,?_,fun hF0 g hn hdv hsq=> ?_⟩
  · by_cases hF0:P F=0
    · exact⟨1,by rw[Qix hF0];exact Qvc,by decide+kernel⟩
    · have hpn:=YD hF0
      have hpl:=Yz F
      obtain⟨n,hn⟩:=Qa5 (G:=Xr F) (by have :=hpn.s;omega)
      have hn':(Xr F).length=n+1:=by have :=hpn.t;rw[this] at hn;exact hn
      have hh:hgt (Xr F)≤2^110:=Qih _ hp
      have hld:(ldP (Xr F)).natAbs≤2^110:=by rw[← (Zj hn).1];exact hp n
      have h3:(ldP (Xr F)).natAbs*(2^n*rtN (n+1)*hgt (Xr F))≤2^110*(2^10*5*2^110):=Nat.mul_le_mul hld (Nat.mul_le_mul (Nat.mul_le_mul (Nat.pow_le_pow_right (by decide) (by omega)) (rt5 _)) hh)
      have h4:2*(2^110*(2^10*5*2^110))+1≤BS^17:=by decide+kernel
      exact⟨_,Qva hn (by omega),by omega⟩
  · have hb:=hg g hn hdv hsq
    have hdl:=Qaj hdv hF0
    rw[Yj,Yj,hn.t] at hdl
    obtain⟨n,hn1⟩:=Qa5 (G:=g) (by have :=hn.s;omega)
    have hn':g.length=n+1:=by have :=hn.t;rw[this] at hn1;exact hn1
    have hbnd:=Qsr hn1
    have hld:(ldP g).natAbs≤2^56:=by rw[← (Zj hn1).1];exact hb n
    have hh:hgt g≤2^56:=Qih _ hb
    refine⟨hn,hsq,by omega,fun hl2=> ?_,by rw[hbnd];exact Qva hn1 (by omega),?_⟩
    · rcases Nat.lt_or_ge g.length 11 with h|h
      · have :Bof g.length=4096:=by unfold Bof;rw[if_pos (by omega)]
        rw[this]
        exact Qu5 (by rw[hn.t];exact hl2) (by rw[hn.t];omega) hsq fun i=>Nat.le_trans (hb i) (by decide+kernel)
      · have :Bof g.length=1024:=by unfold Bof;rw[if_neg (by omega),if_pos (by omega)]
        rw[this]
        exact QCp (by rw[hn.t];exact hl2) (by rw[hn.t];omega) hsq hb
    · rw[hbnd]
      have h3:(ldP g).natAbs*(2^n*rtN (n+1)*hgt g)≤2^56*(2^10*5*2^56):=Nat.mul_le_mul hld (Nat.mul_le_mul (Nat.mul_le_mul (Nat.pow_le_pow_right (by decide) (by omega)) (rt5 _)) hh)
      have h4:2*(2^56*(2^10*5*2^56))<2^560:=by decide+kernel
      exact Nat.lt_of_le_of_lt (Nat.mul_le_mul_left 2 h3) h4
abbrev U8(n:Nat):AV:=I .u8 (n:Int)
def cnK(M:List Nat):List Nat:=(List.range 16).map fun i=>M.count i
theorem QBS(M:List Nat):(cnK M).length=16:=by simp [cnK]
theorem QBR{M:List Nat}{i:Nat}(h:i<16):(cnK M).getD i 0=M.count i:=by simp [cnK,List.getD,h]
theorem QCc{M:List Nat}{i:Nat}(h:i<16):(cnK M).set i (M.count i+1)=cnK (M++[i]):=by
  unfold cnK
  refine List.ext_getElem? fun j=> ?_
  rw[List.getElem?_set]
  simp only[List.getElem?_map,List.length_map,List.length_range]
  by_cases hj:j<16
  · rw[List.getElem?_range hj]
    by_cases h0:i=j
    · subst h0;rw[if_pos rfl,if_pos h];simp
    · rw[if_neg h0];simp [List.count_append,List.count_singleton,h0]
  · rw[List.getElem?_eq_none (by simpa using hj)]
    by_cases h0:i=j
    · omega
    · rw[if_neg h0];rfl
theorem QCh(i:Nat)(h:i<16):FcF (kn i) 17:=by
  have⟨h1,_⟩:=QBT i h
  exact Qjr (by decide) (by omega) (by have :=Xe (kn i);omega) (Nat.le_trans (QBw i h) (by decide+kernel))
set_option maxHeartbeats 4000000 in
instance c3:TK prog 3 (∀{x:RawI}{L:List Nat}(_: ∀d∈x.2,d<BS) (_: ∀n∈L,n<256),AC prog 3 [] [rx x,sl 1 (L.map U8)] fun K=>K [] [Bo true]):=⟨fun {x L} hx hL=>by
  refine aEnter func3 rfl ntmps3 rfl fun K C hC hK=> ?_
  have hSg:AC prog 14 [] [rx x] fun K=> ∀s:Int,(s=0↔dvI x=0)→(s<0↔dvI x<0)→(0<s↔0<dvI x)→ -1≤s→s≤1→K [] [I .i64 s]:=AC.les (c14.k (M:=x.2.length) (z:=dvI x)) (.cons (rx_iv (Nat.le_refl _) hx) .nil)
  repeat(refine zS ?_;intros)
  refine zB ?_ ?_<;>intro h1
  · repeat(refine zS ?_;intros)
    exact aRet1 rfl zv hK (le_refl _)
  repeat(refine zS ?_;intros)
  refine zB ?_ ?_<;>intro h2
  · repeat(refine zS ?_;intros)
    exact aRet1 rfl zv hK (le_refl _)
  repeat(refine zS ?_;intros)
  rename_i s hs1 hs2 hs3 hs4 hs5
  refine zB ?_ ?_<;>intro h3
  · repeat(refine zS ?_;intros)
    exact aRet1 rfl zv hK (le_refl _)
  have hx3:x.2.length≤3:=by
    have h9:=h2
    omega
  obtain⟨u,eu⟩: ∃u,dvI x=u:=⟨_,rfl⟩
  have hu:u≠0:=by rw[←eu];exact fun h=>h3 (hs1.2 h)
  have hxl:(rx x).le (iv 3 u):=eu▸rx_iv hx3 hx
  have hub:u.natAbs<2^96:=by
    rw[←eu]
    show(sg x.1 (val x.2)).natAbs<_
    rw[sg_abs]
    exact Nat.lt_of_lt_of_le (Za x.2 hx) (Nat.le_trans (Nat.pow_le_pow_right (by decide) hx3) (by decide+kernel))
  have hSc:AC prog 15 [] [pc 2 [1],rx x] fun K=>K [] [pc (2+3) (Xa (Xf [1] u))]:=AC.les (c15.k (by decide) (by decide)) (.cons le_pcv0 (.cons hxl .nil))
  have o1:AC prog 16 [] [sl 1 [I .i64 1]] fun K=>K [] [pc 2 [1]]:=c16.k (l:=[1]) (by decide) (by decide)
  have hX0:P (Xa (Xf [1] u))=Gx.K (u:Rat)*P (pK []):=by rw[Yf,YF,Qcw,QBu]
  have hXl:=Xe (Xf [1] u)
  have hXs:(Xf [1] u).length=1:=rfl
  have hXt:(Xa (Xf [1] u)).length=1:=by
    have :P (Xa (Xf [1] u))≠0:=by rw[hX0];exact QaT (Qpv (XC hu)) (QBK (by simp))
    have h9:=XF.1 this
    rw[Yj,XV] at h9
    omega
  clear hs1 hs2 hs3 hs4 hs5 h3 hSg h2
  repeat(refine zS ?_;intros)
  refine aL2 [1,2,6,35,36] (fun k X=>[(5,pc (5+k*25) X),(7,Am.N (X.length -1)),(37,Am.N k)]) (fun k _=>[.arr 33 1 ((cnK ((L.take k).map (· % 16))).map Am.N),.arr 25 1 [Bo x.1,raw x.2]]) (fun k X=>k≤L.length∧Xa X=X∧1≤X.length∧X.length≤4*k+1∧P X=Gx.K (u:Rat)*P (pK ((L.take k).map (· % 16)))) (fun k _=>L.length -k) 0 (Xa (Xf [1] u)) ⟨Nat.zero_le _,XV _,by omega,by omega,hX0⟩ (entL (.cons (le_pcc (by omega)) (.cons (leI (by omega)) (.cons zle .nil))) zk (.cons (ob_eq rfl) (.cons (ob_refl _) (HLe.none _)))) fun k X ⟨hk,hXn,hX1,hX4,hP⟩=> ?_
  have hcl:=QBS ((L.take k).map (· % 16))
  repeat(refine zS ?_;intros)
  refine zB ?_ ?_<;>intro h4
  · have h8:k<L.length:=by omega
    have hn:=hL _ (Qy6 (x0:=0) h8)
    have hr16:L.getD k 0 % 16<16:=Nat.mod_lt _ (by decide)
    have hidx:(L.take (k+1)).map (· % 16)=(L.take k).map (· % 16)++[L.getD k 0 % 16]:=by
      rw[List.take_add_one,List.map_append,List.getElem?_eq_getElem h8]
      simp [List.getD,h8]
    have hcg:=QBR (M:=(L.take k).map (· % 16)) hr16
    have hcc:((L.take k).map (· % 16)).count (L.getD k 0 % 16)≤k:=Nat.le_trans List.count_le_length (by rw[List.length_map,List.length_take];omega)
    have hcs:=QCc (M:=(L.take k).map (· % 16)) hr16
    rw[←hidx,←hcg] at hcs
    have⟨y1,y2⟩:=QBT _ hr16
    have yn:=Qw4 _ hr16
    have yt:Xa (kn (L.getD k 0 % 16))=kn (L.getD k 0 % 16):=yn.t
    have hKn:AC prog 18 [] [U8 (L.getD k 0)] fun K=>K [] [pc 2 (kn (L.getD k 0 % 16))]:=by
      have z:AC prog 18 [] [I .u8 ((L.getD k 0:Nat):Int)] fun K=>K [] [pc 2 (Xa (kn (L.getD k 0 % 16)))]:=c18.k hn
      rwa [yt] at z
    have e1:P (Xa (Xg X (kn (L.getD k 0 % 16))))=Gx.K (u:Rat)*P (pK ((L.take (k+1)).map (· % 16))):=by
      rw[Yf,Zb,hP,hidx,QCa,QBs,QBu,QaE,XI]
    have e2:(Xa (Xg X (kn (L.getD k 0 % 16)))).length+1=X.length+(kn (L.getD k 0 % 16)).length:=by
      have h9:=Zd (QaA (F:=X) (by rw[hXn];exact hX1)) yn.ne
      rw[←Zb,Yj,Yj,Yj,hXn] at h9
      have h10:(Xa (knL.getD (L.getD k 0 % 16) [])).length=(kn (L.getD k 0 % 16)).length:=by rw[yn.t]
      rw[h10] at h9
      exact h9
    have e3:(Xa (kn (L.getD k 0 % 16))).length=(kn (L.getD k 0 % 16)).length:=by rw[yt]
    generalize kn (L.getD k 0 % 16)=y at y1 y2 yt hKn e1 e2 e3
    clear yn hP hX0
    repeat(refine zS ?_;intros)
    exact ag2 (k+1) (Xa (Xg X y)) ⟨by omega,XV _,by omega,by omega,e1⟩ (entL (.cons (le_pcc (by omega)) (.cons (leI (by omega)) (.cons zle .nil))) zk (.cons (ob_eq (by rw[←hcs])) (.cons (ob_refl _) (HLe.none _))))
  obtain rfl:k=L.length:=by omega
  rw[List.take_length] at hP hcl⊢
  have hM: ∀i∈L.map (· % 16),i<16:=fun i hi=>by
    obtain⟨n,_,rfl⟩:=List.mem_map.1 hi
    exact Nat.mod_lt _ (by decide)
  have hMl:(L.map (· % 16)).length=L.length:=List.length_map ..
  clear hX0 hXs hXl hXt o1
  generalize L.map (· % 16)=M at hP hcl hM hMl⊢
  repeat(refine zS ?_;intros)
  refine zB ?_ ?_<;>intro h5
  · repeat(refine zS ?_;intros)
    exact aRet1 rfl zv hK (le_refl _)
  have hM5:M.length≤5:=by omega
  have hXtl:(Xa X).length≤11:=by rw[hXn];omega
  have hF:FcF X 7:=QCl (by decide) (by omega) hXtl (QBO hu hM hP hM5) fun g g1 g2 g3=>QBX hu hM hP hM5 hXtl g1 g2 g3
  have hXb: ∀i,(co X i).natAbs<BS^7:=fun i=>by
    have e:P X=P (Xf (pK M) u):=by rw[hP,YF]
    rw[QgE e i,Xi,Int.natAbs_mul]
    have h9:=Nat.le_trans (QkK (pK M) i) (QBM (B:=1000004) fun i hi=>QBw i (hM i hi))
    have h10:1000004^M.length≤1000004^5:=Nat.pow_le_pow_right (by decide) hM5
    exact Nat.lt_of_le_of_lt (Nat.mul_le_mul (Nat.le_trans h9 h10) (Nat.le_of_lt hub)) (by decide+kernel)
  have hle: ∀m,(pc m X).le (pc 7 X):=fun m=>QcI hXb
  have hX0:=QBL hu hM hP
  have hpc:=QBW hu hM hP
  refine AW.ent (entSub (s:=5) (a:=pc 7 X) (by exact hle _)) ?_
  have hFc:AC prog 20 [] [pc 7 X] fun K=> ∀fs,Qbb X fs→fs.length≤289→K [] [it 7 (Yc X),sl 2 (fs.map (fv 17))]:=AC.les (AC.imp (c20.k hF) fun K h fs hfs=>h fs (hfs.fac hX0).1 (hfs.fac hX0).2) (.cons le_pcv0 .nil)
  repeat(refine zS ?_;intros)
  rename_i got hgot hgl g1
  have⟨k1,k2⟩:=QBV hu hM hP hgot
  have hmem:=QBE hu hM hP hgot
  have hirr:=QB0 hu hM hP
  have hS:Qw0 got:=⟨by omega,fun y hy=>by
    obtain⟨i,hi,_,e⟩:=hmem y hy
    rw[e];exact QCh i hi,hgot.n,hgot.irr,hgot.k1,hgot.asc⟩
  have hg2: ∀y∈got,y.1.length≤1048576:=fun y hy=>by have :=hgot.le y hy;omega
  have hg3:got.length≤1000:=by omega
  refine AW.ent (entSub (s:=64) (a:=agg ((cnK M).map Am.N)) (.of_eq rfl)) ?_
  rw[hpc]
  have hSm:AC prog 22 [] [rx x,it 7 u] fun K=>K [] [Bo true]:=by
    have z:AC prog 22 [] [iv 3 u,iv 7 u] fun K=>K [] [Bo (decide (u=u))]:=c22.k
    rw[decide_eq_true rfl] at z
    exact AC.les z (.cons hxl (.cons le_it0 .nil))
  clear hFc hSc hgot hmem hXb hle hX0 hP hpc
  refine aL1 [1,2,5,10,11,64] (fun k=>[(12,Am.N (QBq M k).length),(65,Am.N k)]) (fun _=>[.arr 25 1 (itl 7 u),.arr 33 1 ((cnK M).map Am.N),.arr 25 1 [Bo x.1,raw x.2]]) (fun k=>k≤16) (fun k=>16 -k) 0 (by decide) (entL (.cons zle (.cons zle .nil)) zk (.cons (ob_refl _) (.cons (ob_refl _) (.cons (ob_refl _) (HLe.none _))))) fun k hk=> ?_
  have hul:(QBq M k).length≤16:=by
    have h9:(QBq M k).length≤(List.range k).length:=List.length_filter_le _ _
    rw[List.length_range] at h9;omega
  repeat(refine zS ?_;intros)
  refine zB ?_ ?_<;>intro h6
  · have h16:k<16:=by omega
    have hus:=QB6 M k
    have hk1:=k1 k h16
    have hcnt:M.count k≤5:=Nat.le_trans List.count_le_length hM5
    have hKn:AC prog 18 [] [U8 k] fun K=>K [] [pc 2 (kn k)]:=by
      have z:AC prog 18 [] [I .u8 ((k:Nat):Int)] fun K=>K [] [pc 2 (Xa (kn (k % 16)))]:=c18.k (by omega)
      rw[Nat.mod_eq_of_lt h16,show Xa (kn k)=kn k from(Qw4 k h16).t] at z
      exact z
    have hkl:=(QBT k h16).1
    have hgk:=QBR (M:=M) h16
    have hcl2:=QBS M
    clear k1
    repeat(refine zS ?_;intros)
    refine alE (QCk (l:=cnK M) (f:=Am.N) k zv zv rfl (by omega) hcl2) rfl zg ?_
    rw[hgk]
    repeat(refine zS ?_;intros)
    refine zB ?_ ?_<;>intro h7
    · rw[if_pos (by omega)] at hus
      repeat(refine zS ?_;intros)
      exact ag1 (k+1) (by omega) (entL (.cons (leI (by omega)) (.cons zle .nil)) zk (.cons (ob_refl _) (.cons (ob_refl _) (.cons (ob_refl _) (HLe.none _)))))
    · rw[if_neg (by omega)] at hus
      repeat(refine zS ?_;intros)
      exact ag1 (k+1) (by omega) (entL (.cons (leI (by omega)) (.cons zle .nil)) zk (.cons (ob_refl _) (.cons (ob_refl _) (.cons (ob_refl _) (HLe.none _)))))
  obtain rfl:k=16:=by omega
  by_cases hL1:L.length=1
  · have hI:AC prog 24 [] [pc 7 X] fun K=>K [] [Bo true]:=AC.les (AC.imp (c24.k hF) fun K hk b hb=>by
      rw[hb.2 (hirr.2 (by omega))];exact hk) (.cons le_pcv0 .nil)
    clear hF hirr
    repeat(refine zS ?_;intros)
    exact aRet1 rfl zv hK (le_refl _)
  · have hI:AC prog 24 [] [pc 7 X] fun K=>K [] [Bo false]:=AC.les (AC.imp (c24.k hF) fun K hk b hb=>by
      have :b=false:=by cases b;rfl;exact absurd (hirr.1 (hb.1 rfl)) (by omega)
      rw[this];exact hk) (.cons le_pcv0 .nil)
    clear hF hirr
    repeat(refine zS ?_;intros)
    exact aRet1 rfl zv hK (le_refl _)⟩
end Go.Proofs.YtjdpemcnlejpfaaGreatDoor
namespace Go.Proofs.YtjdpemcnlejpfaaGreatDoor
open Go.RowKit Go.Gx Go.Am Tryz
theorem QB5{W:World}{S S':Nat→Prop}{A A':Option Addr}{n c n' c':Nat}{ds xs:List Nat}{g:Bool}(h0:Qay W S A n c ds)(h1:U8R W S' A' n' c' xs)(ht:Qi4 W):Calls Tryz.prog 3 #[.agg #[.bool g,.slice A n c],.slice A' n' c'] W (Ret fun v w'=> ∃g:Bool,v= .bool g∧Ext W w'∧g=true):=
  am_row (vs:=[.agg #[.bool g,.slice A n c],.slice A' n' c']) (c3.k (x:=(g,ds)) h0.2 h1.2) ⟨int_rep h0,u8s_rep h1,trivial⟩ (tab_rep ht) ⟨rfl,rfl⟩
end Go.Proofs.YtjdpemcnlejpfaaGreatDoor
