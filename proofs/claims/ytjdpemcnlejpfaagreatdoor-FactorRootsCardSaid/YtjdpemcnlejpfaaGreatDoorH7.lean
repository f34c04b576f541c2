/-
  H7, H8, F8, F9
-/
import Derived.Test.YtjdpemcnlejpfaaGreatDoorH4
import Derived.Test.YtjdpemcnlejpfaaGreatDoorDecP
import Derived.Test.YtjdpemcnlejpfaaGreatDoorSuitThy
import Derived.Test.YtjdpemcnlejpfaaGreatDoorN3
set_option linter.all false
namespace Go.Proofs.YtjdpemcnlejpfaaGreatDoor
open Go.RowKit Go.Gx Go.Am Tryz
theorem QpK{p i:Nat}(hp:Xk p){l:List (List Nat)}{g:List Nat}(hl: ∀d∈l,Zw p d)(hi:l[i]? =some g):XE p (Qji p l i):=by
  have hp0:0<p:=by have :=hp.1;omega
  have hg:=hl g (List.mem_of_getElem? hi)
  have hgp:=hg.pos
  have hgd:l.getD i []=g:=by rw[List.getD,hi];rfl
  unfold Qji Qb9
  rw[hgd,hg.can.nrm]
  dsimp only
  rw[if_neg (by omega)]
  split
  · exact⟨fun d hd=>(by cases hd),fun h=>absurd rfl h⟩
  · exact(QaB hp0 (Qc1 hp0 _ _ _ _ _)).2
theorem QpM{p:Nat}(hp:PrS p){l:List (List Nat)}(hm: ∀d∈l,Zw p d)(hc:CoA p l)(h32: ∀d∈l,d.length≤32):(Qaq p l).length=l.length∧ ∀s∈Qaq p l,s.length≤32∧ ∀d∈s,d<p:=by
  refine⟨by simp [Qaq],fun s hs=> ?_⟩
  obtain⟨i,hi⟩:=List.getElem?_of_mem hs
  obtain⟨h1,rfl⟩:=QeY hi
  have h2:=(Qjj hp.1 hm (QaQ h1) (Qrx hp.1 hm hc)).1
  have h3:=h32 _ (Yr h1)
  refine⟨by omega,?_⟩
  exact(QpK hp.1 hm (QaQ h1)).1
theorem QqF{m:Nat}{ex s g:List Int}(h:s.length≤32)(hg:g.length≤32):(QkN m ex s g).length≤32:=by
  unfold QkN
  have h1:=Zu m (Xa (XD s (QfL m (Xa (Xg s ex)) g)))
  have h2:=Xe (XD s (QfL m (Xa (Xg s ex)) g))
  have h3:=QeD m (Xa (Xg s ex)) g
  have h4:=Xe g
  have h5:(XD s (QfL m (Xa (Xg s ex)) g)).length=max s.length (QfL m (Xa (Xg s ex)) g).length:=by simp [XD]
  omega
theorem Qt4{m:Nat}{x:Int}{f:List Int}{gs ss:List (List Int)}(hg: ∀f∈gs,f.length≤32)(hs: ∀f∈ss,f.length≤32): ∀u∈step1 m x f gs ss,u.length≤32:=fun u hu=>by
  unfold step1 at hu
  obtain⟨p,hp,rfl⟩:=List.mem_map.1 hu
  exact QqF (hs _ (List.of_mem_zip hp).1) (QjZ hg _ (List.of_mem_zip hp).2)
theorem Qo9{p:Nat}{l:List (List Nat)}(h: ∀d∈l,d.length≤32): ∀u∈Qae p l,u.length≤32:=fun u hu=>by
  unfold Qae at hu
  obtain⟨d,hd,rfl⟩:=List.mem_map.1 hu
  have :=Xe (d.map (QdX p))
  rw[List.length_map] at this
  have :=h d hd
  omega
theorem Qlk{p i:Nat}{l:List (List Nat)}(h:i<l.length):Qae p (l.take (i+1))=Qae p (l.take i)++[Xa ((l.getD i []).map (QdX p))]:=by
  unfold Qae
  rw[List.take_add_one,QaQ h,List.map_append];rfl
theorem QnL{M M':Nat}{l:List (List Int)}(h:M≤M'):(pcs M l).le (pcs M' l):=le_map l (fun _=>le_pcc h) fun _=>QvF
theorem Qvn{M M':Nat}{z z':Int}(hz:z=z')(h:z'.natAbs<BS^M'):(it M z).le (it M' z'):=by subst hz;exact it_lt h
theorem QwK{t:TypeId}{M M':Nat}{z z':Int}(hz:z=z')(h:z'.natAbs<BS^M'):(Ob.arr t 1 (itl M z)).le (.arr t 1 (itl M' z')):=by subst hz;exact ob_il h
set_option maxHeartbeats 4000000 in
instance Qxb:TK prog 136 (∀{Mf Mm p k:Nat}{f:List Int}{l:List (List Nat)}(_:PrS p)(_:Mf≤4096)(_:2≤Mm∧Mm≤4096)(_:p^k<BS^Mm)(_:1≤k∧k≤600)(_:f.length≤1024)(_:l.length≤32)(_: ∀d∈l,Zw p d) (_: ∀d∈l,d.length≤32) (_:CoA p l) (_: ¬Qut p f l),AC prog 136 [] [pv Mf f,Qi7 l,W32 p,N k] fun K=> ∀L0 L1 e,LReach p k f (Qae p l) (Qae p (Qaq p l)) L0 L1 e→(e=k∨QfU f L0)→L0.length=l.length→(∀u∈L0,u.length≤32)→K [] [pcs Mm L0,I .i64 0]):=⟨fun {Mf Mm p k f l} hp hMf hMm hpk hk hf hl hm hd hc hb=>by
  refine aEnter func136 rfl ntmps136 rfl fun K C hC hK=> ?_
  have h1:=hp.two
  have h2:=hp.lt
  have hp0:0<p:=by omega
  have hip:=QbU hp
  have em:=QbW h1 hm
  have hlead:md p (ldP f)≠0:=fun h=>hb (.inl h)
  have hmdl:=Qej hp0 (ldP f)
  have hsame:XO p (QcM p [md p (ldP f)] l)=XO p (XR p f):=Classical.not_not.1 fun h=>hb (.inr h)
  have⟨cl,ch⟩:=QpM hp hm hc hd
  repeat(refine zS ?_;intros)
  refine aL1 [0,1,2,3,10,35,36] (fun i=>[(37,N i)]) (fun i=>[.arr 66 1 ((l.take i++List.replicate (l.length -i) []).map raw)]) (fun i=>i≤l.length) (fun i=>l.length -i) 0 (by omega) (entL (.cons zle .nil) zk (.cons (ob_eq (by simp)) (HLe.none _))) fun i hi=> ?_
  have hlk:(l.take i++List.replicate (l.length -i) ([]:List Nat)).length=l.length:=by simp;omega
  repeat(refine zS ?_;intros)
  refine zB ?_ ?_<;>intro h3
  · have a1:=hd _ (Yr (l:=l) (i:=i) (by omega))
    have a2:=Qgq h1 (hm _ (Yr (l:=l) (i:=i) (by omega)))
    have hset:(l.take i++List.replicate (l.length -i) ([]:List Nat)).set i (l.getD i [])=l.take (i+1)++List.replicate (l.length -(i+1)) []:=by
      have h9:(l.take i).length=i:=by rw[List.length_take];omega
      rw[show l.length -i=(l.length -(i+1))+1 by omega,List.replicate_succ,List.set_append_right _ _ (by omega),h9,Nat.sub_self,List.set_cons_zero,List.take_add_one,QaQ (show i<l.length by omega),List.append_assoc]
      rfl
    obtain⟨g,eg⟩: ∃g,l.getD i []=g:=⟨_,rfl⟩
    rw[eg] at a1 a2 hset
    repeat(refine zS ?_;intros)
    rw[eg]
    repeat(refine zS ?_;intros)
    rw[a2]
    repeat(refine zS ?_;intros)
    exact ag1 (i+1) (by omega) (entL (.cons zle .nil) zk (.cons (ob_eq (by rw[←hset])) (HLe.none _)))
  obtain rfl:i=l.length:=by omega
  refine AW.ent (entFzS hC (s:=10) (by exact rfl) 0 (by exact rfl) (by simp) (a:=Qi7 l) (.of_eq (by rw[List.take_length,Nat.sub_self,List.replicate_zero,List.append_nil]))) ?_
  have hdeg: ∀f∈l,2≤(XO p f).length:=fun f hf=>by have :=hm f hf;rw[this.can.nrm];exact this.pos
  have hd64: ∀f∈l,f.length≤64:=fun f hf=>by have :=hd f hf;omega
  repeat(refine zS ?_;intros)
  refine aL2 [0,1,2,3,10,13,15,67,68] (fun j X=>[(16,raw X),(69,N j)]) (fun _ _=>[]) (fun j X=>j≤l.length∧X.length≤64*j+1∧(l.drop j).foldl (Qau p) X=QcM p [md p (ldP f)] l) (fun j _=>l.length -j) 0 [md p (ldP f)] ⟨by omega,by simp,rfl⟩ (entL (.cons (by exact le_refl (raw [md p (ldP f)])) (.cons zle .nil)) zk (HLe.none _)) fun j X ⟨hj,hX,hI⟩=> ?_
  repeat(refine zS ?_;intros)
  refine zB ?_ ?_<;>intro h4
  · have a1:=hd _ (Yr (l:=l) (i:=j) (by omega))
    have hst:(l.drop j).foldl (Qau p) X=(l.drop (j+1)).foldl (Qau p) (Qau p X (l.getD j [])):=by
      rw[List.drop_eq_getElem_cons (by omega),List.foldl_cons]
      simp [List.getD,show j<l.length by omega]
    rw[hst] at hI
    obtain⟨g,eg⟩: ∃g,l.getD j []=g:=⟨_,rfl⟩
    rw[eg] at a1 hI
    have m1:=(Qa6 p X g).1
    repeat(refine zS ?_;intros)
    rw[eg]
    repeat(refine zS ?_;intros)
    exact ag2 (j+1) (Qau p X g) ⟨by omega,by omega,hI⟩ (entL (.cons zle (.cons zle .nil)) zk (HLe.none _))
  obtain rfl:j=l.length:=by omega
  rw[List.drop_length] at hI
  change X=_ at hI
  rw[←hI] at hsame
  have hsm:AC prog 188 [] [raw X,raw (XR p f),W32 p] fun K=>K [] [Bo true]:=by
    have h9:=QeC hp0 f
    have h8:=Xe f
    have h7:AC prog 188 [] [raw X,raw (XR p f),W32 p] fun K=>K [] [Bo (decide (XO p X=XO p (XR p f)))]:=Qxe.k (by omega) (by omega) (by omega) (by omega)
    rwa [decide_eq_true hsame] at h7
  repeat(refine zS ?_;intros)
  rename_i g19 _
  refine AW.ent (entGro 30 1) ?_
  refine AW.ent (entGro 30 1) ?_
  refine aLoop [0,2,3,13,19,89,90] (fun x:(Option Nat×Nat)× (Option Nat×Nat)×Nat=>[(91,N x.2.2)]) (fun x=>[(x.1.1,.gro 30 1 ((Qae p (l.take x.2.2)).map (pc 2)) x.1.2),(x.2.1.1,.gro 30 1 ((Qae p ((Qaq p l).take x.2.2)).map (pc 2)) x.2.1.2),(some g19,.arr 214 1 [gh x.1.1 x.2.2 x.1.2,gh x.2.1.1 x.2.2 x.2.1.2])]) (fun x=>x.2.2≤l.length) (fun x=>l.length -x.2.2) ((none,0),(none,0),0) (by show 0≤l.length;omega) (entL (.cons zle .nil) zk (by refine .cons (ob_refl _) (.cons (ob_refl _) (.cons (ob_arr (.cons Qas (.cons Qas .nil)) (QsN gh_sh gh_sh)) (HLe.none _))))) fun⟨⟨k0,c0⟩,⟨k1,c1⟩,i⟩ hi'=> ?_
  dsimp only at hi'⊢
  repeat(refine zS ?_;intros)
  refine zB ?_ ?_<;>intro h5
  · have n1:=Qlk (p:=p) (l:=l) (i:=i) (by omega)
    have n2:=Qlk (p:=p) (l:=Qaq p l) (i:=i) (by omega)
    have a1:=hd _ (Yr (l:=l) (i:=i) (by omega))
    have a2:=(hm _ (Yr (l:=l) (i:=i) (by omega))).can.1
    have⟨a3,a4⟩:=ch _ (Yr (l:=Qaq p l) (i:=i) (by omega))
    have q1:(Qae p (l.take i)).length=i:=by simp [Qae];omega
    have q2:(Qae p ((Qaq p l).take i)).length=i:=by simp [Qae];omega
    obtain⟨g,eg⟩: ∃g,l.getD i []=g:=⟨_,rfl⟩
    obtain⟨s,es⟩: ∃s,(Qaq p l).getD i []=s:=⟨_,rfl⟩
    rw[eg] at a1 a2 n1
    rw[es] at a3 a4 n2
    repeat(refine zS ?_;intros)
    rw[eg]
    repeat(refine zS ?_;intros)
    rename_i k0' c0'
    rw[es]
    repeat(refine zS ?_;intros)
    rename_i k1' c1'
    exact aAgain ((k0',c0'),(k1',c1'),i+1) (by show i+1≤l.length;omega) (by show l.length -(i+1)<l.length -i;omega) (entL (.cons zle .nil) zk (.cons (Qa4 (by rw[n1,List.map_append];rfl)) (.cons (Qa4 (by rw[n2,List.map_append];rfl)) (.cons (ob_arr (.cons (Qcr (by simp [q1])) (.cons (Qcr (by simp [q2])) .nil)) (QsN gh_sh gh_sh)) (HLe.none _)))))
  obtain rfl:i=l.length:=by omega
  rw[List.take_length,List.take_of_length_le (show(Qaq p l).length≤l.length by omega)]
  have q1:(Qae p l).length=l.length:=by simp [Qae]
  have q2:(Qae p (Qaq p l)).length=l.length:=by simp [Qae,cl]
  refine AW.ent (entFzO hC (m:=l.length) 0 (by exact rfl) (by rw[List.length_map];exact q1) 1 (by exact rfl) 0 (by exact rfl)) ?_
  refine AW.ent (entFzO hC (m:=l.length) 0 (by exact rfl) (by rw[List.length_map];exact q2) 0 (by exact rfl) 1 (by exact rfl)) ?_
  have hok:=Qte (k:=k) hp.1 hm (by rw[em];exact hc) (by rw[em];exact hb)
  rw[em] at hok
  repeat(refine zS ?_;intros)
  rename_i g22
  refine aLoop [0,2,3,19,22] (fun x:List (List Int)×List (List Int)×Nat=>[(23,N x.2.2)]) (fun x=>[(some g22,.arr 25 1 (itl Mm ((p^x.2.2:Nat):Int))),(some g19,.arr 214 1 [pcs Mm x.1,pcs Mm x.2.1])]) (fun x=>LReach p k f (Qae p l) (Qae p (Qaq p l)) x.1 x.2.1 x.2.2∧1≤x.2.2∧x.2.2≤k∧x.1.length=l.length∧x.2.1.length=l.length∧(∀u∈x.1,u.length≤32)∧ ∀u∈x.2.1,u.length≤32) (fun x=>k -x.2.2) (Qae p l,Qae p (Qaq p l),1) ⟨.start,Nat.le_refl _,hk.1,q1,q2,Qo9 hd,Qo9 fun s hs=>(ch s hs).1⟩ (entL (.cons zle .nil) zk (.cons (ob_i (by rw[Nat.pow_one]) hMm.1) (.cons (ob_arr (.cons (QnL hMm.1) (.cons (QnL hMm.1) .nil)) (QsN sl_sh sl_sh)) (HLe.none _)))) fun⟨L0,L1,e⟩ ⟨hR,he1,hek,hl0,hl1,h0,hl32⟩=> ?_
  dsimp only at hR he1 hek hl0 hl1 h0 hl32⊢
  have hisf:AC prog 190 [] [pv Mf f,pcs Mm L0] fun K=>K [] [Bo (decide (Xa f=Xa (Qba [ldP f] L0)))]:=AC.les (Qxf.k (by omega:Mm≤65536) (by omega) (by omega) hf h0) (.cons (le_refl _) (.cons (Qhe (Nat.le_refl _)) .nil))
  repeat(refine zS ?_;intros)
  refine zB ?_ ?_<;>intro h6
  · obtain rfl:e=k:=by omega
    repeat(refine zS ?_;intros)
    exact aRet2 rfl zv zv (hK L0 L1 e hR (.inl rfl) hl0 h0) (le_refl _) (le_refl _)
  repeat(refine zS ?_;intros)
  refine zB ?_ ?_<;>intro h7
  · repeat(refine zS ?_;intros)
    exact aRet2 rfl zv zv (hK L0 L1 e hR (.inr h7) hl0 h0) (le_refl _) (le_refl _)
  obtain⟨n,hn⟩: ∃n,min e (k -e)=n:=⟨_,rfl⟩
  have hn6:n≤600:=by omega
  have hnn:n*n≤600*600:=Nat.mul_le_mul hn6 hn6
  have hen:e+n≤k:=by omega
  have hpe:p^ (e+n)<BS^Mm:=Nat.lt_of_le_of_lt (Nat.pow_le_pow_right hp0 hen) hpk
  have hstep:AC prog 192 [] [pv Mf f,agg [pcs Mm L0,pcs Mm L1],it Mm ((p^ (e+n):Nat):Int)] fun K=> ∀x:Int,(∃k':Int,x*ldP f=1+((p^ (e+n):Nat):Int)*k')→x=YY (p^ (e+n)) x→K [] [agg [pcs Mm (step0 (p^ (e+n)) x f L0 L1),pcs Mm (step1 (p^ (e+n)) x f L0 L1)]]:=
    AC.les (Qxg.k (M:=Mm) hMm.2 hMf hMm.2 hMm.1 (Nat.pow_pos hp0) (QgU hp.1 hlead) hf (by omega) (by omega) h0 hl32 (hok L0 L1 e hR) fun x ⟨k',hx⟩ hs=>hok _ _ _ (by have h9:=LReach.next hR (by omega) h7 (by rw[hn];exact hx) (by rw[hn];exact hs);rwa [hn] at h9)) (.cons (le_refl _) (.cons (le_agg (.cons (Qhe (Nat.le_refl _)) (.cons (Qhe (Nat.le_refl _)) .nil))) (.cons le_it0 .nil)))
  repeat(refine zS ?_;intros)
  show AD _ _ _ _ _ _ _ _ _ _ _
  rw[hn]
  repeat(refine zS ?_;intros)
  refine AL.ent (entH (.cons (QwK (z':=((p^ (e+n):Nat):Int)) (by rw[Nat.pow_add,Int.natCast_mul]) (by rw[Int.natAbs_natCast];exact hpe)) (HLe.refl _))) ?_
  refine AL.ent (entSub (s:=143) (a:=it Mm ((p^ (e+n):Nat):Int)) (Qvn (by rw[Nat.pow_add,Int.natCast_mul]) (by rw[Int.natAbs_natCast];exact hpe))) ?_
  repeat(refine zS ?_;intros)
  rename_i x hx hxs
  have hnx:LReach p k f (Qae p l) (Qae p (Qaq p l)) (step0 (p^ (e+n)) x f L0 L1) (step1 (p^ (e+n)) x f L0 L1) (e+n):=by
    obtain⟨k',hx⟩:=hx
    have h9:=LReach.next hR (by omega) h7 (by rw[hn];exact hx) (by rw[hn];exact hxs)
    rwa [hn] at h9
  have s0l:(step0 (p^ (e+n)) x f L0 L1).length=l.length:=by unfold step0;rw[List.length_map,List.length_zip];omega
  have s1l:(step1 (p^ (e+n)) x f L0 L1).length=l.length:=by unfold step1;rw[List.length_map,List.length_zip];omega
  exact aAgain (step0 (p^ (e+n)) x f L0 L1,step1 (p^ (e+n)) x f L0 L1,e+n) ⟨hnx,by show 1≤e+n;omega,hen,s0l,s1l,QjZ h0,Qt4 h0 hl32⟩ (by show k -(e+n)<k -e;omega) (entL (.cons zle .nil) zk (HLe.refl _))⟩
end Go.Proofs.YtjdpemcnlejpfaaGreatDoor
namespace Go.Proofs.YtjdpemcnlejpfaaGreatDoor
open Go.RowKit Go.Gx Go.Am Tryz
set_option maxHeartbeats 1000000 in
instance QxP:TK prog 134 (∀{M:Nat}{f:List Int}(_:M≤65536)(_:f.length≤17)(_:1≤(Xa f).length),AC prog 134 [] [pv M f] fun K=>K [] [it (M+4) (QmA f)]):=⟨fun {M f} hM hf h1=>by
  refine aEnter func134 rfl ntmps134 rfl fun K C hC hK=> ?_
  have hT:=Xe f
  obtain⟨n,hn⟩: ∃n,(Xa f).length=n+1:=⟨(Xa f).length -1,by omega⟩
  repeat(refine zS ?_;intros)
  rw[show(((Xa f).length:Int) -1)=((n:Nat):Int) by omega]
  repeat(refine zS ?_;intros)
  rename_i g2 r r1 r2 z g4 g5
  have hr:=QwN r1 r2 (by omega)
  refine aDr1 [0,1,2,3,4,5] ?_
  repeat' (first | (refine zR ?_;intros)| (refine adO1 (by exact rfl) (zst ?_);intros)| (refine adO2 (by exact rfl) (zst ?_) (zst ?_)<;>intros)| (refine adO3 (by exact rfl) (zst ?_) (zst ?_) (zst ?_)<;>intros))
  all_goals repeat(refine zS ?_;intros)
  all_goals rename_i g7
  all_goals refine aLoop [2,7] (fun _:Unit=>[(3,Am.N n)]) (fun _=>[(some g7,.arr 25 1 (itl (M+3) (((rtN (n+1):Nat):Int)*(hgt f:Int)))),(some g2,.arr 25 1 [Bo false,nilS])]) (fun _=>True) (fun _=>0) () trivial (entL (.cons zle .nil) zk (.cons (ob_i (by rw[←hr];rfl) (by omega)) (.drop (.drop (.cons (ob_refl _) (HLe.none _)))))) fun _ _=> ?_
  all_goals repeat(refine zS ?_;intros)
  all_goals rw[show((rtN (n+1):Nat):Int)*(hgt f:Int)*2^n=QmA f by rw[QmA,if_neg (fun e=>by rw[e] at hn;simp at hn),hn,Nat.add_sub_cancel];push_cast;rfl]
  all_goals repeat(refine zS ?_;intros)
  all_goals exact aRZ (rs:=[_]) rfl hK⟩
end Go.Proofs.YtjdpemcnlejpfaaGreatDoor
namespace Go.Proofs.YtjdpemcnlejpfaaGreatDoor
open Go.RowKit Go.Gx Go.Am Tryz
instance c76:TK prog 76 (∀{M p:Nat}{f:List Int}(_:PrS p)(_:M≤65536)(_:f.length≤1048576),AC prog 76 [] [pv M f,W32 p] fun K=>K [] [Bo (decide (Qbx p f))]):=⟨fun {M p f} hp hM hf=>by
  refine aEnter func76 rfl ntmps76 rfl fun K C hC hK=> ?_
  have h1:=hp.two
  have h2:=hp.lt
  have hp0:0<p:=by omega
  have hn:XO p (XR p f)=XR p f:=(XK hp0 f).nrm
  have hl:=QeC hp0 f
  have ht:=Xe f
  repeat(refine zS ?_;intros)
  refine zB ?_ ?_<;>intro h3
  · rw[decide_eq_false fun h9:Qbx p f=>h9.1 (by omega)] at hK
    repeat(refine zS ?_;intros)
    exact aRet1 rfl zv hK (le_refl _)
  · have e:decide (Qbx p f)=decide ((XN p (XR p f) (XR p (Xn (Gx.zl (XR p f))))).length=1):=decide_eq_decide.2 ⟨fun h=>h.2,fun h=>⟨by omega,h⟩⟩
    rw[e] at hK
    repeat(refine zS ?_;intros)
    rw[hn]
    exact aRet1 rfl zv hK (le_refl _)⟩
def dsF(φ:Nat→Bool)(d j:Nat)(q:Nat):Bool:=if j<q∧d≤q then φ q||φ (q -d) else φ q
def Qap(size:Nat)(φ:Nat→Bool):List Bool:=(List.range size).map φ
theorem Qd4{size:Nat}{φ:Nat→Bool}:(Qap size φ).length=size:=by simp [Qap]
theorem QcV{size:Nat}{φ ψ:Nat→Bool}(h: ∀q,q<size→φ q=ψ q):Qap size φ=Qap size ψ:=List.map_congr_left fun q hq=>h q (List.mem_range.1 hq)
theorem QsL{φ:Nat→Bool}{d j size q:Nat}(h:j<d∨j+1=size∧size≤d)(hq:q<size):dsF φ d j q=if d≤q then φ q||φ (q -d) else φ q:=by
  unfold dsF
  by_cases hq2:d≤q
  · rw[if_pos ⟨by omega,hq2⟩,if_pos hq2]
  · rw[if_neg fun h=>hq2 h.2,if_neg hq2]
theorem Qsv(size:Nat):(List.replicate size false).set 0 true=Qap size fun j=>decide (j=0):=by
  unfold Qap
  refine List.ext_getElem? fun i=> ?_
  rw[List.getElem?_set]
  simp only[List.getElem?_replicate,List.getElem?_map,List.length_replicate]
  by_cases hi:i<size
  · rw[List.getElem?_range hi]
    by_cases h0:0=i
    · subst h0;simp [hi]
    · simp [hi,h0];omega
  · rw[List.getElem?_eq_none (by simpa using hi)]
    by_cases h0:0=i
    · subst h0;simp [hi]
    · simp [hi,h0]
theorem QdB{size i:Nat}{φ:Nat→Bool}(h:i<size):(Qap size φ).getD i false=φ i:=by simp [Qap,List.getD,h]
theorem QuG{size j d:Nat}{φ:Nat→Bool}{b:Bool}(h:j<size)(hd:d≤j)(hb:b=(φ j||φ (j -d)))(h1:1≤d)(hj:1≤j):(Qap size (dsF φ d j)).set j b=Qap size (dsF φ d (j -1)):=by
  unfold Qap
  refine List.ext_getElem? fun i=> ?_
  rw[List.getElem?_set]
  simp only[List.getElem?_map,List.length_map,List.length_range]
  by_cases hi:i<size
  · rw[List.getElem?_range hi]
    by_cases h0:j=i
    · subst h0;rw[if_pos rfl,if_pos h,hb];simp only[Option.map_some];congr 1;unfold dsF;rw[if_pos ⟨by omega,hd⟩]
    · rw[if_neg h0];simp only[Option.map_some];congr 1;unfold dsF
      by_cases h2:j<i∧d≤i
      · rw[if_pos h2,if_pos ⟨by omega,h2.2⟩]
      · rw[if_neg h2,if_neg (by omega)]
  · rw[List.getElem?_eq_none (by simpa using hi)]
    by_cases h0:j=i
    · omega
    · rw[if_neg h0];rfl
set_option maxHeartbeats 1000000 in
instance QxO:TK prog 133 (∀{p size:Nat}{l:List (List Nat)}(_:PrS p)(_:1≤size∧size≤1024)(_:l.length≤1000)(_: ∀d∈l,Zw p d) (_: ∀d∈l,d.length≤1000),AC prog 133 [] [Qi7 l,N size,W32 p] fun K=> ∀φ,QgH (l.map fun d=>d.length -1) φ→K [] [sl 1 ((Qap size φ).map Bo)]):=⟨fun {p size l} hp hs hl hm hd=>by
  refine aEnter func133 rfl ntmps133 rfl fun K C hC hK=> ?_
  have h1:=hp.two
  have h2:=hp.lt
  repeat(refine zS ?_;intros)
  refine aL2 [1,2,7,16,17] (fun k (_:Nat→Bool)=>[(18,N k)]) (fun _ φ=>[.arr 4 1 ((Qap size φ).map Bo)]) (fun k φ=>k≤l.length∧QgH ((l.take k).map fun d=>d.length -1) φ) (fun k _=>l.length -k) 0 (fun j=>decide (j=0)) ⟨by omega,QgH.nil rfl⟩ (entL (.cons zle .nil) zk (.cons (ob_eq (by rw[Qsv])) (HLe.none _))) fun k φ ⟨hk,hφ⟩=> ?_
  repeat(refine zS ?_;intros)
  refine zB ?_ ?_<;>intro h3
  · have hm1:=hm _ (Yr (l:=l) (i:=k) (by omega))
    have hd1:=hd _ (Yr (l:=l) (i:=k) (by omega))
    have hnx:(l.take (k+1)).map (fun d=>d.length -1)=(l.take k).map (fun d=>d.length -1)++[(l.getD k []).length -1]:=by rw[List.take_add_one,QaQ (show k<l.length by omega),List.map_append];rfl
    obtain⟨g,eg⟩: ∃g,l.getD k []=g:=⟨_,rfl⟩
    rw[eg] at hm1 hd1 hnx
    have hpos:=hm1.pos
    obtain⟨d,hdd⟩: ∃d,g.length=d+1:=⟨g.length -1,by omega⟩
    repeat(refine zS ?_;intros)
    rw[eg]
    repeat(refine zS ?_;intros)
    rw[hm1.can.nrm,show((g.length:Int) -1)=((d:Nat):Int) by omega]
    repeat(refine zS ?_;intros)
    refine aL1 [1,2,7,10,16,17,18] (fun j=>[(11,N j)]) (fun j=>[.arr 4 1 ((Qap size (dsF φ d j)).map Bo)]) (fun j=>j<size∧(d≤j+1∨j+1=size)) (fun j=>j) (size -1) ⟨by omega,.inr (by omega)⟩ (entL (.cons zle .nil) zk (.cons (ob_eq (by rw[QcV (φ:=dsF φ d (size -1)) (ψ:=φ) fun q hq=>by unfold dsF;rw[if_neg (by omega)]])) (HLe.none _))) fun j ⟨hj,hj2⟩=> ?_
    repeat(refine zS ?_;intros)
    have hlk:(Qap size (dsF φ d j)).length=size:=Qd4
    refine zB ?_ ?_<;>intro h4
    · have e1:(Qap size (dsF φ d j)).getD j false=φ j:=by rw[QdB hj];unfold dsF;rw[if_neg (by omega)]
      have e2:(Qap size (dsF φ d j)).getD (j -d) false=φ (j -d):=by rw[QdB (by omega)];unfold dsF;rw[if_neg (by omega)]
      have hset: ∀b,b=(φ j||φ (j -d))→(Qap size (dsF φ d j)).set j b=Qap size (dsF φ d (j -1)):=fun b hb=>QuG hj (by omega) hb (by omega) (by omega)
      repeat(refine zS ?_;intros)
      rw[e1]
      cases hφj:φ j
      · rw[hφj,Bool.false_or] at hset
        repeat(refine zS ?_;intros)
        rw[e2]
        repeat(refine zS ?_;intros)
        exact ag1 (j -1) ⟨by omega,.inl (by omega)⟩ (entL (.cons zle .nil) zk (.cons (ob_eq (by rw[hset _ rfl])) (HLe.none _)))
      · rw[hφj,Bool.true_or] at hset
        repeat(refine zS ?_;intros)
        exact ag1 (j -1) ⟨by omega,.inl (by omega)⟩ (entL (.cons zle .nil) zk (.cons (ob_eq (by rw[hset _ rfl])) (HLe.none _)))
    · repeat(refine zS ?_;intros)
      exact ag2 (k+1) (fun q=>if d≤q then φ q||φ (q -d) else φ q) ⟨by omega,by rw[hnx];exact hφ.next fun q=>by rw[show g.length -1=d by omega]⟩ (entL (.cons zle .nil) zk (.cons (ob_eq (by rw[QcV (φ:=dsF φ d j) fun q hq=>QsL (by omega) hq])) (HLe.none _)))
  · obtain rfl:k=l.length:=by omega
    rw[List.take_length] at hφ
    refine AW.ent (entFzS hC (s:=7) (by exact rfl) 0 (by exact rfl) (by rw[List.length_map];exact Qd4) (a:=sl 1 ((Qap size φ).map Bo)) (le_refl _)) ?_
    repeat(refine zS ?_;intros)
    exact aRet1 rfl zv (hK φ hφ) (le_refl _)⟩
theorem Qqe{p k B:Nat}(hp:2≤p)(hp2:p<4096)(h:Quv p B k)(hB:2*B<2^560):k≤600∧p^k<BS^18:=by
  obtain⟨h1,h2,h3⟩:=h
  rcases Nat.lt_or_ge k 2 with hk|hk
  · obtain rfl:k=1:=by omega
    exact⟨by omega,by rw[Nat.pow_one];exact Nat.lt_trans hp2 (by decide+kernel)⟩
  · obtain⟨X,hX⟩: ∃X,X=2^560:=⟨_,rfl⟩
    rw[←hX] at hB
    have h4:=h3 (k -1) (by omega) (by omega)
    have h5:2^ (k -1)≤p^ (k -1):=Nat.pow_le_pow_left hp _
    have h6:k -1<560:=(Nat.pow_lt_pow_iff_right (by decide:1<2)).1 (by rw[←hX];omega)
    have e:p^k=p^ (k -1)*p:=by rw[←Nat.pow_succ];congr 1;omega
    refine⟨by omega,?_⟩
    rw[e]
    have h7:p^ (k -1)*p≤X*4096:=Nat.mul_le_mul (by omega) (by omega)
    exact Nat.lt_of_le_of_lt h7 (by rw[hX];decide+kernel)
instance c97:TK prog 97 (∀{p:Nat}{f:List Int}{l:List (List Nat)}(_:PrS p)(_:f.length≤17)(_:Nrm f)(_:Qlv p f l)(_:l.length≤17)(_: ∀d∈l,d.length≤32) (_:HB f (2*(ldP f*QmA f).natAbs+1)) (_:2*(ldP f*QmA f).natAbs<2^560),AC prog 97 [] [pv 17 f,Qi7 l,W32 p] fun K=> ∀(Z:LZs)(k:Nat),QeK p k Z f→Z.length=l.length→(∀z∈Z,z.1.length≤32)→p^k<BS^18→K [] [pcs 18 (Z.map Prod.fst),it 18 ((p^k:Nat):Int)]):=⟨fun {p f l} hp hf hn hF hl hd hb h5=>by
  refine aEnter func97 rfl ntmps97 rfl fun K C hC hK=> ?_
  have h1:=hp.two
  have h2:=hp.lt
  have h3:1≤(Xa f).length:=by obtain⟨n,e⟩:=Qa5 (G:=f) (by have :=hn.s;omega);omega
  repeat(refine zS ?_;intros)
  rename_i g7 g8 k hk1 hk2
  have⟨hk6,hpk⟩:=Qqe h1 h2 hk1 h5
  have hk:1≤k∧k≤600:=⟨hk1.1,hk6⟩
  have hmon:=hF.mon
  have hcoa:=hF.coa
  have hgood:=hF.good
  have hMm:2≤18∧18≤4096:=by decide
  have hq:k*k≤600*600:=Nat.mul_le_mul hk6 hk6
  have hz: ∀z∈[(p:Int)],-9223372036854775808≤z∧z≤9223372036854775807:=fun z hz=>by rw[List.mem_singleton.1 hz];omega
  have hl1:[(p:Int)].length≤1099511627776:=by simp
  have hL:(Xa (Xa [(p:Int)])).length≤0+1:=by rw[XV];exact Xe _
  have hL2:(Xa [(p:Int)]).length≤1:=Xe _
  have e:ldP (Xa (Zk (Xa [(p:Int)]) k))=((p^k:Nat):Int):=by rw[Qhp,QjA rfl];simp
  have hl3:(Xa (Zk (Xa [(p:Int)]) k)).length≤1:=by rw[Qhp];exact Qfq _ _
  have hlift:AC prog 136 [] [pv 17 f,Qi7 l,W32 p,Am.N k] fun K=> ∀L0 L1 e,LReach p k f (Qae p l) (Qae p (Qaq p l)) L0 L1 e→(e=k∨QfU f L0)→L0.length=l.length→(∀u∈L0,u.length≤32)→K [] [pcs 18 L0,I .i64 0]:=Qxb.k hp (by omega) hMm hpk hk (by omega) (by omega) hmon hd hcoa hgood
  repeat(refine zS ?_;intros)
  rename_i L0 L1 e0 hR hx hl0 hlen _
  have⟨hrec,hfst,_⟩:=hF.start hn hk.1 (hb.mono (by have :=hk1.2.1;omega)) hR hx
  have hfin:=hK (L0.zip l) k hrec (by rw[List.length_zip];omega) (fun z hz=>hlen _ (List.of_mem_zip hz).1) hpk
  rw[hfst] at hfin
  exact aRet (rs:=[_,_]) rfl rfl (List.nil_sublist _) (arT zv (le_refl _) (arW0 zv 2 rfl rfl (by kernel_rfl) (Qvn e (by rw[Int.natAbs_natCast];exact hpk)) arN)) hfin⟩
end Go.Proofs.YtjdpemcnlejpfaaGreatDoor
namespace Go.Proofs.YtjdpemcnlejpfaaGreatDoor
open Go.RowKit Go.Gx Go.Am Tryz
instance QyL:TK prog 240 (∀{c:List Nat}{x:Nat}(_:c.length≤1000000),AC prog 240 [] [sl 1 (c.map Am.N),Am.N x] fun K=> ∀r:Int,(0≤r↔x∈c)→K [] [I .i64 r]):=⟨fun {c x} hc=>by
  refine aEnter func240 rfl ntmps240 rfl fun K C hC hK=> ?_
  repeat(refine zS ?_;intros)
  refine aL1 [0,1,7] (fun k=>[(8,Am.N k)]) (fun _=>[]) (fun k=>k≤c.length∧x∉c.take k) (fun k=>c.length -k) 0 ⟨by omega,by simp⟩ (entL (.cons zle .nil) zk (HLe.none _)) fun k ⟨hk,hI⟩=> ?_
  repeat(refine zS ?_;intros)
  refine zB ?_ ?_<;>intro h
  · have hg:c[k]? =some (c.getD k 0):=by simp [List.getD,show k<c.length by omega]
    have hm:c.getD k 0∈c:=List.mem_of_getElem? hg
    obtain⟨y,ey⟩: ∃y,c.getD k 0=y:=⟨_,rfl⟩
    rw[ey] at hg hm
    repeat(refine zS ?_;intros)
    rw[ey]
    repeat(refine zS ?_;intros)
    refine zB ?_ ?_<;>intro h2<;>repeat(refine zS ?_;intros)
    · exact aRet1 rfl zv (hK (k:Int) ⟨fun _=>(show x=y by omega)▸hm,fun _=>by omega⟩) (le_refl _)
    · exact ag1 (k+1) ⟨by omega,by rw[List.take_add_one,hg];simp [hI];omega⟩ (entL (.cons zle .nil) zk (HLe.none _))
  · obtain rfl:k=c.length:=by omega
    rw[List.take_length] at hI
    repeat(refine zS ?_;intros)
    exact aRet1 rfl zv (hK (-1) ⟨fun h9=>absurd h9 (by omega),fun h9=>absurd h9 hI⟩) (le_refl _)⟩
instance Qxh:TK prog 209 (∀{c:List Nat}{x:Nat}(_:c.length≤1000000),AC prog 209 [] [sl 1 (c.map Am.N),Am.N x] fun K=>K [] [Bo (decide (x∈c))]):=⟨fun {c x} hc=>by
  refine aEnter func209 rfl ntmps209 rfl fun K C hC hK=> ?_
  repeat(refine zS ?_;intros)
  rename_i r hr
  repeat(refine zS ?_;intros)
  exact aRet1 rfl zv hK (leB hr)⟩
instance Qx1:TK prog 149 (∀{g n cp:Nat}{c:List Nat}(_:Asc n 0 c)(_:1≤c.length)(_:n≤1000)(_:c.length≤n),AC prog 149 [(some g,.arr 3 1 (c.map Am.N))] [lsl 1 g 0 c.length cp,Am.N n] fun K=>(∀c1,Nx n c c1→K [(some g,.arr 3 1 (c1.map Am.N))] [Bo true])∧(Qsg n c→K [(some g,.arr 3 1 (c.map Am.N))] [Bo false])):=⟨fun {g n cp c} hc h1 hn hcn=>by
  refine aEnterF func149 rfl ntmps149 rfl fun K C hC hK=> ?_
  repeat(refine zS ?_;intros)
  refine aL1 [0,1] (fun(k:Nat)=>[(5,I .i64 ((k:Int) -1))]) (fun _=>[.arr 3 1 (c.map Am.N)]) (fun k=>k≤c.length∧c.drop k=List.range' (n -(c.length -k)) (c.length -k)) (fun k=>k) c.length ⟨Nat.le_refl _,by simp⟩ (entL (.cons (leI (by omega)) .nil) zk (.cons (ob_refl _) (HLe.none _))) fun k ⟨hk,hI⟩=> ?_
  repeat(refine zS ?_;intros)
  refine zB ?_ ?_<;>intro h
  · obtain⟨i,rfl⟩: ∃i,k=i+1:=⟨k -1,by omega⟩
    rw[show(((i+1:Nat):Int) -1)=((i:Nat):Int) by omega]
    have hm:=hc.mem (c.getD i 0) (by simp only[List.getD,List.getElem?_eq_getElem (show i<c.length by omega),Option.getD_some];exact List.getElem_mem _)
    obtain⟨x,ex⟩: ∃x,c.getD i 0=x:=⟨_,rfl⟩
    rw[ex] at hm
    repeat(refine zS ?_;intros)
    rw[ex]
    repeat(refine zS ?_;intros)
    refine zB ?_ ?_<;>intro h2
    · repeat(refine zS ?_;intros)
      exact ag1 i ⟨by omega,QpG (by omega) (by omega) hcn hI⟩ (entL (.cons (leI (by omega)) .nil) zk (.cons (ob_refl _) (HLe.none _)))
    · repeat(refine zS ?_;intros)
      refine aL1 [0] (fun j=>[(6,Am.N j)]) (fun j=>[.arr 3 1 ((Qmr c i x j).map Am.N)]) (fun j=>i<j∧j≤c.length) (fun j=>c.length -j) (i+1) ⟨by omega,by omega⟩ (entL (.cons zle .nil) zk (.cons (ob_eq (by rw[←QlB (x:=x) (show i<c.length by omega),ex])) (HLe.none _))) fun j ⟨hj1,hj2⟩=> ?_
      have hal:=QpC (x:=x) hj1 hj2
      repeat(refine zS ?_;intros)
      refine zB ?_ ?_<;>intro h3
      · have hget:=QpB (x:=x) hj1 hj2
        have hset:=QpD (x:=x) hj1 (show j<c.length by omega)
        repeat(refine zS ?_;intros)
        rw[hget]
        repeat(refine zS ?_;intros)
        exact ag1 (j+1) ⟨by omega,by omega⟩ (entL (.cons zle .nil) zk (.cons (ob_eq (by rw[←hset])) (HLe.none _)))
      · obtain rfl:j=c.length:=by omega
        have hnx:=QpF hc (show i<c.length by omega) hI (by omega)
        rw[ex,←QpA (by omega)] at hnx
        repeat(refine zS ?_;intros)
        exact aRet (rs:=[_]) rfl rfl (.refl _) zr (hK.1 _ hnx)
  · obtain rfl:k=0:=by omega
    repeat(refine zS ?_;intros)
    exact aRet (rs:=[_]) rfl rfl (.refl _) zr (hK.2 (QpE (by simpa using hI)))⟩
end Go.Proofs.YtjdpemcnlejpfaaGreatDoor
