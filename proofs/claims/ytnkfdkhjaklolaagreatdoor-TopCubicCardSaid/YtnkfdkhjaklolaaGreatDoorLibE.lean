/-
  The laws of the walks and the plain laws of numbers and polynomials, part 5: SortK.
-/
import Derived.Test.YtnkfdkhjaklolaaGreatDoorLibC
import Derived.Test.YtnkfdkhjaklolaaGreatDoorLibD
open Array renaming length_toList→WR
open List renaming getElem?_eq_getElem→Ud,getElem?_eq_none→Ul,length_append→UO,size_toArray→Qyu
open Nat renaming le_refl→Ug,zero_le→Qyr

namespace Go.Gx
open Go.RowKit Go.Sort Go.Proofs Go.Shelf
variable{A:Option Addr}{B blk c el g gN n:Nat}{P:Program}{S:Nat→Prop}{sp:List Value}{w:World}{α β:Type}{ρ:Ren}
theorem Qna[Inhabited β](L:SK α)(f:β→α)(d:Array β):(flatK (fun x=>L.cells (f x)) L.k d).toList=L.flat (d.toList.map f):=by
 have hp:=L.pos
 have hsz:(flatK (fun x=>L.cells (f x)) L.k d).toList.length=d.size*L.k:=by simp
 apply List.ext_getElem?
 intro j
 rcases Nat.lt_or_ge j (d.size*L.k) with hj|hj
 ·have hi:j/L.k<d.size:=(Nat.div_lt_iff_lt_mul hp).2 hj
  have hm:j % L.k<L.k:=Nat.mod_lt _ hp
  have hl:=L.len (f d[j/L.k])
  have h1:(d.toList.map f)[j/L.k]? =some (f d[j/L.k]):=by simp [hi]
  have h2:(L.cells (f d[j/L.k]))[j % L.k]? =some ((L.cells (f d[j/L.k]))[j % L.k]'(by omega)):=Ud _
  have h3:=L.flat_get h1 h2
  rw[Nat.mul_comm,Nat.div_add_mod] at h3
  rw[h3,Ud (by rw[hsz];exact hj)]
  have h4:=get_flatK (fun x=>L.cells (f x)) L.k d j hj
  rw[getElem!_pos _ j (by simpa using hj),getElem!_pos d _ hi,getElem!_pos _ _ (by omega)] at h4
  rw[Array.getElem_toList]
  exact congrArg some h4
 ·rw[Ul (by rw[hsz];exact hj),Ul (by rw[L.flat_len];simpa using hj)]
theorem Qr2:SWO (ltOf fun x y:TD=>Qiw y.m x.m) where
 irrefl x:=decide_eq_false fun h=>M4.lt_irrefl _ (Qix.1 h)
 trans x y z h1 h2:=by simp only[ltOf,Qix,decide_eq_true_eq] at *;exact M4.lt_trans h2 h1
 ntrans x y z h1 h2:=by
  simp only[ltOf,Qix,decide_eq_false_iff_not] at *
  intro h3
  rcases M4.lt_tri y.m x.m with h|h|h
  ·exact h1 h
  ·rw[←h] at h3;exact h2 h3
  ·exact h2 (M4.lt_trans h3 h)
def QnL{α:Type}(P:Program)(g:Nat)(K:SK α)(cf:α→α→Int)(blk:Nat):Prop:= ∀(W:World)(a b:α),K.R W (fun b=>b≠blk) a→K.R W (fun b=>b≠blk) b→Calls P g #[.agg (K.cells a).toArray,.agg (K.cells b).toArray] W (Ret fun v w'=>v= .int .i64 (cf a b)∧Ext W w')
theorem Qnn(L:SlLaysF0.n14 P ρ)(K:SK α)(cf:α→α→Int)(hO:SWO (ltOf cf))(aE: ∀w,(isAgg (ρ.t 24)).run P w= .ok true w)(zE: ∀w,(Go.sizeOf (ρ.t 24)).run P w= .ok K.k w){ps:List α}(hg: ∀args w,(callFunc g args).run P w= .ok (.enter g args) w)(hB:Blk w blk el (K.flat ps++sp))(hn:ps.length=n)(hn0:0<n)(hsz:n<4611686018427387904)(hP: ∀f∈ps,K.R w (fun b=>b≠blk) f)(hC:QnL P g K cf blk):
  Calls P (ρ.f 14) #[.slice (some ⟨blk,0,none⟩) n c,.int .i64 0,.int .i64 (n:Int),.int .i64 ((Lib.bitLen n:Nat):Int),.func (.func g) #[] #[]] w fun e w'=>e= .returned (.tuple #[])∧ ∃qs,qs.Perm ps∧(qs.Pairwise fun x y=> ¬cf y x<0)∧Frm (fun b=>b=blk) w w'∧Blk w' blk el (K.flat qs++sp):=by
 subst hn
 let QwY:α→Prop:=fun f=>K.R w (fun b=>b≠blk) f
 let β:={f:α//QwY f}
 obtain⟨f0,hf0⟩: ∃f,f∈ps:=by
  cases ps with
  |nil=>simp at hn0
  |cons a l=>exact⟨a,by simp⟩
 letI:Inhabited β:=⟨⟨f0,hP f0 hf0⟩⟩
 let enc:β→List Value:=fun x=>K.cells x.1
 let cg:β→β→Int:=fun x y=>cf x.1 y.1
 let d:Array β:=(ps.attachWith QwY hP).toArray
 have hd:d.size=ps.length:=by
  show(ps.attachWith QwY hP).toArray.size=_
  rw[Qyu,List.length_attachWith]
 have hdv:d.toList.map (fun x:β=>x.1)=ps:=by simp only[d,List.toList_toArray];exact List.attachWith_map_subtype_val hP
 have hfl: ∀dk:Array β,(flatK enc K.k dk).toList=K.flat (dk.toList.map fun x:β=>x.1):=fun dk=>Qna K (fun x:β=>x.1) dk
 have hH:HoldsK enc K.k w blk 0 d:=Qpe (enc:=id) (el:=el) (flatK enc K.k d) [] sp (by rw[List.map_id,hfl,hdv];exact hB)
 have hFr: ∀(m:Nat)(os:Array Obj)(dk:Array β),Frm (fun b=>b=blk) w (sortWorldK enc K.k w blk 0 m dk os):=fun m os dk=>QrW (enc:=id) (flatK enc K.k dk) m os
 have hL:CmpLays P g #[] enc K.k cg blk 0 d.size w:=by
  intro m os dk hs x y
  have cx:=K.frmB x.2 (hFr m os dk) fun b _ hb he=>hb he
  have cy:=K.frmB y.2 (hFr m os dk) fun b _ hb he=>hb he
  refine Calls.mono (hC _ x.1 y.1 cx cy) ?_
  rintro e w' ⟨v,rfl,rfl,hE⟩
  exact⟨rfl,Qq5 hE⟩
 have hO':SWO (ltOf cg):=⟨fun x=>hO.irrefl x.1,fun x y z=>hO.trans x.1 y.1 z.1,fun x y z=>hO.ntrans x.1 y.1 z.1⟩
 have hlim:Lib.bitLen d.size<4611686018427387904:=Nat.lt_of_le_of_lt (Lib.bitLen_le d.size 62 (by omega) (by omega)) (by omega)
 have hS:=AnyQ.pdqsortCmpFunc_all L K.k aE zE enc cg g #[] hO' blk 0 c d w hg hL ⟨fun x=>K.len x.1,fun x v hv=>List.all_eq_true.1 (K.one x.1) v hv,hH,hB.lt⟩ (d.size+1) 0 d.size (Lib.bitLen d.size) d w (by omega) rfl (SWK.start hH) (Qyr _) (Ug _) (by rw[hd];exact hsz) hlim (Or.inl rfl)
 have hso:=pdq_sorts (ltOf cg) hO' d 0 d.size (Lib.bitLen d.size) true true (Qyr _) (Ug _) (Or.inl rfl)
 generalize pdq (ltOf cg) d 0 d.size (Lib.bitLen d.size) true true=d' at hS hso
 rw[hd] at hS hso
 refine Calls.mono hS ?_
 rintro e w' ⟨rfl,k,os,rfl⟩
 obtain⟨⟨hs',_,hperm⟩,hsorted⟩:=hso
 have hs2:d'.size=d.size:=hs'
 have hp:d'.toList.Perm d.toList:=by
  have h1:d'.extract 0 ps.length=d':=by rw[←hd,←hs2];simp
  have h2:d.extract 0 ps.length=d:=by rw[←hd];simp
  rw[h1,h2] at hperm
  exact hperm
 refine⟨rfl,d'.toList.map (·.1),?_,?_,hFr k os d',?_⟩
 ·have :=hp.map (fun x:β=>x.1)
  rw[hdv] at this
  exact this
 ·rw[List.pairwise_map]
  refine List.pairwise_iff_getElem.2 fun i j hi hj hij=> ?_
  have :=hsorted i j (Qyr _) hij (by simp at hj;omega)
  simp only[ltOf,decide_eq_false_iff_not] at this
  simp only[WR] at hi hj
  rw[getElem!_pos d' i hi,getElem!_pos d' j hj] at this
  exact this
 ·have h1:=QrV (enc:=id) (w:=w) (flatK enc K.k d') k os hB
  have hle:(K.flat ps).length=(flatK enc K.k d').size:=by rw[K.flat_len,size_flatK,hs2,hd]
  rw[Qi5 (flatK enc K.k d') (K.flat ps) sp hle,List.map_id,hfl] at h1
  exact h1
theorem QuM(L:SlLaysF0.n14 P ρ)(K:SK α)(cf:α→α→Int)(hO:SWO (ltOf cf))(aE: ∀w,(isAgg (ρ.t 24)).run P w= .ok true w)(zE: ∀w,(Go.sizeOf (ρ.t 24)).run P w= .ok K.k w){ps:List α}(hg: ∀args w,(callFunc g args).run P w= .ok (.enter g args) w)(h:ZX K w B el gN A n c ps S)(hsz:n<4611686018427387904)(hC: ∀blk,QnL P g K cf blk):
  Calls P (ρ.f 14) #[.slice A n c,.int .i64 0,.int .i64 (n:Int),.int .i64 ((Lib.bitLen n:Nat):Int),.func (.func g) #[] #[]] w (Ret fun v w'=>v= .tuple #[]∧Frm (fun b=>b+1=gN) w w'∧ ∃qs,qs.Perm ps∧(qs.Pairwise fun x y=> ¬cf y x<0)∧ZX K w' B el gN A n c qs S):=by
 have hlen:=h.lkm.1
 rcases Nat.eq_zero_or_pos n with h0|h0
 ·subst h0
  have hps:ps=[]:=List.eq_nil_of_length_eq_zero hlen
  subst hps
  have hS:=AnyF.pdqsortCmpFunc_none L A c ((Lib.bitLen 0:Nat):Int) (.func (.func g) #[] #[]) w
  refine Calls.mono hS ?_
  rintro e w' ⟨rfl,rfl⟩
  exact⟨_,rfl,rfl,Frm.refl _ _,[],List.Perm.refl _,List.Pairwise.nil,h⟩
 ·have hno:=h.k.no
  have hown:=h.k.own
  rcases hown.2 with⟨_,h1⟩| ⟨g0,cap,cur,hv,hb,hcur,hnc,hcm,hcs,htake⟩
  ·omega
  ·injection hv with e1 e2 e3
   subst e1 e3
   have hgN:gN=g0+1:=hno.symm
   have ecur:cur.toList=K.flat ps++cur.toList.drop (n*K.k):=by rw[←htake,List.take_append_drop]
   have hB:Blk w g0 el (K.flat ps++cur.toList.drop (n*K.k)):=by unfold Blk;rw[←ecur];exact hcur
   have hS:=Qnn L K cf hO aE zE (c:=c) hg hB hlen h0 hsz (fun f hf=>K.sub (h.k.el f hf) fun b _ hs e=>hs (by rw[e,hgN])) (hC g0)
   refine Calls.mono hS ?_
   rintro e w' ⟨rfl,qs,hpm,hso,hF,hB'⟩
   have hF':Frm (fun b=>b+1=gN) w w':=hF.mono fun b _ hb=>by rw[hb,hgN]
   have hql:qs.length=n:=hpm.length_eq.trans hlen
   have hfq:(K.flat qs).length=n*K.k:=by rw[K.flat_len,hql]
   have hfp:(K.flat ps).length=n*K.k:=by rw[K.flat_len,hlen]
   have hall: ∀y∈qs,K.R w' (fun b=>S b∧b+1≠gN) y:=fun y hy=>K.frmB (h.elt (hpm.mem_iff.1 hy)) hF' fun b _ hb=>hb.2
   refine⟨_,rfl,rfl,hF',qs,hpm,hso,⟨⟨hfq,.inr ⟨g0,c,(K.flat qs++cur.toList.drop (n*K.k)).toArray,rfl,hb,hB',hnc,hcm,?_,?_⟩⟩,fun y hy=>K.sub (hall y hy) fun b _ hb=>hb.2,hno⟩,fun y hy=>K.sub (hall y hy) fun b _ hb=>hb.1⟩
   ·have h6:=congrArg List.length ecur
    simp only[UO,WR] at h6
    simp only[Qyu,UO]
    omega
   ·simp [List.take_append_of_le_length (Nat.le_of_eq hfq.symm),List.take_of_length_le (Nat.le_of_eq hfq)]
end Go.Gx
