/-
  H4, H5, H6, F1, F2, F3, F4, F5, F6, F7
-/
import Derived.Test.YtjdpemcnlejpfaaGreatDoorH1
import Derived.Test.YtjdpemcnlejpfaaGreatDoorGcdMath
import Derived.Test.YtjdpemcnlejpfaaGreatDoorLiftThy
import Derived.Test.YtjdpemcnlejpfaaGreatDoorDecP
set_option linter.all false
namespace Go.Proofs.YtjdpemcnlejpfaaGreatDoor
open Go.RowKit Go.Gx Go.Am Tryz
theorem QbC{l:List (List Int)}{i:Nat}(h:i<l.length):l.getD i []∈l:=by
  simp only[List.getD,List.getElem?_eq_getElem h,Option.getD_some];exact List.getElem_mem h
theorem Qli{m:Nat}: ∀(l:List (List Int×List Int))(x:List Int×List Int)(a:Nat),(∀p∈l,p.1.length≤32∧p.2.length≤32)→x.1.length≤a+32→x.2.length≤a+1→(l.foldl (Qaw m) x).1.length≤a+32*l.length+32∧(l.foldl (Qaw m) x).2.length≤a+32*l.length+1
  | [],x,a,_,h1,h2=>⟨by simpa using h1,by simpa using h2⟩
  |p::l,x,a,hl,h1,h2=>by
    have hp:=hl p (by simp)
    have b1:=Nat.le_trans (Xe (Xg x.1 p.1)) (Yo x.1 p.1)
    have b2:=Nat.le_trans (Xe (Xg p.2 x.2)) (Yo p.2 x.2)
    have b3:=Xe (Xx (Xa (Xg x.1 p.1)) (Xa (Xg p.2 x.2)))
    rw[Qdj] at b3
    have b4:=Zu m (Xa (Xx (Xa (Xg x.1 p.1)) (Xa (Xg p.2 x.2))))
    have b5:=Nat.le_trans (Xe (Xg x.2 p.1)) (Yo x.2 p.1)
    have b6:=Zu m (Xa (Xg x.2 p.1))
    have ih:=Qli (m:=m) l (Qaw m x p) (a+32) (fun q hq=>hl q (by simp [hq])) (by unfold Qaw;dsimp only;omega) (by unfold Qaw;dsimp only;omega)
    rw[List.foldl_cons,List.length_cons]
    exact⟨by omega,by omega⟩
theorem QiV{m:Nat}{gs ss:List (List Int)}(hg: ∀f∈gs,f.length≤32)(hs: ∀f∈ss,f.length≤32)(hl:gs.length≤32):(QfM m gs ss).1.length≤1100∧(QfM m gs ss).2.length≤1100:=by
  have :=Qli (m:=m) (gs.zip ss) ([],Xa [1]) 0 (fun p hp=>⟨hg _ (List.of_mem_zip hp).1,hs _ (List.of_mem_zip hp).2⟩) (by simp) (by have :=Xe [(1:Int)];simpa using this)
  have hz:(gs.zip ss).length≤32:=by rw[List.length_zip];omega
  unfold QfM
  exact⟨by omega,by omega⟩
theorem Qt2{m:Nat}{x:Int}{f:List Int}{gs ss:List (List Int)}{i:Nat}(h1:i<gs.length)(h2:i<ss.length):(step0 m x f gs ss)[i]? =some (QhP m (QlZ m x f (ldP f) (QfM m gs ss).2) (gs.getD i []) (ss.getD i [])):=by
  unfold step0
  rw[List.getElem?_map,List.getElem?_eq_getElem (by simp;omega)]
  simp [List.getD,h1,h2]
theorem QeD(m:Nat)(F G:List Int):(QfL m F G).length≤(Xa G).length -1:=by
  unfold QfL
  have :=Zu m ((Qb1 m G ((Xa G).length -1) ((Zg m F).length -((Xa G).length -1)) (Zg m F)).take (min (Zg m F).length ((Xa G).length -1)))
  rw[List.length_take] at this
  omega
theorem QqE{m:Nat}{ms g s:List Int}(h:g.length≤32):(QhP m ms g s).length≤32:=by
  unfold QhP
  have h1:=Zu m (Xa (Xx g (QfL m (Xa (Xg s ms)) g)))
  have h2:=Xe (Xx g (QfL m (Xa (Xg s ms)) g))
  have h3:=QeD m (Xa (Xg s ms)) g
  have h4:=Xe g
  rw[Qdj] at h2
  omega
theorem QjZ{m:Nat}{x:Int}{f:List Int}{gs ss:List (List Int)}(hg: ∀f∈gs,f.length≤32): ∀u∈step0 m x f gs ss,u.length≤32:=fun u hu=>by
  unfold step0 at hu
  obtain⟨p,hp,rfl⟩:=List.mem_map.1 hu
  exact QqE (hg _ (List.of_mem_zip hp).1)
theorem Qt3{m:Nat}{x:Int}{f:List Int}{gs ss:List (List Int)}{i:Nat}(h1:i<ss.length)(h2:i<(step0 m x f gs ss).length):(step1 m x f gs ss)[i]? =some (QkN m (exZ m (QfM m (step0 m x f gs ss) ss).1) (ss.getD i []) ((step0 m x f gs ss).getD i [])):=by
  unfold step1
  rw[List.getElem?_map,List.getElem?_eq_getElem (by simp;omega)]
  simp [List.getD,h1,h2]
theorem QvF{M:Nat}{l:List Int}:(pc M l).el 1:=⟨by rw[sl_sh];rfl,by rw[sl_sh];simp⟩
theorem QvM{M:Nat}{l:List Int}:(pv M l).el 1:=⟨by rw[sl_sh];rfl,by rw[sl_sh];simp⟩
theorem Qhe{M M':Nat}{l:List (List Int)}(h:M≤M'):(pcs M l).le (pvs M' l):=le_map l (fun _=>le_pcv h) fun _=>QvM
theorem Qtc{M M':Nat}{l:List (List Int)}(h:M≤M'):(pvs M l).le (pvs M' l):=le_map l (fun _=>le_pvv h) fun _=>QvM
theorem QsN{a b:AV}(ha:a.sh= .one)(hb:b.sh= .one):els 1 [a,b]:=fun x hx=>by
  simp at hx
  rcases hx with rfl|rfl
  · exact⟨by rw[ha];rfl,by rw[ha];simp⟩
  · exact⟨by rw[hb];rfl,by rw[hb];simp⟩
theorem Qn7:nilS.sh= .one:=by unfold nilS lit;rfl
set_option maxHeartbeats 4000000 in
instance Qxg:TK prog 192 (∀{M Mf Mm m:Nat}{f:List Int}{gs ss:List (List Int)}(_:M≤4096)(_:Mf≤4096)(_:Mm≤4096)(_:2≤Mm)(_:0<m)(_:Int.gcd (ldP f) (m:Int)=1)(_:f.length≤1024)(_:gs.length≤32)(_:gs.length=ss.length)(_: ∀f∈gs,f.length≤32) (_: ∀f∈ss,f.length≤32) (_: ∀f∈gs,1≤(Xa f).length) (_: ∀x:Int,(∃k:Int,x*ldP f=1+m*k)→x=YY m x→ ∀u∈step0 m x f gs ss,1≤(Xa u).length),AC prog 192 [] [pv Mf f,agg [pvs M gs,pvs M ss],iv Mm (m:Int)] fun K=> ∀x:Int,(∃k:Int,x*ldP f=1+m*k)→x=YY m x→K [] [agg [pcs Mm (step0 m x f gs ss),pcs Mm (step1 m x f gs ss)]]):=⟨fun {M Mf Mm m f gs ss} hM hMf hMm h2 hm hgc hf hgl hgs hg32 hs32 hg1 hst=>by
  refine aEnter func192 rfl ntmps192 rfl fun K C hC hK=> ?_
  have⟨sl1,sl2⟩:=QiV (m:=m) hg32 hs32 hgl
  repeat(refine zS ?_;intros)
  rename_i g4 g5 g6 g7 g8 x v hx hxs g9 g10 g11
  have hK:=hK x hx hxs
  have hst:=hst x hx hxs
  have hz: ∀z∈[(1:Int)],-9223372036854775808≤z∧z≤9223372036854775807:=fun z hz=>by rw[List.mem_singleton.1 hz];omega
  have hl1:[(1:Int)].length≤1099511627776:=by simp
  obtain⟨pr,epr⟩: ∃pr,(QfM m gs ss).2=pr:=⟨_,rfl⟩
  obtain⟨y1,ey1⟩: ∃y1,Xa (Xf pr (ldP f))=y1:=⟨_,rfl⟩
  have q1:y1.length≤1100:=by have h9:=Xe (Xf pr (ldP f));rw[Qbq,ey1] at h9;rw[epr] at sl2;omega
  obtain⟨y2,ey2⟩: ∃y2,Xa (XD f y1)=y2:=⟨_,rfl⟩
  have q2:y2.length≤1100:=by have h9:=Xe (XD f y1);rw[ey2] at h9;simp [XD] at h9;omega
  obtain⟨y3,ey3⟩: ∃y3,Zg m y2=y3:=⟨_,rfl⟩
  have q3:y3.length≤1100:=by have h9:=Zu m y2;rw[ey3] at h9;omega
  obtain⟨y4,ey4⟩: ∃y4,Xa (Xf y3 x)=y4:=⟨_,rfl⟩
  have q4:y4.length≤1100:=by have h9:=Xe (Xf y3 x);rw[Qbq,ey4] at h9;omega
  obtain⟨ms,ems⟩: ∃ms,Zg m y4=ms:=⟨_,rfl⟩
  have q5:ms.length≤1100:=by have h9:=Zu m y4;rw[ems] at h9;omega
  have hms:QlZ m x f (ldP f) (QfM m gs ss).2=ms:=by unfold QlZ;rw[epr,ey1,ey2,ey3,ey4,ems]
  rw[epr] at sl2
  show AL _ _ _ _ _ _ _ _ _
  rw[epr,ey1]
  repeat(refine zS ?_;intros)
  rw[ey2]
  repeat(refine zS ?_;intros)
  show AD _ _ _ _ _ _ _ _ _ _ _
  rw[ey3]
  repeat(refine zS ?_;intros)
  show AD _ _ _ _ _ _ _ _ _ _ _
  rw[ey4]
  repeat(refine zS ?_;intros)
  rw[ems]
  refine AW.ent (entGro 30 1) ?_
  refine aLoop [4,5,6,7,14,52,53] (fun x:Option Nat×Nat×List (List Int)=>[(54,N x.2.2.length)]) (fun x=>[(x.1,.gro 30 1 (x.2.2.map (pc Mm)) x.2.1),(some g7,.arr 214 1 [gh x.1 x.2.2.length x.2.1,nilS]),(some g6,.arr 214 1 [nilS,nilS]),(some g5,.arr 25 2 [iv Mm m]),(some g4,.arr 214 1 [pvs M gs,pvs M ss])]) (fun y=>y.2.2.length≤gs.length∧y.2.2=(step0 m x f gs ss).take y.2.2.length) (fun x=>gs.length -x.2.2.length) (none,0,[]) ⟨Nat.zero_le _,rfl⟩ (entL (.cons zle .nil) zk (by refine .cons (ob_refl _) (.drop (.drop (.drop (.drop (.cons (ob_arr (.cons Qas (.cons (le_refl _) .nil)) (QsN gh_sh Qn7)) (.cons (ob_refl _) (.cons (ob_refl _) (.cons (ob_refl _) (HLe.none _))))))))))) fun⟨k,c,L⟩ ⟨hL,hLe⟩=> ?_
  dsimp only at hL hLe⊢
  repeat(refine zS ?_;intros)
  refine zB ?_ ?_<;>intro h3
  · obtain⟨g,eg⟩: ∃g,gs.getD L.length []=g:=⟨_,rfl⟩
    obtain⟨s,es⟩: ∃s,ss.getD L.length []=s:=⟨_,rfl⟩
    have gm:g∈gs:=eg▸QbC (by omega)
    have sm:s∈ss:=es▸QbC (by omega)
    have a1:=hg32 g gm
    have a2:=hs32 s sm
    have a3:=hg1 g gm
    have a4:=Xe g
    obtain⟨z1,ez1⟩: ∃z1,Xa (Xg s ms)=z1:=⟨_,rfl⟩
    have b1:z1.length≤1200:=by have :=Nat.le_trans (Xe (Xg s ms)) (Yo s ms);rw[ez1] at this;omega
    obtain⟨z2,ez2⟩: ∃z2,QfL m z1 g=z2:=⟨_,rfl⟩
    have b2:z2.length≤32:=by have :=QeD m z1 g;rw[ez2] at this;omega
    obtain⟨z3,ez3⟩: ∃z3,Xa (Xx g z2)=z3:=⟨_,rfl⟩
    have b3:z3.length≤32:=by have :=Xe (Xx g z2);rw[Qdj,ez3] at this;omega
    have hnx:QhP m ms g s=Zg m z3:=by unfold QhP;rw[ez1,ez2,ez3]
    repeat(refine zS ?_;intros)
    rw[es,eg]
    repeat(refine zS ?_;intros)
    show AD _ _ _ _ _ _ _ _ _ _ _
    rw[ez1]
    repeat(refine zS ?_;intros)
    rw[ez2]
    repeat(refine zS ?_;intros)
    show AD _ _ _ _ _ _ _ _ _ _ _
    rw[ez3]
    repeat(refine zS ?_;intros)
    rename_i k2 c2
    have hget:=Qt2 (m:=m) (x:=x) (f:=f) (gs:=gs) (ss:=ss) (i:=L.length) (by omega) (by omega)
    rw[hms,eg,es,hnx] at hget
    have hnew:L++[Zg m z3]=(step0 m x f gs ss).take (L++[Zg m z3]).length:=by
      rw[List.length_append,List.length_singleton,List.take_add_one,hget,←hLe];rfl
    exact aAgain (k2,c2,L++[Zg m z3]) ⟨by show(L++[Zg m z3]).length≤gs.length;rw[List.length_append,List.length_singleton];omega,hnew⟩ (by show gs.length -(L++[Zg m z3]).length<gs.length -L.length;rw[List.length_append,List.length_singleton];omega) (entL (.cons (leI (by show _=(((L++[Zg m z3]).length:Nat):Int);rw[List.length_append,List.length_singleton])) .nil) zk (.cons (Qa4 (by rw[List.map_append];rfl)) (.cons (ob_arr (.cons (Qcr (by simp)) (.cons (le_refl _) .nil)) (QsN gh_sh Qn7)) (HLe.refl _))))
  · have hLf:L=step0 m x f gs ss:=by
      rw[hLe,List.take_of_length_le]
      unfold step0;rw[List.length_map,List.length_zip];omega
    have hL32: ∀u∈L,u.length≤32:=by rw[hLf];exact QjZ hg32
    have hLg1: ∀u∈L,1≤(Xa u).length:=by rw[hLf];exact hst
    have hLn:L.length=ss.length:=by rw[hLf];unfold step0;rw[List.length_map,List.length_zip];omega
    have⟨sl3,sl4⟩:=QiV (m:=m) hL32 hs32 (by omega)
    have hsum:AC prog 228 [] [agg [pcs Mm L,pvs M ss],iv Mm (m:Int)] fun K=>K [] [pc (max Mm 2) (QfM m L ss).1,pc (max Mm 2) (QfM m L ss).2]:=AC.les (Qxi.k (M:=max M Mm) (Mm:=Mm) (m:=m) (gs:=L) (ss:=ss) (by omega) (by omega) hm (by omega) hLn hL32 hs32) (.cons (le_agg (.cons (Qhe (by omega)) (.cons (Qtc (by omega)) .nil))) (.cons (le_refl _) .nil))
    have e1:Xa [(1:Int)]=[1]:=by decide
    obtain⟨o,eo⟩: ∃o,(QfM m L ss).1=o:=⟨_,rfl⟩
    rw[eo] at sl3
    obtain⟨o1,eo1⟩: ∃o1,Xa (XD o [1])=o1:=⟨_,rfl⟩
    have q6:o1.length≤1100:=by have h9:=Xe (XD o [1]);rw[eo1] at h9;simp [XD] at h9;omega
    obtain⟨ex,eex⟩: ∃ex,Zg m o1=ex:=⟨_,rfl⟩
    have q7:ex.length≤1100:=by have h9:=Zu m o1;rw[eex] at h9;omega
    have hex:exZ m (QfM m L ss).1=ex:=by unfold exZ;rw[eo,e1,eo1,eex]
    refine AW.ent (entFzO hC (m:=L.length) 0 (by exact rfl) (by rw[List.length_map]) 0 (by exact rfl) 0 (by exact rfl)) ?_
    repeat(refine zS ?_;intros)
    show AD _ _ _ _ _ _ _ _ _ _ _
    rw[eo,e1]
    repeat(refine zS ?_;intros)
    show AD _ _ _ _ _ _ _ _ _ _ _
    rw[eo1]
    repeat(refine zS ?_;intros)
    rw[eex]
    refine AW.ent (entGro 30 1) ?_
    refine aLoop [5,6,7,20,97,98] (fun x:Option Nat×Nat×List (List Int)=>[(99,N x.2.2.length)]) (fun x=>[(x.1,.gro 30 1 (x.2.2.map (pc Mm)) x.2.1),(some g7,.arr 214 1 [pcs Mm L,gh x.1 x.2.2.length x.2.1]),(some g6,.arr 214 1 [nilS,nilS]),(some g5,.arr 25 2 [iv Mm m])]) (fun y=>y.2.2.length≤ss.length∧y.2.2=(step1 m x f gs ss).take y.2.2.length) (fun x=>ss.length -x.2.2.length) (none,0,[]) ⟨Nat.zero_le _,rfl⟩ (entL (.cons zle .nil) zk (by refine .cons (ob_refl _) (.cons (ob_arr (.cons (le_refl _) (.cons Qas .nil)) (QsN sl_sh gh_sh)) (.cons (ob_refl _) (.cons (ob_refl _) (HLe.none _)))))) fun⟨k2,c2,R⟩ ⟨hR,hRe⟩=> ?_
    dsimp only at hR hRe⊢
    repeat(refine zS ?_;intros)
    refine zB ?_ ?_<;>intro h4
    · obtain⟨g,eg⟩: ∃g,L.getD R.length []=g:=⟨_,rfl⟩
      obtain⟨s,es⟩: ∃s,ss.getD R.length []=s:=⟨_,rfl⟩
      have gm:g∈L:=eg▸QbC (by omega)
      have sm:s∈ss:=es▸QbC (by omega)
      have a1:=hL32 g gm
      have a2:=hs32 s sm
      have a3:=hLg1 g gm
      have a4:=Xe g
      obtain⟨z1,ez1⟩: ∃z1,Xa (Xg s ex)=z1:=⟨_,rfl⟩
      have b1:z1.length≤1200:=by have :=Nat.le_trans (Xe (Xg s ex)) (Yo s ex);rw[ez1] at this;omega
      obtain⟨z2,ez2⟩: ∃z2,QfL m z1 g=z2:=⟨_,rfl⟩
      have b2:z2.length≤32:=by have :=QeD m z1 g;rw[ez2] at this;omega
      obtain⟨z3,ez3⟩: ∃z3,Xa (XD s z2)=z3:=⟨_,rfl⟩
      have b3:z3.length≤32:=by have h9:=Xe (XD s z2);rw[ez3] at h9;simp [XD] at h9;omega
      have hnx:QkN m ex s g=Zg m z3:=by unfold QkN;rw[ez1,ez2,ez3]
      have hget:=Qt3 (m:=m) (x:=x) (f:=f) (gs:=gs) (ss:=ss) (i:=R.length) (by omega) (by rw[←hLf];omega)
      rw[←hLf,hex,eg,es,hnx] at hget
      have hnew:R++[Zg m z3]=(step1 m x f gs ss).take (R++[Zg m z3]).length:=by
        rw[List.length_append,List.length_singleton,List.take_add_one,hget,←hRe];rfl
      repeat(refine zS ?_;intros)
      rw[es,eg]
      repeat(refine zS ?_;intros)
      show AD _ _ _ _ _ _ _ _ _ _ _
      rw[ez1]
      repeat(refine zS ?_;intros)
      rw[ez2]
      repeat(refine zS ?_;intros)
      show AD _ _ _ _ _ _ _ _ _ _ _
      rw[ez3]
      repeat(refine zS ?_;intros)
      rename_i k3 c3
      exact aAgain (k3,c3,R++[Zg m z3]) ⟨by show(R++[Zg m z3]).length≤ss.length;rw[List.length_append,List.length_singleton];omega,hnew⟩ (by show ss.length -(R++[Zg m z3]).length<ss.length -R.length;rw[List.length_append,List.length_singleton];omega) (entL (.cons (leI (by show _=(((R++[Zg m z3]).length:Nat):Int);rw[List.length_append,List.length_singleton])) .nil) zk (.cons (Qa4 (by rw[List.map_append];rfl)) (.cons (ob_arr (.cons (le_refl _) (.cons (Qcr (by simp)) .nil)) (QsN sl_sh gh_sh)) (HLe.refl _))))
    · have hRf:R=step1 m x f gs ss:=by
        rw[hRe,List.take_of_length_le]
        unfold step1;rw[List.length_map,List.length_zip];omega
      rw[←hLf,←hRf] at hK
      refine AW.ent (entFzO hC (m:=R.length) 0 (by exact rfl) (by rw[List.length_map]) 0 (by exact rfl) 1 (by exact rfl)) ?_
      repeat(refine zS ?_;intros)
      exact aRet (rs:=[_]) rfl rfl (List.nil_sublist _) zr hK⟩
end Go.Proofs.YtjdpemcnlejpfaaGreatDoor
namespace Go.Proofs.YtjdpemcnlejpfaaGreatDoor
open Go.RowKit Go.Gx Go.Am Tryz
theorem Qs0{p k M B:Nat}(hp:2≤p)(hB:B<BS^M)(h:p^k≤2*B):k≤32*M:=by
  apply Nat.le_of_not_lt
  intro h1
  have h2:2^k≤p^k:=Nat.pow_le_pow_left hp k
  have h3:2^ (32*M+1)≤2^k:=Nat.pow_le_pow_right (by decide) h1
  have h4:BS^M=2^ (32*M):=by rw[Nat.pow_mul]
  rw[Nat.pow_succ,←h4] at h3
  omega
set_option maxHeartbeats 1000000 in
instance QxQ:TK prog 135 (∀{M p:Nat}{b:Int}(_:2≤p)(_:p<4294967296)(_:M≤1024),AC prog 135 [] [iv M b,W32 p] fun K=> ∀k,Quv p b.natAbs k→k≤32*M+1→K [] [N k,I .i64 0]):=⟨fun {M p b} hp hp2 hM=>by
  refine aEnter func135 rfl ntmps135 rfl fun K C hC hK=>bdI 0 rfl fun hb=> ?_
  repeat(refine zS ?_;intros)
  rename_i g2 g6 g7 g8
  refine aL1 [6,7,8] (fun(k:Nat)=>[(9,N k)]) (fun k=>[.arr 25 1 (itl (2*k) ((p^k:Nat):Int)),.arr 25 1 (itl 2 (p:Int)),.arr 25 1 (itl (M+1) (((b.natAbs:Nat):Int)*2^1)),.arr 25 2 [iv M b]]) (fun k=>1≤k∧k≤32*M+1∧ ∀j,1≤j→j<k→p^j≤2*b.natAbs) (fun k=>32*M+2 -k) 1 ⟨Nat.le_refl _,by omega,fun j h1 h2=>by omega⟩ (entL (.cons zle .nil) zk (by refine .cons (ob_i (by rw[Nat.pow_one]) (by omega)) (.cons (ob_i rfl (by omega)) (.cons (ob_i rfl (by omega)) (.cons (ob_refl _) (HLe.none _)))))) fun k ⟨hk1,hk2,hj⟩=> ?_
  repeat(refine zS ?_;intros)
  rename_i c c1 c2 c3 c4 c5
  refine zB ?_ ?_<;>intro h
  · repeat(refine zS ?_;intros)
    exact aRet2 rfl zv zv (hK k ⟨hk1,by omega,hj⟩ hk2) leI (le_refl _)
  · have hle:p^k≤2*b.natAbs:=by omega
    have hkM:=Qs0 hp hb hle
    repeat(refine zS ?_;intros)
    exact ag1 (k+1) ⟨by omega,by omega,Qnp hj hle⟩ (entL (.cons zle .nil) zk (.cons (ob_i (by rw[Nat.pow_succ,Int.natCast_mul]) (by omega)) (HLe.refl _)))⟩
end Go.Proofs.YtjdpemcnlejpfaaGreatDoor
namespace Go.Proofs.YtjdpemcnlejpfaaGreatDoor
open Go.RowKit Go.Gx Go.Am Tryz
abbrev Qi7(l:List (List Nat)):AV:=sl 1 (l.map raw)
theorem Qn8{w:World}{S:Nat→Prop}:nilS.rep w S (.slice none 0 0):=by unfold nilS lit;rfl
instance:ZV (.slice none 0 0) 1 raw ([]:List Nat):=⟨fun w S=>nil_raw w S _ Qn8,by kernel_rfl⟩
theorem Yr{l:List (List Nat)}{i:Nat}(h:i<l.length):l.getD i []∈l:=by
  simp only[List.getD,List.getElem?_eq_getElem h,Option.getD_some];exact List.getElem_mem h
theorem QaQ{l:List (List Nat)}{i:Nat}(h:i<l.length):l[i]? =some (l.getD i []):=by
  simp [List.getD,h]
theorem QjG{p:Nat}{g:List Nat}{i:Nat}{l:List (List Nat)}(hp:PrS p)(hg:2≤(XO p g).length)(hg2:g.length≤64): ∀k,(Qfo p g i l k).length≤64
  |0=>by unfold Qfo;simp
  |k+1=>by
    unfold Qfo
    split
    · exact QjG hp hg hg2 k
    · have n1:=YN p g
      have h1:=(QvP hp (YX (p:=p) (by have :=hp.two;omega) (Qau p (Qfo p g i l k) (l.getD k []))) (YX (p:=p) (by have :=hp.two;omega) g) (by omega)).2.2.1
      omega
set_option maxHeartbeats 2000000 in
instance Qyl:TK prog 187 (∀{p:Nat}{l:List (List Nat)}(_:PrS p)(_:l.length≤32)(_: ∀f∈l,f.length≤64) (_: ∀f∈l,2≤(XO p f).length) (_:CoA p l),AC prog 187 [] [Qi7 l,W32 p] fun K=>K [] [Qi7 (Qaq p l),I .i64 0]):=⟨fun {p l} hp hl hf hg hc=>by
  refine aEnter func187 rfl ntmps187 rfl fun K C hC hK=> ?_
  have h1:=hp.two
  have h2:=hp.lt
  have hip:=QbU hp
  repeat(refine zS ?_;intros)
  refine aL1 [0,1,23,24] (fun k=>[(25,N k)]) (fun _=>[]) (fun k=>k≤l.length) (fun k=>l.length -k) 0 (by omega) (entL (.cons zle .nil) zk (HLe.none _)) fun k hk=> ?_
  repeat(refine zS ?_;intros)
  refine zB ?_ ?_<;>intro h
  · have a1:=hg _ (Yr (l:=l) (i:=k) (by omega))
    repeat(refine zS ?_;intros)
    exact ag1 (k+1) (by omega) (entL (.cons zle .nil) zk (HLe.none _))
  repeat(refine zS ?_;intros)
  refine aL1 [0,1,34,35] (fun i=>[(36,N i)]) (fun _=>[]) (fun i=>i≤l.length) (fun i=>l.length -i) 0 (by omega) (entL (.cons zle .nil) zk (HLe.none _)) fun i hi=> ?_
  repeat(refine zS ?_;intros)
  refine zB ?_ ?_<;>intro h3
  · repeat(refine zS ?_;intros)
    refine aL1 [0,1,9,34,35,36,43,44] (fun j=>[(45,N j)]) (fun _=>[]) (fun j=>j≤i) (fun j=>i -j) 0 (by omega) (entL (.cons zle .nil) zk (HLe.none _)) fun j hj=> ?_
    have htk:(l.take i).length=i:=by rw[List.length_take];omega
    repeat(refine zS ?_;intros)
    refine zB ?_ ?_<;>intro h4
    · have e1:(l.take i).getD j []=l.getD j []:=by simp [List.getD,List.getElem?_take,show j<i by omega]
      have hgc:=hc i j _ _ (by omega) (QaQ (l:=l) (i:=i) (by omega)) (QaQ (l:=l) (i:=j) (by omega))
      unfold GC at hgc
      have a1:=hf _ (Yr (l:=l) (i:=i) (by omega))
      have a2:=hf _ (Yr (l:=l) (i:=j) (by omega))
      obtain⟨f,ef⟩: ∃f,l.getD i []=f:=⟨_,rfl⟩
      obtain⟨g,eg⟩: ∃g,l.getD j []=g:=⟨_,rfl⟩
      rw[ef,eg] at hgc
      rw[ef] at a1
      rw[eg] at a2
      have n1:=YN p (XN p (XO p f) (XO p g))
      repeat(refine zS ?_;intros)
      rw[e1,ef,eg]
      repeat(refine zS ?_;intros)
      exact ag1 (j+1) (by omega) (entL (.cons zle .nil) zk (HLe.none _))
    · repeat(refine zS ?_;intros)
      exact ag1 (i+1) (by omega) (entL (.cons zle .nil) zk (HLe.none _))
  repeat(refine zS ?_;intros)
  refine aL1 [0,1,14,65,66] (fun i=>[(67,N i)]) (fun i=>[.arr 66 1 (((List.range i).map (Qji p l)++List.replicate (l.length -i) []).map raw)]) (fun i=>i≤l.length) (fun i=>l.length -i) 0 (by omega) (entL (.cons zle .nil) zk (.cons (ob_eq (by simp)) (HLe.none _))) fun i hi=> ?_
  repeat(refine zS ?_;intros)
  refine zB ?_ ?_<;>intro h4
  · have a1:=hf _ (Yr (l:=l) (i:=i) (by omega))
    have a2:=hg _ (Yr (l:=l) (i:=i) (by omega))
    obtain⟨g,eg⟩: ∃g,l.getD i []=g:=⟨_,rfl⟩
    rw[eg] at a1 a2
    repeat(refine zS ?_;intros)
    rw[eg]
    refine aL1 [0,1,14,15,16,65,66,67,73,74] (fun j=>[(17,raw (Qfo p g i l j)),(75,N j)]) (fun _=>[.arr 66 1 (((List.range i).map (Qji p l)++List.replicate (l.length -i) []).map raw)]) (fun j=>j≤l.length) (fun j=>l.length -j) 0 (by omega) (entL (.cons (by exact le_refl (raw [1])) (.cons zle .nil)) zk (.cons (ob_refl _) (HLe.none _))) fun j hj=> ?_
    have o1:=QjG (i:=i) (l:=l) hp a2 a1 j
    have o2:=QjG (i:=i) (l:=l) hp a2 a1 (j+1)
    obtain⟨u,eu⟩: ∃u,Qfo p g i l j=u:=⟨_,rfl⟩
    rw[eu] at o1
    rw[eu]
    repeat(refine zS ?_;intros)
    refine zB ?_ ?_<;>intro h5
    · have a3:=hf _ (Yr (l:=l) (i:=j) (by omega))
      obtain⟨f,ef⟩: ∃f,l.getD j []=f:=⟨_,rfl⟩
      rw[ef] at a3
      have m1:=(Qa6 p u f).1
      repeat(refine zS ?_;intros)
      rw[ef]
      refine zB ?_ ?_<;>intro h6
      · have hst:(XH p (XO p (Qau p u f)) (XO p g)).2=Qfo p g i l (j+1):=by rw[Qfo,if_neg (by omega),eu,ef]
        repeat(refine zS ?_;intros)
        exact ag1 (j+1) (by omega) (entL (.cons (show AV.le (raw (XH p (XO p (Qau p u f)) (XO p g)).2) (raw (Qfo p g i l (j+1))) from .of_eq (by rw[hst])) (.cons zle .nil)) zk (.cons (ob_refl _) (HLe.none _)))
      · have hst:u=Qfo p g i l (j+1):=by rw[Qfo,if_pos (by omega),eu]
        repeat(refine zS ?_;intros)
        exact ag1 (j+1) (by omega) (entL (.cons (show AV.le (raw u) (raw (Qfo p g i l (j+1))) from .of_eq (by rw[←hst])) (.cons zle .nil)) zk (.cons (ob_refl _) (HLe.none _)))
    · obtain rfl:j=l.length:=by omega
      have hcg:(Qb9 p (XO p u) (XO p g)).2.1=Qji p l i:=by unfold Qji;rw[eg,eu]
      have hset:((List.range i).map (Qji p l)++List.replicate (l.length -i) []).set i ((Qb9 p (XO p u) (XO p g)).2.1)=(List.range (i+1)).map (Qji p l)++List.replicate (l.length -(i+1)) []:=by
        rw[hcg,show l.length -i=(l.length -(i+1))+1 by omega,List.replicate_succ,List.set_append_right _ _ (by simp),List.range_succ,List.map_append,List.append_assoc]
        simp
      have hlen:((List.range i).map (Qji p l)++List.replicate (l.length -i) ([]:List Nat)).length=l.length:=by simp;omega
      repeat(refine zS ?_;intros)
      refine alO (aoStM (f:=raw) (l:=(List.range i).map (Qji p l)++List.replicate (l.length -i) []) (Qb9 p (XO p u) (XO p g)).2.1 zv zv 0 (by exact rfl) (by exact le_refl _) (by omega) (by kernel_rfl) rfl) zg ?_
      repeat(refine zS ?_;intros)
      exact ag1 (i+1) (by omega) (entL (.cons zle .nil) zk (.cons (ob_eq (by rw[hset])) (HLe.none _)))
  · obtain rfl:i=l.length:=by omega
    repeat(refine zS ?_;intros)
    refine AX.ent (entFzS hC (s:=4) (by exact rfl) 0 (by exact rfl) (by simp) (a:=Qi7 (Qaq p l)) (.of_eq (by rw[Nat.sub_self,List.replicate_zero,List.append_nil];rfl))) ?_
    exact aRet2 rfl zv zv hK (le_refl _) (le_refl _)⟩
end Go.Proofs.YtjdpemcnlejpfaaGreatDoor
namespace Go.Proofs.YtjdpemcnlejpfaaGreatDoor
open Go.RowKit Go.Gx Go.Am Tryz
instance c62:TK prog 62 (∀{D:Nat}{x y:List Int×Nat}(_:x.1.length≤1048576)(_:y.1.length≤1048576),AC prog 62 [] [fv D x,fv D y] fun K=>K [] [I .i64 (Qbv (Xa x.1) (Xa y.1))]):=⟨fun {D x y} hf hg=>by
  refine aEnter func62 rfl ntmps62 rfl fun K C hC hK=> ?_
  repeat(refine zS ?_;intros)
  exact aRet1 rfl zv hK (le_refl _)⟩
instance:Zr (List Int×Nat) ([],0):=⟨⟩
end Go.Proofs.YtjdpemcnlejpfaaGreatDoor
namespace Go.Proofs.YtjdpemcnlejpfaaGreatDoor
open Go.RowKit Go.Gx Go.Am Tryz
def Qjs(D:List RawI):Prop:=D.length≤9∧ ∀x∈D,x.2.length≤3
instance(D:List RawI):Decidable (Qjs D):=by unfold Qjs;infer_instance
instance c26:TK prog 26 (∀{D:List RawI},AC prog 26 [] [rwp D] fun K=>K [] [Bo (decide (Qjs D))]):=⟨fun {D}=>by
  refine aEnter func26 rfl ntmps26 rfl fun K C hC hK=> ?_
  repeat(refine zS ?_;intros)
  refine zB ?_ ?_<;>intro h
  · rw[decide_eq_false fun h9:Qjs D=>absurd h9.1 (by omega)] at hK
    repeat(refine zS ?_;intros)
    exact aRet1 rfl zv hK (le_refl _)
  repeat(refine zS ?_;intros)
  refine aL1 [8,9] (fun k=>[(10,N k)]) (fun _=>[]) (fun k=>k≤D.length∧ ∀x∈D.take k,x.2.length≤3) (fun k=>D.length -k) 0 ⟨by omega,fun x hx=>by simp at hx⟩ (entL (.cons zle .nil) zk (HLe.none _)) fun k ⟨hk,hI⟩=> ?_
  repeat(refine zS ?_;intros)
  refine zB ?_ ?_<;>intro h2
  · obtain⟨y,ey⟩: ∃y,D.getD k (false,[])=y:=⟨_,rfl⟩
    have hm:y∈D:=by
      rw[←ey];simp only[List.getD,List.getElem?_eq_getElem (show k<D.length by omega),Option.getD_some];exact List.getElem_mem _
    repeat(refine zS ?_;intros)
    rw[ey]
    repeat(refine zS ?_;intros)
    refine zB ?_ ?_<;>intro h3
    · rw[decide_eq_false fun h9:Qjs D=>absurd (h9.2 y hm) (by omega)] at hK
      repeat(refine zS ?_;intros)
      exact aRet1 rfl zv hK (le_refl _)
    · repeat(refine zS ?_;intros)
      exact ag1 (k+1) ⟨by omega,fun x hx=>by
        rw[List.take_add_one,List.getElem?_eq_getElem (show k<D.length by omega)] at hx
        rcases List.mem_append.1 hx with hx|hx
        · exact hI x hx
        · have e:x=y:=by rw[←ey];simpa [List.getD,show k<D.length by omega] using hx
          rw[e];omega⟩ (entL (.cons zle .nil) zk (HLe.none _))
  · rw[decide_eq_true (show Qjs D from⟨by omega,by rw[List.take_of_length_le (by omega)] at hI;exact hI⟩)] at hK
    repeat(refine zS ?_;intros)
    exact aRet1 rfl zv hK (le_refl _)⟩
end Go.Proofs.YtjdpemcnlejpfaaGreatDoor
namespace Go.Proofs.YtjdpemcnlejpfaaGreatDoor
open Go.RowKit Go.Gx Go.Am Tryz
end Go.Proofs.YtjdpemcnlejpfaaGreatDoor
namespace Go.Proofs.YtjdpemcnlejpfaaGreatDoor
open Go.RowKit Go.Gx Go.Am Tryz
end Go.Proofs.YtjdpemcnlejpfaaGreatDoor
namespace Go.Proofs.YtjdpemcnlejpfaaGreatDoor
open Go.RowKit Go.Gx Go.Am Tryz
end Go.Proofs.YtjdpemcnlejpfaaGreatDoor
namespace Go.Proofs.YtjdpemcnlejpfaaGreatDoor
open Go.RowKit Go.Gx Go.Am Tryz
end Go.Proofs.YtjdpemcnlejpfaaGreatDoor
namespace Go.Proofs.YtjdpemcnlejpfaaGreatDoor
open Go.RowKit Go.Gx Go.Am Tryz
theorem Qs6{D:Nat}{w:World}{S:Nat→Prop}:(fv D (([],0):List Int×Nat)).rep w S (.agg #[.slice none 0 0,.int .i64 0]):=by
  unfold fv agg
  exact⟨[.slice none 0 0,.int .i64 0],rfl,⟨le_p0 w S _ Qn8,(by unfold N I lit;rfl),trivial⟩,by intro c hc;simp at hc;rcases hc with rfl|rfl<;>rfl⟩
instance:ZV (.agg #[.slice none 0 0,.int .i64 0]) 2 (fv 17) (([],0):List Int×Nat):=⟨fun _ _=>Qs6,by kernel_rfl⟩
end Go.Proofs.YtjdpemcnlejpfaaGreatDoor
