/-
  D6, H4, H5
-/
import Derived.Test.YtjdpemcnlejpfaaGreatDoorD3
import Derived.Test.YtjdpemcnlejpfaaGreatDoorDecP
import Derived.Test.YtjdpemcnlejpfaaGreatDoorH1
import Derived.Test.YtjdpemcnlejpfaaGreatDoorModWalk
set_option linter.all false
namespace Go.Proofs.YtjdpemcnlejpfaaGreatDoor
open Go.RowKit Go.Gx Go.Am Tryz
set_option maxHeartbeats 4000000 in
instance QyC:TK prog 227 (∀{M Mm m:Nat}{x:Int}(_:M≤1099511627)(_:Mm≤1099511627)(_:0<m)(_:Int.gcd x m=1),AC prog 227 [] [iv M x,iv Mm (m:Int)] fun K=> ∀u v:Int,(∃k:Int,u*x=1+m*k)→u=YY m u→K [] [it 2 1,it Mm u,it (M+Mm+8) v]):=⟨fun {M Mm m x} hM hMm hm hg=>by
  refine aEnter func227 rfl ntmps227 rfl fun K C hC hK=>bdI 1 rfl fun hb=> ?_
  repeat(refine zS ?_;intros)
  refine zB ?_ ?_<;>intro h
  · omega
  repeat(refine zS ?_;intros)
  rename_i g2 g3 g4 g5 g6
  refine aJ2 [2,3,4,5,6] (fun g7 g8=>[(7,lpt 1 g7 0),(8,lpt 1 g8 0)]) (fun g7 g8=>[(some g8,.arr 25 1 (itl Mm m)),(some g7,.arr 25 1 (itl M x)),(some g6,.arr 25 1 [Bo false,nilS]),(some g5,.arr 25 1 [Bo false,nilS]),(some g4,.arr 25 1 [Bo false,nilS]),(some g3,.arr 25 2 [iv Mm m]),(some g2,.arr 25 2 [iv M x])]) (fun _ _=>True) ?_ ?_
  · refine aDr1 [4,5,0,1,2,3,6,7] ?_
    repeat' (first | (refine zR ?_;intros)| (refine adO1 (by exact rfl) (zst ?_);intros)| (refine adO2 (by exact rfl) (zst ?_) (zst ?_)<;>intros)| (refine adO3 (by exact rfl) (zst ?_) (zst ?_) (zst ?_)<;>intros))
    all_goals rename_i ga gb
    all_goals first | exact jd2 ga gb trivial (entL (.cons zle (.cons zle .nil)) zk (.cons (ob_refl _) (.cons (ob_refl _) (HLe.refl _))))| exact jd2 ga gb trivial (entL (.cons zle (.cons zle .nil)) zk (.pick 1 rfl (ob_refl _) (.cons (ob_refl _) (HLe.refl _))))| exact jd2 gb ga trivial (entL (.cons zle (.cons zle .nil)) zk (.cons (ob_refl _) (.cons (ob_refl _) (HLe.refl _))))| exact jd2 gb ga trivial (entL (.cons zle (.cons zle .nil)) zk (.pick 1 rfl (ob_refl _) (.cons (ob_refl _) (HLe.refl _))))
  rintro g7 g8 -
  have hm1:(1:Int).natAbs<BS^Mm:=by rw[Int.natAbs_natCast] at hb;omega
  have hb': ∀z:Int,z.natAbs≤(m:Int).natAbs→z.natAbs<BS^Mm:=fun z h=>Nat.lt_of_le_of_lt h hb
  repeat(refine zS ?_;intros)
  rename_i g9
  refine aL4 [2,3,4,5,6,7,8,9] (fun _ _ _ _=>[]) (fun R S X Y=>[.arr 25 1 (itl Mm Y),.arr 25 1 (itl (max M Mm) S),.arr 25 1 (itl (max M Mm) R),.arr 25 1 [Bo false,nilS],.arr 25 1 (itl Mm X),.arr 25 1 [Bo false,nilS],.arr 25 2 [iv Mm m],.arr 25 2 [iv M x]]) (fun R S X Y=>XgI x m R S X Y) (fun _ S _ _=>S.natAbs) x m 1 0 (XgI.start (by omega) hg) (entL .nil zk (.cons (ob_il (hb' 0 (by omega))) (.cons (ob_i rfl (by omega)) (.cons (ob_i rfl (by omega)) (.cons (ob_refl _) (.cons (ob_il hm1) (.cons (ob_refl _) (HLe.refl _)))))))) fun R S X Y hI=> ?_
  repeat(refine zS ?_;intros)
  refine zB ?_ ?_<;>intro h1
  · have hS:S≠0:=h1
    have hn:=hI.step hS
    repeat(refine zS ?_;intros)
    refine aDrT [(2,g7)] [0,1,2,3] (zS ?_)
    refine adEw (q:=0) (js:=[(2,4)]) (by exact rfl) ye (by exact rfl) zg (by kernel_rfl) zjs1 ?_
    repeat(refine zS ?_;intros)
    exact ag4 S (R.tmod S) Y (X -R.tdiv S*Y) hn (entL .nil zk (.drop (.drop (.cons (ob_il (hb' _ hn.by_)) (.cons (ob_i rfl (by omega)) (.cons (ob_i rfl (by omega)) (.cons (ob_refl _) (.cons (ob_i rfl (by omega)) (.cons (ob_refl _) (HLe.refl _)))))))))) (Que rfl hS)
  obtain rfl:S=0:=by omega
  have hR:=hI.done
  repeat(refine zS ?_;intros)
  rename_i s s1 s2 s3 s4 s5
  refine aJ1 [2,3,4,5,6,7] (fun _=>[]) (fun X=>[(some g9,.arr 25 1 (itl Mm Y)),(some g8,.arr 25 1 (itl (max M Mm) 0)),(some g7,.arr 25 1 (itl (max M Mm) 1)),(some g6,.arr 25 1 [Bo false,nilS]),(some g5,.arr 25 1 (itl Mm X)),(some g4,.arr 25 1 [Bo false,nilS]),(some g3,.arr 25 2 [iv Mm m]),(some g2,.arr 25 2 [iv M x])]) (fun X=> ∃k:Int,X*x=1+m*k) ?_ ?_
  · refine zB ?_ ?_<;>intro h2
    · have⟨e1,e2⟩:=Qv6 hI.cx hR (by omega) rfl rfl
      repeat(refine zS ?_;intros)
      exact jd1 (-X) e2 (entL .nil zk (.cons (ob_refl _) (.cons (ob_refl _) (.cons (ob_i e1 (by omega)) (.cons (ob_refl _) (.cons (ob_i rfl (by omega)) (HLe.refl _)))))))
    · have⟨e1,e2⟩:=Qv7 hI.cx hR (by omega)
      repeat(refine zS ?_;intros)
      exact jd1 X e2 (entL .nil zk (.cons (ob_refl _) (.cons (ob_refl _) (.cons (ob_i e1 (by omega)) (HLe.refl _)))))
  intro X hX
  repeat(refine zS ?_;intros)
  rw[Int.tdiv_one]
  repeat(refine zS ?_;intros)
  refine aDrT [(3,g4),(4,g5)] [0,1,2,3,4,5] (zS ?_)
  refine adEw (q:=6) (js:=[(3,7)]) (by exact rfl) ye (by exact rfl) zg (by kernel_rfl) zjs1 ?_
  refine adEw (q:=5) (js:=[(3,7),(4,6)]) (by exact rfl) ye (by exact rfl) zg (by kernel_rfl) zjs ?_
  repeat(refine zS ?_;intros)
  have h3: ∃k:Int,YY m X*x=1+m*k:=by
    obtain⟨k,hk⟩:=hX
    obtain⟨l,hl⟩:=QfF m X
    exact⟨k+l*x,by rw[hl,Int.add_mul,hk];grind⟩
  exact aRet (rs:=[_,_,_]) rfl rfl (List.nil_sublist _) (arW0 zv 7 rfl rfl (by kernel_rfl) (it_lt (by simp [BS])) (arW0 zv 6 rfl rfl (by kernel_rfl) (le_itt (by omega)) (arW0 zv 5 rfl rfl (by kernel_rfl) (le_itt (by omega)) zr))) (hK _ _ h3 (Qdu hm X).symm)⟩
end Go.Proofs.YtjdpemcnlejpfaaGreatDoor
namespace Go.Proofs.YtjdpemcnlejpfaaGreatDoor
open Go.RowKit Go.Gx Go.Am Tryz
theorem QbC{l:List (List Int)}{i:Nat}(h:i<l.length):l.getD i []∈l:=by
  simp only[List.getD,List.getElem?_eq_getElem h,Option.getD_some];exact List.getElem_mem h
theorem Qli{m:Nat}: ∀(l:List (List Int×List Int))(x:List Int×List Int)(a:Nat),(∀p∈l,p.1.length≤32∧p.2.length≤32)→x.1.length≤a+32→x.2.length≤a+1→(l.foldl (Qaw m) x).1.length≤a+32*l.length+32∧(l.foldl (Qaw m) x).2.length≤a+32*l.length+1
  | [],x,a,_,h1,h2=>⟨by simpa using h1,by simpa using h2⟩
  |p::l,x,a,hl,h1,h2=>by
    have hp:=hl p (by simp)
    have b1:=Nat.le_trans (Xe (Xg x.1 p.1)) (Yo x.1 p.1)
    have b2:=Nat.le_trans (Xe (Xg p.2 x.2)) (Yo p.2 x.2)
    have b3:=Xe (Xx (Xa (Xg x.1 p.1)) (Xa (Xg p.2 x.2)))
    rw[Qdj] at b3
    have b4:=Zu m (Xa (Xx (Xa (Xg x.1 p.1)) (Xa (Xg p.2 x.2))))
    have b5:=Nat.le_trans (Xe (Xg x.2 p.1)) (Yo x.2 p.1)
    have b6:=Zu m (Xa (Xg x.2 p.1))
    have ih:=Qli (m:=m) l (Qaw m x p) (a+32) (fun q hq=>hl q (by simp [hq])) (by unfold Qaw;dsimp only;omega) (by unfold Qaw;dsimp only;omega)
    rw[List.foldl_cons,List.length_cons]
    exact⟨by omega,by omega⟩
theorem QiV{m:Nat}{gs ss:List (List Int)}(hg: ∀f∈gs,f.length≤32)(hs: ∀f∈ss,f.length≤32)(hl:gs.length≤32):(QfM m gs ss).1.length≤1100∧(QfM m gs ss).2.length≤1100:=by
  have :=Qli (m:=m) (gs.zip ss) ([],Xa [1]) 0 (fun p hp=>⟨hg _ (List.of_mem_zip hp).1,hs _ (List.of_mem_zip hp).2⟩) (by simp) (by have :=Xe [(1:Int)];simpa using this)
  have hz:(gs.zip ss).length≤32:=by rw[List.length_zip];omega
  unfold QfM
  exact⟨by omega,by omega⟩
theorem Qt2{m:Nat}{x:Int}{f:List Int}{gs ss:List (List Int)}{i:Nat}(h1:i<gs.length)(h2:i<ss.length):(step0 m x f gs ss)[i]? =some (QhP m (QlZ m x f (ldP f) (QfM m gs ss).2) (gs.getD i []) (ss.getD i [])):=by
  unfold step0
  rw[List.getElem?_map,List.getElem?_eq_getElem (by simp;omega)]
  simp [List.getD,h1,h2]
theorem QeD(m:Nat)(F G:List Int):(QfL m F G).length≤(Xa G).length -1:=by
  unfold QfL
  have :=Zu m ((Qb1 m G ((Xa G).length -1) ((Zg m F).length -((Xa G).length -1)) (Zg m F)).take (min (Zg m F).length ((Xa G).length -1)))
  rw[List.length_take] at this
  omega
theorem QqE{m:Nat}{ms g s:List Int}(h:g.length≤32):(QhP m ms g s).length≤32:=by
  unfold QhP
  have h1:=Zu m (Xa (Xx g (QfL m (Xa (Xg s ms)) g)))
  have h2:=Xe (Xx g (QfL m (Xa (Xg s ms)) g))
  have h3:=QeD m (Xa (Xg s ms)) g
  have h4:=Xe g
  rw[Qdj] at h2
  omega
theorem QjZ{m:Nat}{x:Int}{f:List Int}{gs ss:List (List Int)}(hg: ∀f∈gs,f.length≤32): ∀u∈step0 m x f gs ss,u.length≤32:=fun u hu=>by
  unfold step0 at hu
  obtain⟨p,hp,rfl⟩:=List.mem_map.1 hu
  exact QqE (hg _ (List.of_mem_zip hp).1)
theorem Qt3{m:Nat}{x:Int}{f:List Int}{gs ss:List (List Int)}{i:Nat}(h1:i<ss.length)(h2:i<(step0 m x f gs ss).length):(step1 m x f gs ss)[i]? =some (QkN m (exZ m (QfM m (step0 m x f gs ss) ss).1) (ss.getD i []) ((step0 m x f gs ss).getD i [])):=by
  unfold step1
  rw[List.getElem?_map,List.getElem?_eq_getElem (by simp;omega)]
  simp [List.getD,h1,h2]
theorem QvF{M:Nat}{l:List Int}:(pc M l).el 1:=⟨by rw[sl_sh];rfl,by rw[sl_sh];simp⟩
theorem QvM{M:Nat}{l:List Int}:(pv M l).el 1:=⟨by rw[sl_sh];rfl,by rw[sl_sh];simp⟩
theorem Qhe{M M':Nat}{l:List (List Int)}(h:M≤M'):(pcs M l).le (pvs M' l):=le_map l (fun _=>le_pcv h) fun _=>QvM
theorem Qtc{M M':Nat}{l:List (List Int)}(h:M≤M'):(pvs M l).le (pvs M' l):=le_map l (fun _=>le_pvv h) fun _=>QvM
theorem QsN{a b:AV}(ha:a.sh= .one)(hb:b.sh= .one):els 1 [a,b]:=fun x hx=>by
  simp at hx
  rcases hx with rfl|rfl
  · exact⟨by rw[ha];rfl,by rw[ha];simp⟩
  · exact⟨by rw[hb];rfl,by rw[hb];simp⟩
theorem Qn7:nilS.sh= .one:=by unfold nilS lit;rfl
set_option maxHeartbeats 4000000 in
instance Qxg:TK prog 192 (∀{M Mf Mm m:Nat}{f:List Int}{gs ss:List (List Int)}(_:M≤4096)(_:Mf≤4096)(_:Mm≤4096)(_:2≤Mm)(_:0<m)(_:Int.gcd (ldP f) (m:Int)=1)(_:f.length≤1024)(_:gs.length≤32)(_:gs.length=ss.length)(_: ∀f∈gs,f.length≤32) (_: ∀f∈ss,f.length≤32) (_: ∀f∈gs,1≤(Xa f).length) (_: ∀x:Int,(∃k:Int,x*ldP f=1+m*k)→x=YY m x→ ∀u∈step0 m x f gs ss,1≤(Xa u).length),AC prog 192 [] [pv Mf f,agg [pvs M gs,pvs M ss],iv Mm (m:Int)] fun K=> ∀x:Int,(∃k:Int,x*ldP f=1+m*k)→x=YY m x→K [] [agg [pcs Mm (step0 m x f gs ss),pcs Mm (step1 m x f gs ss)]]):=⟨fun {M Mf Mm m f gs ss} hM hMf hMm h2 hm hgc hf hgl hgs hg32 hs32 hg1 hst=>by
  refine aEnter func192 rfl ntmps192 rfl fun K C hC hK=> ?_
  have⟨sl1,sl2⟩:=QiV (m:=m) hg32 hs32 hgl
  repeat(refine zS ?_;intros)
  rename_i g4 g5 g6 g7 g8 x v hx hxs g9 g10 g11
  have hK:=hK x hx hxs
  have hst:=hst x hx hxs
  have hz: ∀z∈[(1:Int)],-9223372036854775808≤z∧z≤9223372036854775807:=fun z hz=>by rw[List.mem_singleton.1 hz];omega
  have hl1:[(1:Int)].length≤1099511627776:=by simp
  obtain⟨pr,epr⟩: ∃pr,(QfM m gs ss).2=pr:=⟨_,rfl⟩
  obtain⟨y1,ey1⟩: ∃y1,Xa (Xf pr (ldP f))=y1:=⟨_,rfl⟩
  have q1:y1.length≤1100:=by have h9:=Xe (Xf pr (ldP f));rw[Qbq,ey1] at h9;rw[epr] at sl2;omega
  obtain⟨y2,ey2⟩: ∃y2,Xa (XD f y1)=y2:=⟨_,rfl⟩
  have q2:y2.length≤1100:=by have h9:=Xe (XD f y1);rw[ey2] at h9;simp [XD] at h9;omega
  obtain⟨y3,ey3⟩: ∃y3,Zg m y2=y3:=⟨_,rfl⟩
  have q3:y3.length≤1100:=by have h9:=Zu m y2;rw[ey3] at h9;omega
  obtain⟨y4,ey4⟩: ∃y4,Xa (Xf y3 x)=y4:=⟨_,rfl⟩
  have q4:y4.length≤1100:=by have h9:=Xe (Xf y3 x);rw[Qbq,ey4] at h9;omega
  obtain⟨ms,ems⟩: ∃ms,Zg m y4=ms:=⟨_,rfl⟩
  have q5:ms.length≤1100:=by have h9:=Zu m y4;rw[ems] at h9;omega
  have hms:QlZ m x f (ldP f) (QfM m gs ss).2=ms:=by unfold QlZ;rw[epr,ey1,ey2,ey3,ey4,ems]
  rw[epr] at sl2
  show AL _ _ _ _ _ _ _ _ _
  rw[epr,ey1]
  repeat(refine zS ?_;intros)
  rw[ey2]
  repeat(refine zS ?_;intros)
  show AD _ _ _ _ _ _ _ _ _ _ _
  rw[ey3]
  repeat(refine zS ?_;intros)
  show AD _ _ _ _ _ _ _ _ _ _ _
  rw[ey4]
  repeat(refine zS ?_;intros)
  rw[ems]
  refine AW.ent (entGro 30 1) ?_
  refine aLoop [4,5,6,7,14,52,53] (fun x:Option Nat×Nat×List (List Int)=>[(54,N x.2.2.length)]) (fun x=>[(x.1,.gro 30 1 (x.2.2.map (pc Mm)) x.2.1),(some g7,.arr 214 1 [gh x.1 x.2.2.length x.2.1,nilS]),(some g6,.arr 214 1 [nilS,nilS]),(some g5,.arr 25 2 [iv Mm m]),(some g4,.arr 214 1 [pvs M gs,pvs M ss])]) (fun y=>y.2.2.length≤gs.length∧y.2.2=(step0 m x f gs ss).take y.2.2.length) (fun x=>gs.length -x.2.2.length) (none,0,[]) ⟨Nat.zero_le _,rfl⟩ (entL (.cons zle .nil) zk (by refine .cons (ob_refl _) (.drop (.drop (.drop (.drop (.cons (ob_arr (.cons Qas (.cons (le_refl _) .nil)) (QsN gh_sh Qn7)) (.cons (ob_refl _) (.cons (ob_refl _) (.cons (ob_refl _) (HLe.none _))))))))))) fun⟨k,c,L⟩ ⟨hL,hLe⟩=> ?_
  dsimp only at hL hLe⊢
  repeat(refine zS ?_;intros)
  refine zB ?_ ?_<;>intro h3
  · obtain⟨g,eg⟩: ∃g,gs.getD L.length []=g:=⟨_,rfl⟩
    obtain⟨s,es⟩: ∃s,ss.getD L.length []=s:=⟨_,rfl⟩
    have gm:g∈gs:=eg▸QbC (by omega)
    have sm:s∈ss:=es▸QbC (by omega)
    have a1:=hg32 g gm
    have a2:=hs32 s sm
    have a3:=hg1 g gm
    have a4:=Xe g
    obtain⟨z1,ez1⟩: ∃z1,Xa (Xg s ms)=z1:=⟨_,rfl⟩
    have b1:z1.length≤1200:=by have :=Nat.le_trans (Xe (Xg s ms)) (Yo s ms);rw[ez1] at this;omega
    obtain⟨z2,ez2⟩: ∃z2,QfL m z1 g=z2:=⟨_,rfl⟩
    have b2:z2.length≤32:=by have :=QeD m z1 g;rw[ez2] at this;omega
    obtain⟨z3,ez3⟩: ∃z3,Xa (Xx g z2)=z3:=⟨_,rfl⟩
    have b3:z3.length≤32:=by have :=Xe (Xx g z2);rw[Qdj,ez3] at this;omega
    have hnx:QhP m ms g s=Zg m z3:=by unfold QhP;rw[ez1,ez2,ez3]
    repeat(refine zS ?_;intros)
    rw[es,eg]
    repeat(refine zS ?_;intros)
    show AD _ _ _ _ _ _ _ _ _ _ _
    rw[ez1]
    repeat(refine zS ?_;intros)
    rw[ez2]
    repeat(refine zS ?_;intros)
    show AD _ _ _ _ _ _ _ _ _ _ _
    rw[ez3]
    repeat(refine zS ?_;intros)
    rename_i k2 c2
    have hget:=Qt2 (m:=m) (x:=x) (f:=f) (gs:=gs) (ss:=ss) (i:=L.length) (by omega) (by omega)
    rw[hms,eg,es,hnx] at hget
    have hnew:L++[Zg m z3]=(step0 m x f gs ss).take (L++[Zg m z3]).length:=by
      rw[List.length_append,List.length_singleton,List.take_add_one,hget,←hLe];rfl
    exact aAgain (k2,c2,L++[Zg m z3]) ⟨by show(L++[Zg m z3]).length≤gs.length;rw[List.length_append,List.length_singleton];omega,hnew⟩ (by show gs.length -(L++[Zg m z3]).length<gs.length -L.length;rw[List.length_append,List.length_singleton];omega) (entL (.cons (leI (by show _=(((L++[Zg m z3]).length:Nat):Int);rw[List.length_append,List.length_singleton])) .nil) zk (.cons (Qa4 (by rw[List.map_append];rfl)) (.cons (ob_arr (.cons (Qcr (by simp)) (.cons (le_refl _) .nil)) (QsN gh_sh Qn7)) (HLe.refl _))))
  · have hLf:L=step0 m x f gs ss:=by
      rw[hLe,List.take_of_length_le]
      unfold step0;rw[List.length_map,List.length_zip];omega
    have hL32: ∀u∈L,u.length≤32:=by rw[hLf];exact QjZ hg32
    have hLg1: ∀u∈L,1≤(Xa u).length:=by rw[hLf];exact hst
    have hLn:L.length=ss.length:=by rw[hLf];unfold step0;rw[List.length_map,List.length_zip];omega
    have⟨sl3,sl4⟩:=QiV (m:=m) hL32 hs32 (by omega)
    have hsum:AC prog 228 [] [agg [pcs Mm L,pvs M ss],iv Mm (m:Int)] fun K=>K [] [pc (max Mm 2) (QfM m L ss).1,pc (max Mm 2) (QfM m L ss).2]:=AC.les (Qxi.k (M:=max M Mm) (Mm:=Mm) (m:=m) (gs:=L) (ss:=ss) (by omega) (by omega) hm (by omega) hLn hL32 hs32) (.cons (le_agg (.cons (Qhe (by omega)) (.cons (Qtc (by omega)) .nil))) (.cons (le_refl _) .nil))
    have e1:Xa [(1:Int)]=[1]:=by decide
    obtain⟨o,eo⟩: ∃o,(QfM m L ss).1=o:=⟨_,rfl⟩
    rw[eo] at sl3
    obtain⟨o1,eo1⟩: ∃o1,Xa (XD o [1])=o1:=⟨_,rfl⟩
    have q6:o1.length≤1100:=by have h9:=Xe (XD o [1]);rw[eo1] at h9;simp [XD] at h9;omega
    obtain⟨ex,eex⟩: ∃ex,Zg m o1=ex:=⟨_,rfl⟩
    have q7:ex.length≤1100:=by have h9:=Zu m o1;rw[eex] at h9;omega
    have hex:exZ m (QfM m L ss).1=ex:=by unfold exZ;rw[eo,e1,eo1,eex]
    refine AW.ent (entFzO hC (m:=L.length) 0 (by exact rfl) (by rw[List.length_map]) 0 (by exact rfl) 0 (by exact rfl)) ?_
    repeat(refine zS ?_;intros)
    show AD _ _ _ _ _ _ _ _ _ _ _
    rw[eo,e1]
    repeat(refine zS ?_;intros)
    show AD _ _ _ _ _ _ _ _ _ _ _
    rw[eo1]
    repeat(refine zS ?_;intros)
    rw[eex]
    refine AW.ent (entGro 30 1) ?_
    refine aLoop [5,6,7,20,97,98] (fun x:Option Nat×Nat×List (List Int)=>[(99,N x.2.2.length)]) (fun x=>[(x.1,.gro 30 1 (x.2.2.map (pc Mm)) x.2.1),(some g7,.arr 214 1 [pcs Mm L,gh x.1 x.2.2.length x.2.1]),(some g6,.arr 214 1 [nilS,nilS]),(some g5,.arr 25 2 [iv Mm m])]) (fun y=>y.2.2.length≤ss.length∧y.2.2=(step1 m x f gs ss).take y.2.2.length) (fun x=>ss.length -x.2.2.length) (none,0,[]) ⟨Nat.zero_le _,rfl⟩ (entL (.cons zle .nil) zk (by refine .cons (ob_refl _) (.cons (ob_arr (.cons (le_refl _) (.cons Qas .nil)) (QsN sl_sh gh_sh)) (.cons (ob_refl _) (.cons (ob_refl _) (HLe.none _)))))) fun⟨k2,c2,R⟩ ⟨hR,hRe⟩=> ?_
    dsimp only at hR hRe⊢
    repeat(refine zS ?_;intros)
    refine zB ?_ ?_<;>intro h4
    · obtain⟨g,eg⟩: ∃g,L.getD R.length []=g:=⟨_,rfl⟩
      obtain⟨s,es⟩: ∃s,ss.getD R.length []=s:=⟨_,rfl⟩
      have gm:g∈L:=eg▸QbC (by omega)
      have sm:s∈ss:=es▸QbC (by omega)
      have a1:=hL32 g gm
      have a2:=hs32 s sm
      have a3:=hLg1 g gm
      have a4:=Xe g
      obtain⟨z1,ez1⟩: ∃z1,Xa (Xg s ex)=z1:=⟨_,rfl⟩
      have b1:z1.length≤1200:=by have :=Nat.le_trans (Xe (Xg s ex)) (Yo s ex);rw[ez1] at this;omega
      obtain⟨z2,ez2⟩: ∃z2,QfL m z1 g=z2:=⟨_,rfl⟩
      have b2:z2.length≤32:=by have :=QeD m z1 g;rw[ez2] at this;omega
      obtain⟨z3,ez3⟩: ∃z3,Xa (XD s z2)=z3:=⟨_,rfl⟩
      have b3:z3.length≤32:=by have h9:=Xe (XD s z2);rw[ez3] at h9;simp [XD] at h9;omega
      have hnx:QkN m ex s g=Zg m z3:=by unfold QkN;rw[ez1,ez2,ez3]
      have hget:=Qt3 (m:=m) (x:=x) (f:=f) (gs:=gs) (ss:=ss) (i:=R.length) (by omega) (by rw[←hLf];omega)
      rw[←hLf,hex,eg,es,hnx] at hget
      have hnew:R++[Zg m z3]=(step1 m x f gs ss).take (R++[Zg m z3]).length:=by
        rw[List.length_append,List.length_singleton,List.take_add_one,hget,←hRe];rfl
      repeat(refine zS ?_;intros)
      rw[es,eg]
      repeat(refine zS ?_;intros)
      show AD _ _ _ _ _ _ _ _ _ _ _
      rw[ez1]
      repeat(refine zS ?_;intros)
      rw[ez2]
      repeat(refine zS ?_;intros)
      show AD _ _ _ _ _ _ _ _ _ _ _
      rw[ez3]
      repeat(refine zS ?_;intros)
      rename_i k3 c3
      exact aAgain (k3,c3,R++[Zg m z3]) ⟨by show(R++[Zg m z3]).length≤ss.length;rw[List.length_append,List.length_singleton];omega,hnew⟩ (by show ss.length -(R++[Zg m z3]).length<ss.length -R.length;rw[List.length_append,List.length_singleton];omega) (entL (.cons (leI (by show _=(((R++[Zg m z3]).length:Nat):Int);rw[List.length_append,List.length_singleton])) .nil) zk (.cons (Qa4 (by rw[List.map_append];rfl)) (.cons (ob_arr (.cons (le_refl _) (.cons (Qcr (by simp)) .nil)) (QsN sl_sh gh_sh)) (HLe.refl _))))
    · have hRf:R=step1 m x f gs ss:=by
        rw[hRe,List.take_of_length_le]
        unfold step1;rw[List.length_map,List.length_zip];omega
      rw[←hLf,←hRf] at hK
      refine AW.ent (entFzO hC (m:=R.length) 0 (by exact rfl) (by rw[List.length_map]) 0 (by exact rfl) 1 (by exact rfl)) ?_
      repeat(refine zS ?_;intros)
      exact aRet (rs:=[_]) rfl rfl (List.nil_sublist _) zr hK⟩
end Go.Proofs.YtjdpemcnlejpfaaGreatDoor
namespace Go.Proofs.YtjdpemcnlejpfaaGreatDoor
open Go.RowKit Go.Gx Go.Am Tryz
theorem Qs0{p k M B:Nat}(hp:2≤p)(hB:B<BS^M)(h:p^k≤2*B):k≤32*M:=by
  apply Nat.le_of_not_lt
  intro h1
  have h2:2^k≤p^k:=Nat.pow_le_pow_left hp k
  have h3:2^ (32*M+1)≤2^k:=Nat.pow_le_pow_right (by decide) h1
  have h4:BS^M=2^ (32*M):=by rw[Nat.pow_mul]
  rw[Nat.pow_succ,←h4] at h3
  omega
set_option maxHeartbeats 1000000 in
instance QxQ:TK prog 135 (∀{M p:Nat}{b:Int}(_:2≤p)(_:p<4294967296)(_:M≤1024),AC prog 135 [] [iv M b,W32 p] fun K=> ∀k,Quv p b.natAbs k→k≤32*M+1→K [] [N k,I .i64 0]):=⟨fun {M p b} hp hp2 hM=>by
  refine aEnter func135 rfl ntmps135 rfl fun K C hC hK=>bdI 0 rfl fun hb=> ?_
  repeat(refine zS ?_;intros)
  rename_i g2 g6 g7 g8
  refine aL1 [6,7,8] (fun(k:Nat)=>[(9,N k)]) (fun k=>[.arr 25 1 (itl (2*k) ((p^k:Nat):Int)),.arr 25 1 (itl 2 (p:Int)),.arr 25 1 (itl (M+1) (((b.natAbs:Nat):Int)*2^1)),.arr 25 2 [iv M b]]) (fun k=>1≤k∧k≤32*M+1∧ ∀j,1≤j→j<k→p^j≤2*b.natAbs) (fun k=>32*M+2 -k) 1 ⟨Nat.le_refl _,by omega,fun j h1 h2=>by omega⟩ (entL (.cons zle .nil) zk (by refine .cons (ob_i (by rw[Nat.pow_one]) (by omega)) (.cons (ob_i rfl (by omega)) (.cons (ob_i rfl (by omega)) (.cons (ob_refl _) (HLe.none _)))))) fun k ⟨hk1,hk2,hj⟩=> ?_
  repeat(refine zS ?_;intros)
  rename_i c c1 c2 c3 c4 c5
  refine zB ?_ ?_<;>intro h
  · repeat(refine zS ?_;intros)
    exact aRet2 rfl zv zv (hK k ⟨hk1,by omega,hj⟩ hk2) leI (le_refl _)
  · have hle:p^k≤2*b.natAbs:=by omega
    have hkM:=Qs0 hp hb hle
    repeat(refine zS ?_;intros)
    exact ag1 (k+1) ⟨by omega,by omega,Qnp hj hle⟩ (entL (.cons zle .nil) zk (.cons (ob_i (by rw[Nat.pow_succ,Int.natCast_mul]) (by omega)) (HLe.refl _)))⟩
end Go.Proofs.YtjdpemcnlejpfaaGreatDoor
