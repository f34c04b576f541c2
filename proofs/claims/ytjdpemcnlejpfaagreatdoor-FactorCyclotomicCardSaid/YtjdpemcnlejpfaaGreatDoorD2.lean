/-
  D2, D3, D4, V1, V2
-/
import Derived.Test.YtjdpemcnlejpfaaGreatDoorU4
import Derived.Test.YtjdpemcnlejpfaaGreatDoorAmD
import Derived.Test.YtjdpemcnlejpfaaGreatDoorModGcd
set_option linter.all false
namespace Go.Proofs.YtjdpemcnlejpfaaGreatDoor
open Go.RowKit Go.Gx Go.Am Tryz
set_option maxHeartbeats 2000000 in
instance Qyp:TK prog 202 (∀{M M' x y:Nat}(_:M≤274877906944)(_:M'≤274877906944)(_:0<y),AC prog 202 [] [num M x,num M' y] fun K=>K [] [cnum M (x/y),cnum M' (x % y)]):=⟨fun {M M' x y} hM hM' hy=>by
  refine aEnter func202 rfl ntmps202 rfl fun K C hC hK=>bdN 0 rfl fun hx=>bdN 1 rfl fun hyb=> ?_
  have hq:x/y<BS^M:=Nat.lt_of_le_of_lt (Nat.div_le_self _ _) hx
  have hm:=Nat.mod_lt x hy
  have hr:x % y<BS^M':=Nat.lt_trans hm hyb
  repeat(refine zS ?_;intros)
  rename_i c c1 c2 c3 c4
  refine opC 1 rfl fun b b1 b2 b3 b4=> ?_
  refine zB ?_ ?_<;>intro h<;>repeat(refine zS ?_;intros)
  · refine aRet2 rfl zv zv hK ?_ ?_
    · rw[Nat.div_eq_of_lt (by omega)];exact nil_cn
    · rw[Nat.mod_eq_of_lt (by omega)] at hr⊢;exact cn_lt hr
  have hb0:b.length≠0:=fun h0=>by have :=(canon_zero b4).1 h0;omega
  refine zB ?_ ?_<;>intro h1
  · have hd1:val b=b.getD 0 0:=(Qw9 (d:=b) rfl).2.1 (by omega)
    have hd2:=dlt (i:=0) b2
    rw[←b3,hd1] at hq hr hK
    have :=Nat.mod_lt x (show 0<b.getD 0 0 by omega)
    repeat(refine zS ?_;intros)
    exact aRet2 rfl zv zv hK (cn_lt hq) (cn_lt hr)
  have htop:b.getD (b.length -1) 0≠0:=QmD b4 rfl hb0
  have htl:=dlt (i:=b.length -1) b2
  repeat(refine zS ?_;intros)
  rename_i r r1 r2 r3
  refine alC 49 rfl fun v v1 v2 v3 v4=> ?_
  rw[b3] at v3
  have hnl:=QqC b2 rfl (by omega) r1 r2 r3 (by rw[b3];exact v3) v2 v4
  repeat(refine zS ?_;intros)
  refine alC 52 rfl fun a a1 a2 a3 a4=> ?_
  repeat(refine zS ?_;intros)
  refine alC 59 rfl fun u u1 u2 u3 u4=> ?_
  have hul:=Qbm u4 (QtU a2 rfl a3 u3 r3)
  have hab:b.length≤a.length:=Qd5 a2 b4 (by omega)
  have e0:(List.replicate (a.length+1) 0).take 0++(u++(List.replicate (a.length+1) 0).drop (0+u.length))=u++List.replicate (a.length+1 -u.length) 0:=by simp
  repeat(refine zS ?_;intros)
  refine opC 10 rfl fun v' p1 p2 p3 p4=> ?_
  obtain rfl:v'=v:=QgN p2 v2 p4 v4 (by rw[p3,v3,b3])
  clear p1 p2 p3 p4
  refine aL3 [4,9,10,11,12] (fun(k:Nat) _ _=>[(13,I .i64 ((k:Int) -1))]) (fun k Du Q=>[.arr 46 1 ((List.replicate k 0++Q).map U),.arr 46 1 (Du.map U)]) (fun k Du Q=>k≤a.length+1 -v'.length∧Du.length=a.length+1∧(∀d∈Du,d<BS)∧Q.length=a.length+1 -v'.length -k∧(∀d∈Q,d<BS)∧QhR Du v' Q k (x*2^r)) (fun k _ _=>k) (a.length+1 -v'.length) (u++List.replicate (a.length+1 -u.length) 0) [] ⟨by omega,by simp;omega,QcK u2,by simp,by simp,QhR.start (m:=a.length+1) (n:=v'.length) (s:=r) (va:=x) (by rw[Qco,u3]) rfl (by rw[←a3];exact Za _ a2) r3 (by have h:=QvZ (d:=v') rfl (by omega);have h2:BS^ (v'.length -1)*2147483648≤BS^ (v'.length -1)*v'.getD (v'.length -1) 0:=Nat.mul_le_mul_left _ (by rw[hnl.1];exact hnl.2);omega) (by omega) rfl (by omega)⟩ (entL (.cons zle .nil) zk (.cons (ob_raw (by simp)) (.cons (ob_raw e0) .nil))) fun k Du Q ⟨hk,hD,lD,hQ,lQ,hI⟩=> ?_
  repeat(refine zS ?_;intros)
  refine zB ?_ ?_<;>intro h2
  · obtain⟨V,Z,rfl,rfl⟩: ∃V Z,Du=V++Z∧k=V.length+1:=⟨Du.take (k -1),Du.drop (k -1),(List.take_append_drop ..).symm,by simp;omega⟩
    rw[List.length_append] at hD
    refine AW.ent (entSub (s:=13) (a:=N V.length) leI) ?_
    have hle:=QsT hI rfl (by omega) v2 lD (by omega)
    have hn2:2147483648≤v'.getD (v'.length -1) 0:=by rw[hnl.1];exact hnl.2
    have hd1:=dlt (i:=V.length+v'.length) lD
    have hd2:=dlt (i:=V.length+(v'.length -1)) lD
    have hd3:=dlt (i:=V.length+(v'.length -2)) lD
    have hd4:=dlt (i:=v'.length -1) v2
    have hd5:=dlt (i:=v'.length -2) v2
    repeat(refine zS ?_;intros)
    rename_i q q1 q2 q3
    have e1:(List.replicate (V.length+1) 0++Q).set V.length q=List.replicate V.length 0++(q::Q):=Qk5 rfl rfl
    have e2:(List.replicate V.length 0++(q::Q)).getD V.length 0=q:=Qq0
    refine AL.ent (entSub (s:=113) (a:=U q) (.of_eq (congrArg U (by rw[e1,e2])))) (AL.ent (entH (.cons (ob_raw e1) (.cons (ob_raw rfl) .nil))) ?_)
    repeat(refine zS ?_;intros)
    rename_i R bo g1 g2 g3 g4
    have g4:=g4.trans (by rw[show V.length+v'.length+1 -V.length=v'.length+1 by omega])
    have⟨s1,s2⟩:=Qm6 hI rfl (by omega) v2 lD (by omega) hn2 q1 q2 q3 (by omega) g2 g3 g4
    have hk1:V.length+v'.length+1 -V.length=v'.length+1:=by omega
    rw[hk1] at g1⊢
    refine zB ?_ ?_<;>intro h3
    · repeat(refine zS ?_;intros)
      exact ag3 V.length (V++(R++Z.drop (v'.length+1))) (q::Q) ⟨by omega,by simp [g1];omega,Qdb (fun d hd=>lD d (by simp [hd])) (Qdb g2 fun d hd=>lD d (by simp [List.mem_of_mem_drop hd])),by simp [hQ];omega,QjE lQ q3,s1 (by omega)⟩ (entL (.cons zle .nil) zk (.cons (ob_raw rfl) (.cons (ob_raw rfl) .nil)))
    · have⟨s3,s4⟩:=s2 (by omega)
      have lA: ∀d∈V++(R++Z.drop (v'.length+1)),d<BS:=Qdb (fun d hd=>lD d (by simp [hd])) (Qdb g2 fun d hd=>lD d (by simp [List.mem_of_mem_drop hd]))
      have lz:v'.length+1≤(R++Z.drop (v'.length+1)).length:=by simp [g1]
      repeat(refine zS ?_;intros)
      rename_i R' cr f1 f2 f3
      have f4:(R++Z.drop (v'.length+1)).take (v'.length+1)=R:=by rw[←g1,List.take_left]
      have f5:(R++Z.drop (v'.length+1)).drop (v'.length+1)=Z.drop (v'.length+1):=by rw[←g1,List.drop_left]
      rw[f4] at f3
      rw[f5,e2]
      exact ag3 V.length (V++(R'++Z.drop (v'.length+1))) ((q -1)::Q) ⟨by omega,by simp [f1];omega,Qdb (fun d hd=>lD d (by simp [hd])) (Qdb f2 fun d hd=>lD d (by simp [List.mem_of_mem_drop hd])),by simp [hQ];omega,QjE lQ (by omega),s4 R' cr f1 f2 f3⟩ (entL (.cons zle .nil) zk (.cons (ob_raw QoK) (.cons (ob_raw rfl) .nil)))
  · obtain rfl:k=0:=by omega
    have⟨s1,s2⟩:=QhR.fin (b:=b) hI rfl (by rw[b3];exact v3) rfl
    rw[b3] at s1 s2
    have s3:x/y=val Q:=by rw[s1,Nat.mul_add_div hy,Nat.div_eq_of_lt s2,Nat.add_zero]
    have s4:x % y=val Du/2^r:=by rw[s1,Nat.mul_add_mod,Nat.mod_eq_of_lt s2]
    repeat(refine zS ?_;intros)
    refine AL.ent (entFzS hC (s:=125) (by exact rfl) 0 (by exact rfl) lq (a:=num M (x/y)) (raw_num (by simp;omega) (by simpa using lQ) (by simp [s3]))) ?_
    repeat(refine zS ?_;intros)
    refine AL.ent (entFzS hC (s:=127) (by exact rfl) 0 (by exact rfl) lq (a:=num (M+1) (val Du)) (raw_num (by omega) lD rfl)) ?_
    repeat(refine zS ?_;intros)
    exact aRet2 rfl zv zv hK (le_refl _) (by rw[s4] at hr⊢;exact cn_lt hr)⟩
end Go.Proofs.YtjdpemcnlejpfaaGreatDoor
namespace Go.Proofs.YtjdpemcnlejpfaaGreatDoor
open Go.RowKit Go.Gx Go.Am Tryz
instance Qyc:TK prog 177 (∀{M:Nat}{z:Int},AC prog 177 [] [iv M z] fun K=>K [] [Bo (decide (z=0))]):=⟨fun {M z}=>by
  refine aEnter func177 rfl ntmps177 rfl fun K C hC hK=> ?_
  repeat(refine zS ?_;intros)
  exact aRZ (rs:=[_]) rfl hK⟩
instance QxU:TK prog 142 (∀{M M':Nat}{x y:Int}(_:M≤274877906944)(_:M'≤274877906944)(_:y≠0),AC prog 142 [] [iv M x,iv M' y] fun K=>K [] [it M (x.tdiv y),it M' (x.tmod y),I .i64 0]):=⟨fun {M M' x y} hM hM' hy=>by
  refine aEnter func142 rfl ntmps142 rfl fun K C hC hK=>opI 0 rfl fun b a ha=>opI 1 rfl fun b' a' ha'=> ?_
  have hz:=sg_zero b' a'
  subst ha ha'
  rw[sg_tdiv,sg_tmod] at hK
  repeat(refine zS ?_;intros)
  refine zB ?_ ?_<;>intro h
  · exact absurd h hy
  repeat(refine zS ?_;intros)
  exact aRZ (rs:=[_,_,_]) rfl hK⟩
instance QxL:TK prog 130 (∀{M M':Nat}{x y:Int}(_:M≤274877906944)(_:M'≤274877906944)(_:y≠0),AC prog 130 [] [iv M x,iv M' y] fun K=>(x.tmod y=0→K [] [it M (x.tdiv y),I .i64 0])∧(x.tmod y≠0→K [] [it 0 0,I .i64 3])):=⟨fun {M M' x y} hM hM' hy=>by
  refine aEnter func130 rfl ntmps130 rfl fun K C hC hK=> ?_
  repeat(refine zS ?_;intros)
  refine zB ?_ ?_<;>intro h<;>repeat(refine zS ?_;intros)
  · exact aRZ (rs:=[_,_]) rfl (hK.2 h)
  · exact aRZ (rs:=[_,_]) rfl (hK.1 (by omega))⟩
instance Qyt:TK prog 208 (∀{M M':Nat}{x y:Int}(_:M≤274877906944)(_:M'≤274877906944),AC prog 208 [] [iv M x,iv M' y] fun K=>K [] [Bo (decide (x∣y))]):=⟨fun {M M' x y} hM hM'=>by
  refine aEnter func208 rfl ntmps208 rfl fun K C hC hK=> ?_
  repeat(refine zS ?_;intros)
  refine zB ?_ ?_<;>intro h<;>repeat(refine zS ?_;intros)
  · exact aRet1 rfl zv hK (leB (by subst h;exact Int.zero_dvd.symm))
  · exact aRet1 rfl zv hK (leB (Int.dvd_iff_tmod_eq_zero).symm)⟩
instance QyQ:TK prog 255 (∀{M M':Nat}{x y:Int}(_:M≤274877906944)(_:M'≤274877906944)(_:0<y),AC prog 255 [] [iv M x,iv M' y] fun K=>K [] [it (M+3) (x/y),it M' (x % y),I .i64 0]):=⟨fun {M M' x y} hM hM' hy=>by
  refine aEnter func255 rfl ntmps255 rfl fun K C hC hK=>bdI 1 rfl fun hb=> ?_
  have hr:(x % y).natAbs<BS^M':=by have :=Int.emod_nonneg x (show y≠0 by omega);have :=Int.emod_lt_of_pos x hy;omega
  have ht:x.tmod y<0∧x/y=x.tdiv y -1∧x % y=x.tmod y+y∨0≤x.tmod y∧x/y=x.tdiv y∧x % y=x.tmod y:=by
    have e1:=Int.tmod_add_mul_tdiv x y
    have e2:=Int.emod_add_mul_ediv x y
    have h1:=Int.emod_nonneg x (show y≠0 by omega)
    have h2:=Int.emod_lt_of_pos x hy
    have h3:=Int.tmod_lt_of_pos x hy
    have h4: -y<x.tmod y:=by have :=Int.lt_tmod_of_pos x hy;exact this
    rcases Int.lt_or_le (x.tmod y) 0 with h|h
    · refine .inl ⟨h,?_⟩
      have hq:x/y=x.tdiv y -1:=by
        have :y*(x.tdiv y -1 -x/y)=x % y -(x.tmod y+y):=by rw[Int.mul_sub,Int.mul_sub];omega
        have h5:y*(x.tdiv y -1 -x/y)<y*1:=by omega
        have h6:y*(-1)<y*(x.tdiv y -1 -x/y):=by omega
        have :=Int.lt_of_mul_lt_mul_left h5 (by omega)
        have :=Int.lt_of_mul_lt_mul_left h6 (by omega)
        omega
      exact⟨hq,by rw[hq,Int.mul_sub] at e2;omega⟩
    · refine .inr ⟨h,?_⟩
      have hq:x/y=x.tdiv y:=by
        have :y*(x.tdiv y -x/y)=x % y -x.tmod y:=by rw[Int.mul_sub];omega
        have h5:y*(x.tdiv y -x/y)<y*1:=by omega
        have h6:y*(-1)<y*(x.tdiv y -x/y):=by omega
        have :=Int.lt_of_mul_lt_mul_left h5 (by omega)
        have :=Int.lt_of_mul_lt_mul_left h6 (by omega)
        omega
      exact⟨hq,by rw[hq] at e2;omega⟩
  have hyz:y≠0:=by omega
  repeat(refine zS ?_;intros)
  rename_i ga gb gq gr s s1 s2 s3 s4 s5 t t1 t2 t3 t4 t5
  obtain rfl:t=1:=by omega
  have hs:s= -1∨s=0∨s=1:=by omega
  rcases hs with rfl|rfl|rfl<;>repeat(refine zS ?_;intros)
  all_goals
    refine aDrT [(2,gq)] [0,1,2,3,4] (zS ?_)
    refine adEw (q:=0) (js:=[(2,1)]) (by exact rfl) ye (by exact rfl) zg (by kernel_rfl) zjs1 ?_
    repeat(refine zS ?_;intros)
  · obtain⟨_,e1,e2⟩:x.tmod y<0∧x/y=x.tdiv y -1∧x % y=x.tmod y+y:=by omega
    rw[e1,e2] at hK;rw[e2] at hr
    exact aRet (rs:=[_,_,_]) rfl rfl (List.nil_sublist _) (arW0 zv 1 rfl rfl (by kernel_rfl) (le_itt (by omega)) (arW0 zv 0 rfl rfl (by kernel_rfl) (it_lt hr) zr)) hK
  all_goals
    obtain⟨_,e1,e2⟩:0≤x.tmod y∧x/y=x.tdiv y∧x % y=x.tmod y:=by omega
    rw[e1,e2] at hK;rw[e2] at hr
    exact aRet (rs:=[_,_,_]) rfl rfl (List.nil_sublist _) (arW0 zv 1 rfl rfl (by kernel_rfl) (le_itt (by omega)) (arW0 zv 0 rfl rfl (by kernel_rfl) (it_lt hr) zr)) hK⟩
end Go.Proofs.YtjdpemcnlejpfaaGreatDoor
namespace Go.Proofs.YtjdpemcnlejpfaaGreatDoor
open Go.RowKit Go.Gx Go.Am Tryz
set_option maxHeartbeats 2000000 in
instance QyF:TK prog 231 (∀{M m:Nat}{Mm:Nat}{x:Int}(_:M≤274877906944)(_:Mm≤274877906944)(_:0<m),AC prog 231 [] [iv M x,iv Mm (m:Int)] fun K=>K [] [it Mm (x % (m:Int)),I .i64 0]):=⟨fun {M m Mm x} hM hMm hm=>by
  refine aEnter func231 rfl ntmps231 rfl fun K C hC hK=> ?_
  repeat(refine zS ?_;intros)
  refine aDr1 [8,9,0,1,2,3,4,5,6,7,10,11,12] ?_
  repeat' (first | (refine zR ?_;intros)| (refine adO1 (by exact rfl) (zst ?_);intros)| (refine adO2 (by exact rfl) (zst ?_) (zst ?_)<;>intros)| (refine adO3 (by exact rfl) (zst ?_) (zst ?_) (zst ?_)<;>intros))
  all_goals repeat(refine zS ?_;intros)
  all_goals exact aRZ (rs:=[_,_]) rfl hK⟩
theorem Qua{m:Nat}{z:Int}(h:(m:Int)<z % m*2^1):YY m z=z % m -m:=by unfold YY;rw[if_pos (by omega)]
theorem Qub{m:Nat}{z:Int}(h: ¬(m:Int)<z % m*2^1):YY m z=z % m:=by unfold YY;rw[if_neg (by omega)]
theorem Qt9{m:Nat}{z:Int}(hm:0<m):(YY m z).natAbs≤m:=by have :=QhI hm z;omega
instance Qyo:TK prog 193 (∀{M m:Nat}{Mm:Nat}{x:Int}(_:M≤274877906944)(_:Mm≤274877906944)(_:0<m),AC prog 193 [] [iv M x,iv Mm (m:Int)] fun K=>K [] [it Mm (YY m x),I .i64 0]):=⟨fun {M m Mm x} hM hMm hm=>by
  refine aEnter func193 rfl ntmps193 rfl fun K C hC hK=>bdI 1 rfl fun hb=> ?_
  have hr:(YY m x).natAbs<BS^Mm:=Nat.lt_of_le_of_lt (Qt9 hm) hb
  repeat(refine zS ?_;intros)
  rename_i c c1 c2 c3 c4 c5
  refine zB ?_ ?_<;>intro h<;>repeat(refine zS ?_;intros)
  · exact aRet (rs:=[_,_]) rfl rfl (List.nil_sublist _) (arW0 zv 2 rfl rfl (by kernel_rfl) (by rw[Qua (by simpa using c2.1 h)] at hr⊢;exact it_lt hr) zr) hK
  · exact aRet (rs:=[_,_]) rfl rfl (List.nil_sublist _) (arW0 zv 2 rfl rfl (by kernel_rfl) (by rw[Qub fun h'=>h (c2.2 (by simpa using h'))] at hr⊢;exact it_lt hr) zr) hK⟩
instance QxT:TK prog 141 (∀{M M':Nat}{x y:Int}(_:M≤274877906944)(_:M'≤274877906944),AC prog 141 [] [iv M x,iv M' y] fun K=>K [] [it (max (max M M') 2) (Int.gcd x y)]):=⟨fun {M M' x y} hM hM'=>by
  refine aEnter func141 rfl ntmps141 rfl fun K C hC hK=>opI 0 rfl fun b a ha=>opI 1 rfl fun b' a' ha'=> ?_
  rw[show Int.gcd x y=Nat.gcd a a' by rw[Int.gcd,←ha,←ha',sg_abs,sg_abs],←sg_f] at hK
  repeat(refine zS ?_;intros)
  refine opC 5 rfl fun p p1 p2 p3 p4=>opC 6 rfl fun q q1 q2 q3 q4=> ?_
  refine aL2 [4] (fun p q=>[(5,raw p),(6,raw q)]) (fun _ _=>[.arr 25 1 [Bo false,nilS]]) (fun p q=>p.length≤max M M'∧q.length≤max M M'∧(∀d∈p,d<BS)∧(∀d∈q,d<BS)∧Canon isZ p∧Canon isZ q∧Nat.gcd (val p) (val q)=Nat.gcd a a') (fun _ q=>val q) p q ⟨by omega,by omega,p2,q2,p4,q4,by rw[p3,q3]⟩ (entL (.cons zle (.cons zle .nil)) zk (.cons (ob_refl _) (HLe.none _))) fun p q ⟨p1,q1,p2,q2,p4,q4,hg⟩=> ?_
  repeat(refine zS ?_;intros)
  have hq0:q.length≠0→0<val q:=fun h=>QmC q4 rfl h
  have hq1:q.length=0→val q=0:=(canon_zero q4).1
  have hp64:p.length≤2→val p<18446744073709551616:=fun h=>Nat.lt_of_lt_of_le (Za p p2) (Nat.pow_le_pow_right (n:=BS) (by decide) h)
  have hq64:q.length≤2→val q<18446744073709551616:=fun h=>Nat.lt_of_lt_of_le (Za q q2) (Nat.pow_le_pow_right (n:=BS) (by decide) h)
  refine zB ?_ ?_<;>intro h1<;>repeat(refine zS ?_;intros)
  · refine zB ?_ ?_<;>intro h2<;>repeat(refine zS ?_;intros)
    · rw[hq1 (by omega),Nat.gcd_zero_right] at hg
      rw[←hg] at hK
      exact aRZ (rs:=[_]) rfl hK
    · refine axC 6 rfl fun r r1 r2 r3 r4=> ?_
      exact ag2 q r ⟨q1,by omega,q2,r2,q4,r4,by rw[r3];exact Qju hg⟩ (entL (.cons zle (.cons zle .nil)) zk (.cons (ob_refl _) (HLe.none _))) (by rw[r3];exact Nat.mod_lt _ (hq0 (by omega)))
  refine zB ?_ ?_<;>intro h2<;>repeat(refine zS ?_;intros)
  · refine axC 6 rfl fun r r1 r2 r3 r4=> ?_
    exact ag2 q r ⟨q1,by omega,q2,r2,q4,r4,by rw[r3];exact Qju hg⟩ (entL (.cons zle (.cons zle .nil)) zk (.cons (ob_refl _) (HLe.none _))) (by rw[r3];exact Nat.mod_lt _ (hq0 (by omega)))
  refine aL2 [4] (fun m n=>[(9,I .u64 ((m:Nat):Int)),(11,I .u64 ((n:Nat):Int))]) (fun _ _=>[.arr 25 1 [Bo false,nilS]]) (fun m n=>m<18446744073709551616∧n<18446744073709551616∧Nat.gcd m n=Nat.gcd a a') (fun _ n=>n) (val p) (val q) ⟨hp64 (by omega),hq64 (by omega),hg⟩ (entL (.cons zle (.cons zle .nil)) zk (.cons (ob_refl _) (HLe.none _))) fun m n ⟨hm,hn,hg⟩=> ?_
  repeat(refine zS ?_;intros)
  refine zB ?_ ?_<;>intro h3<;>repeat(refine zS ?_;intros)
  · have :=Nat.mod_lt m (show 0<n by omega)
    exact ag2 n (m % n) ⟨hn,by omega,Qju hg⟩ (entL (.cons zle (.cons zle .nil)) zk (.cons (ob_refl _) (HLe.none _)))
  · obtain rfl:n=0:=by omega
    rw[Nat.gcd_zero_right] at hg
    rw[←hg] at hK
    repeat(refine zS ?_;intros)
    exact aRZ (rs:=[_]) rfl hK⟩
end Go.Proofs.YtjdpemcnlejpfaaGreatDoor
namespace Go.Proofs.YtjdpemcnlejpfaaGreatDoor
open Go.RowKit Go.Gx Go.Am Tryz
def QaX(fs:List (List Int)):Nat:=fs.foldl (fun c f=>Nat.gcd c (Xy f)) 0
theorem Qid: ∀(fs:List (List Int))(c:Nat),fs.foldl (fun c f=>Nat.gcd c (Xy f)) c∣c
  | [],c=>Nat.dvd_refl c
  |f::fs,c=>Nat.dvd_trans (Qid fs (Nat.gcd c (Xy f))) (Nat.gcd_dvd_left ..)
theorem Qga{fs:List (List Int)}{k:Nat}(hk:k<fs.length):QaX (fs.take (k+1))=Nat.gcd (QaX (fs.take k)) (Xy (fs.getD k [])):=by
  unfold QaX
  rw[List.take_succ_eq_append_getElem hk,List.foldl_append]
  simp only[List.getD,List.getElem?_eq_getElem hk,Option.getD_some,List.foldl_cons,List.foldl_nil]
theorem QmS{fs:List (List Int)}{k:Nat}:QaX fs∣QaX (fs.take k):=by
  unfold QaX
  conv=>lhs;rw[←List.take_append_drop k fs,List.foldl_append]
  exact Qid _ _
theorem QlG(F:List Int): ∀k,Xy F∣Xy (F.drop k):=by
  induction F with
  |nil=>intro k;simp
  |cons a F ih=>
    intro k
    cases k with
    |zero=>exact Nat.dvd_refl _
    |succ k=>rw[List.drop_succ_cons,Qbh];exact Nat.dvd_trans (Nat.gcd_dvd_left ..) (ih k)
theorem QmT{fs:List (List Int)}{k i:Nat}(hk:k<fs.length)(h:Nat.gcd (QaX (fs.take k)) (Xy ((fs.getD k []).drop i))=1):QaX fs=1:=by
  have h1:QaX fs∣QaX (fs.take (k+1)):=QmS
  rw[Qga hk] at h1
  have h2:=Nat.dvd_gcd (Nat.dvd_trans h1 (Nat.gcd_dvd_left ..)) (Nat.dvd_trans (Nat.dvd_trans h1 (Nat.gcd_dvd_right ..)) (QlG _ i))
  rw[h] at h2
  exact Nat.dvd_one.1 h2
set_option maxHeartbeats 1000000 in
instance QxM:TK prog 131 (∀{M:Nat}{fs:List (List Int)}(_:M≤274877906944),AC prog 131 [] [sl 1 (fs.map (pv M))] fun K=>K [] [it (max M 2) (QaX fs:Int)]):=⟨fun {M fs} hM=>by
  refine aEnter func131 rfl ntmps131 rfl fun K C hC hK=> ?_
  repeat(refine zS ?_;intros)
  refine aL2 [2,3,4,10,11] (fun k _=>[(12,N k)]) (fun k c=>[.arr 25 1 (itl (max M 2) ((c:Nat):Int)),.arr 25 1 (itl 2 1),.arr 25 1 [Bo false,nilS]]) (fun k c=>k≤fs.length∧c=QaX (fs.take k)) (fun k _=>fs.length -k) 0 0 ⟨by omega,rfl⟩ (entL (.cons zle .nil) zk (.cons (ob_i0 rfl) (.cons (ob_refl _) (.cons (ob_refl _) .nil)))) fun k c ⟨hk,hc⟩=> ?_
  repeat(refine zS ?_;intros)
  refine zB ?_ ?_<;>intro h
  · repeat(refine zS ?_;intros)
    refine aL2 [2,3,4,6,10,11,12] (fun(i:Nat) _=>[(7,I .i64 ((i:Int) -1))]) (fun i g=>[.arr 25 1 (itl (max M 2) ((g:Nat):Int)),.arr 25 1 (itl 2 1),.arr 25 1 [Bo false,nilS]]) (fun i g=>i≤(fs.getD k []).length∧g=Nat.gcd c (Xy ((fs.getD k []).drop i))) (fun i _=>i) (fs.getD k []).length c ⟨by omega,QlH (Nat.le_refl _)⟩ (entL (.cons zle .nil) zk (.cons (ob_refl _) (.cons (ob_refl _) (.cons (ob_refl _) .nil)))) fun i g ⟨hi,hg⟩=> ?_
    repeat(refine zS ?_;intros)
    refine zB ?_ ?_<;>intro h1
    · have hs:=QmU hg (show 0<i by omega) hi rfl rfl
      repeat(refine zS ?_;intros)
      have hgg:Int.gcd (g:Int) ((fs.getD k []).getD (i -1) 0)=Nat.gcd c (Xy ((fs.getD k []).drop (i -1))):=hs
      refine zB ?_ ?_<;>intro h2<;>repeat(refine zS ?_;intros)
      · have h3:QaX fs=1:=QmT (show k<fs.length by omega) (i:=i -1) (by rw[←hc,←hgg];omega)
        exact aRet (rs:=[_]) rfl rfl (List.nil_sublist _) (arW0 zv 2 rfl rfl (by kernel_rfl) (le_ie (by rw[h2,h3];rfl) (by omega)) arN) hK
      · exact ag2 (i -1) _ ⟨by omega,hgg⟩ (entL (.cons zle .nil) zk (.cons (ob_i rfl (by omega)) (.cons (ob_refl _) (.cons (ob_refl _) .nil))))
    · obtain rfl:i=0:=by omega
      rw[List.drop_zero] at hg
      repeat(refine zS ?_;intros)
      exact ag2 (k+1) g ⟨by omega,by rw[hg,hc,Qga (by omega)]⟩ (entL (.cons zle .nil) zk (.cons (ob_refl _) (.cons (ob_refl _) (.cons (ob_refl _) .nil))))
  · obtain rfl:k=fs.length:=by omega
    rw[List.take_length] at hc
    repeat(refine zS ?_;intros)
    exact aRet (rs:=[_]) rfl rfl (List.nil_sublist _) (arW0 zv 2 rfl rfl (by kernel_rfl) (le_ie (by rw[hc]) (Nat.le_refl _)) arN) hK⟩
instance c92:TK prog 92 (∀{M:Nat}{l:List Int}(_:M≤274877906944),AC prog 92 [] [pv M l] fun K=>K [] [it (max M 2) (Xy l:Int)]):=⟨fun {M l} hM=>by
  refine aEnter func92 rfl ntmps92 rfl fun K C hC hK=> ?_
  rw[show Xy l=QaX [l] by show _=Nat.gcd 0 (Xy l);simp] at hK
  repeat(refine zS ?_;intros)
  exact aRZ (rs:=[_]) rfl hK⟩
theorem QqH:(∀{M Mc:Nat}{l:List Int}{c:Int}(_:M≤274877906944)(_:Mc≤274877906944)(_:l.length≤1099511627776)(_:c≠0∨Xa l=[]),AC prog 116 [] [pv M l,iv Mc c] fun K=> ∀g,K [(some g,.arr 25 2 (((Xa l).map (Int.tdiv · c)).map (it M)))] [lsl 2 g 0 (Xa l).length (Xa l).length]):=fun {M Mc l c} hM hMc hl h0=>by
  refine aEnter func116 rfl ntmps116 rfl fun K C hC hK=> ?_
  have h1:=Xe l
  have own:=QaG (M:=M) (l:=l) (by omega) (by omega)
  iterate 9 (refine zS ?_;intros)
  refine alO (zcallX own) zg fun g=> ?_
  repeat(refine zS ?_;intros)
  generalize Xa l=F at *
  refine aL2 [3,5,10] (fun k _=>[(11,N k)]) (fun k P=>[.arr 25 2 ((P++F.drop k).map (it M)),.arr 25 2 [iv Mc c]]) (fun k P=>k≤F.length∧P=(F.take k).map (Int.tdiv · c)) (fun k _=>F.length -k) 0 [] ⟨by omega,rfl⟩ (entL (.cons zle .nil) zk (.cons (ob_it (by simp) (by omega)) (.cons (ob_refl _) .nil))) fun k P ⟨hk,hP⟩=> ?_
  have hP1:P.length=k:=by rw[hP,List.length_map,List.length_take];omega
  repeat(refine zS ?_;intros)
  refine zB ?_ ?_<;>intro h
  · have hk1:k<F.length:=by omega
    have hg:(P++F.drop k).getD k 0=F.getD k 0:=by simp [List.getD,List.getElem?_append_right,hP1]
    have hs:P++[(F.getD k 0).tdiv c]=(F.take (k+1)).map (Int.tdiv · c):=by rw[hP];exact Qdq hk1
    have hst:(P++F.drop k).set k ((F.getD k 0).tdiv c)=(P++[(F.getD k 0).tdiv c])++F.drop (k+1):=by
      rw[List.set_append_right _ _ (by omega),hP1,Nat.sub_self,List.drop_eq_getElem_cons hk1,List.set_cons_zero,List.append_assoc];rfl
    have hc0:c≠0:=h0.resolve_right (by intro e;rw[e] at hk1;simp at hk1)
    have hlen:k<(P++F.drop k).length:=by simp [hP1];omega
    repeat(refine zS ?_;intros)
    exact ag2 (k+1) _ ⟨by omega,hs⟩ (entL (.cons zle .nil) zk (.cons (ob_it (by rw[hg];exact hst) (by omega)) (.cons (ob_refl _) .nil)))
  · obtain rfl:k=F.length:=by omega
    repeat(refine zS ?_;intros)
    refine AX.ent (entH (.cons (ob_it (show _=F.map (Int.tdiv · c) by rw[hP,List.drop_length,List.append_nil,List.take_length]) (Nat.le_refl _)) (HLe.none _))) ?_
    exact aRet (rs:=[_]) rfl rfl (.refl _) zr (hK _)
instance Qxz:TK prog 116 (∀{M Mc:Nat}{l:List Int}{c:Int}(_:M≤274877906944)(_:Mc≤274877906944)(_:l.length≤1099511627776)(_:c≠0∨Xa l=[]),AC prog 116 [] [pv M l,iv Mc c] fun K=>K [] [pc M ((Xa l).map (Int.tdiv · c))]):=⟨fun hM hMc hl h0=>ac_fz (le_refl _) (by have :=QqH hM hMc hl h0;simpa only[List.length_map] using this)⟩
end Go.Proofs.YtjdpemcnlejpfaaGreatDoor
namespace Go.Proofs.YtjdpemcnlejpfaaGreatDoor
open Go.RowKit Go.Gx Go.Am Tryz
instance c66:TK prog 66 (∀{M:Nat}{l:List Int}(_:M≤27487790694)(_:l.length≤1099511627776),AC prog 66 [] [pv M l] fun K=>K [] [pc M (Xr l)]):=⟨fun {M l} hM hl=>by
  refine aEnter func66 rfl ntmps66 rfl fun K C hC hK=> ?_
  have hc:ldP l≠0→(Xy l:Int)≠0:=fun h=>by have :=Qc2 h;omega
  repeat(refine zS ?_;intros)
  rename_i s s1 s2 s3 s4 s5
  refine zB ?_ ?_<;>intro h<;>repeat(refine zS ?_;intros)
  · exact aRet1 rfl zv hK (by rw[←Qgt (s1.1 h)];exact le_p0)
  refine zB ?_ ?_<;>intro h'<;>repeat(refine zS ?_;intros)
  · have h0:=hc (by omega)
    have e:Yc l= -(Xy l:Int):=by unfold Yc;rw[if_pos (by omega)]
    have h2: -(Xy l:Int)≠0∨Xa l=[]:= .inl (by omega)
    repeat(refine zS ?_;intros)
    exact aRet1 rfl zv hK (by unfold Xr;rw[e];exact le_refl _)
  · have h0:=hc (by omega)
    have e:Yc l=(Xy l:Int):=by unfold Yc;rw[if_neg (by omega)]
    have h2:(Xy l:Int)≠0∨Xa l=[]:= .inl h0
    repeat(refine zS ?_;intros)
    exact aRet1 rfl zv hK (by unfold Xr;rw[e];exact le_refl _)⟩
instance QxZ:TK prog 147 (∀{M:Nat}{l:List Int}(_:M≤27487790694)(_:l.length≤1099511627776),AC prog 147 [] [pv M l] fun K=>K [] [pc M (if ldP l<0 then Xa (Xf l (-1)) else Xa l)]):=⟨fun {M l} hM hl=>by
  refine aEnter func147 rfl ntmps147 rfl fun K C hC hK=> ?_
  repeat(refine zS ?_;intros)
  rename_i s s1 s2 s3 s4 s5
  refine zB ?_ ?_<;>intro h<;>repeat(refine zS ?_;intros)
  · rw[if_pos (by omega)] at hK
    exact aRet1 rfl zv hK (le_refl _)
  · rw[if_neg (by omega)] at hK
    exact aRet1 rfl zv hK (le_refl _)⟩
end Go.Proofs.YtjdpemcnlejpfaaGreatDoor
