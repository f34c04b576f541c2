/-
  D2, D3, D4, U1, U2, U3
-/
import Derived.Test.YtjdpemcnlejpfaaGreatDoorN3
import Derived.Test.YtjdpemcnlejpfaaGreatDoorAmD
import Derived.Test.YtjdpemcnlejpfaaGreatDoorModDiv
import Derived.Test.YtjdpemcnlejpfaaGreatDoorAmP
set_option linter.all false
namespace Go.Proofs.YtjdpemcnlejpfaaGreatDoor
open Go.RowKit Go.Gx Go.Am Tryz
set_option maxHeartbeats 2000000 in
instance Qyp:TK prog 202 (∀{M M' x y:Nat}(_:M≤274877906944)(_:M'≤274877906944)(_:0<y),AC prog 202 [] [num M x,num M' y] fun K=>K [] [cnum M (x/y),cnum M' (x % y)]):=⟨fun {M M' x y} hM hM' hy=>by
  refine aEnter func202 rfl ntmps202 rfl fun K C hC hK=>bdN 0 rfl fun hx=>bdN 1 rfl fun hyb=> ?_
  have hq:x/y<BS^M:=Nat.lt_of_le_of_lt (Nat.div_le_self _ _) hx
  have hm:=Nat.mod_lt x hy
  have hr:x % y<BS^M':=Nat.lt_trans hm hyb
  repeat(refine zS ?_;intros)
  rename_i c c1 c2 c3 c4
  refine opC 1 rfl fun b b1 b2 b3 b4=> ?_
  refine zB ?_ ?_<;>intro h<;>repeat(refine zS ?_;intros)
  · refine aRet2 rfl zv zv hK ?_ ?_
    · rw[Nat.div_eq_of_lt (by omega)];exact nil_cn
    · rw[Nat.mod_eq_of_lt (by omega)] at hr⊢;exact cn_lt hr
  have hb0:b.length≠0:=fun h0=>by have :=(canon_zero b4).1 h0;omega
  refine zB ?_ ?_<;>intro h1
  · have hd1:val b=b.getD 0 0:=(Qw9 (d:=b) rfl).2.1 (by omega)
    have hd2:=dlt (i:=0) b2
    rw[←b3,hd1] at hq hr hK
    have :=Nat.mod_lt x (show 0<b.getD 0 0 by omega)
    repeat(refine zS ?_;intros)
    exact aRet2 rfl zv zv hK (cn_lt hq) (cn_lt hr)
  have htop:b.getD (b.length -1) 0≠0:=QmD b4 rfl hb0
  have htl:=dlt (i:=b.length -1) b2
  repeat(refine zS ?_;intros)
  rename_i r r1 r2 r3
  refine alC 49 rfl fun v v1 v2 v3 v4=> ?_
  rw[b3] at v3
  have hnl:=QqC b2 rfl (by omega) r1 r2 r3 (by rw[b3];exact v3) v2 v4
  repeat(refine zS ?_;intros)
  refine alC 52 rfl fun a a1 a2 a3 a4=> ?_
  repeat(refine zS ?_;intros)
  refine alC 59 rfl fun u u1 u2 u3 u4=> ?_
  have hul:=Qbm u4 (QtU a2 rfl a3 u3 r3)
  have hab:b.length≤a.length:=Qd5 a2 b4 (by omega)
  have e0:(List.replicate (a.length+1) 0).take 0++(u++(List.replicate (a.length+1) 0).drop (0+u.length))=u++List.replicate (a.length+1 -u.length) 0:=by simp
  repeat(refine zS ?_;intros)
  refine opC 10 rfl fun v' p1 p2 p3 p4=> ?_
  obtain rfl:v'=v:=QgN p2 v2 p4 v4 (by rw[p3,v3,b3])
  clear p1 p2 p3 p4
  refine aL3 [4,9,10,11,12] (fun(k:Nat) _ _=>[(13,I .i64 ((k:Int) -1))]) (fun k Du Q=>[.arr 46 1 ((List.replicate k 0++Q).map U),.arr 46 1 (Du.map U)]) (fun k Du Q=>k≤a.length+1 -v'.length∧Du.length=a.length+1∧(∀d∈Du,d<BS)∧Q.length=a.length+1 -v'.length -k∧(∀d∈Q,d<BS)∧QhR Du v' Q k (x*2^r)) (fun k _ _=>k) (a.length+1 -v'.length) (u++List.replicate (a.length+1 -u.length) 0) [] ⟨by omega,by simp;omega,QcK u2,by simp,by simp,QhR.start (m:=a.length+1) (n:=v'.length) (s:=r) (va:=x) (by rw[Qco,u3]) rfl (by rw[←a3];exact Za _ a2) r3 (by have h:=QvZ (d:=v') rfl (by omega);have h2:BS^ (v'.length -1)*2147483648≤BS^ (v'.length -1)*v'.getD (v'.length -1) 0:=Nat.mul_le_mul_left _ (by rw[hnl.1];exact hnl.2);omega) (by omega) rfl (by omega)⟩ (entL (.cons zle .nil) zk (.cons (ob_raw (by simp)) (.cons (ob_raw e0) .nil))) fun k Du Q ⟨hk,hD,lD,hQ,lQ,hI⟩=> ?_
  repeat(refine zS ?_;intros)
  refine zB ?_ ?_<;>intro h2
  · obtain⟨V,Z,rfl,rfl⟩: ∃V Z,Du=V++Z∧k=V.length+1:=⟨Du.take (k -1),Du.drop (k -1),(List.take_append_drop ..).symm,by simp;omega⟩
    rw[List.length_append] at hD
    refine AW.ent (entSub (s:=13) (a:=N V.length) leI) ?_
    have hle:=QsT hI rfl (by omega) v2 lD (by omega)
    have hn2:2147483648≤v'.getD (v'.length -1) 0:=by rw[hnl.1];exact hnl.2
    have hd1:=dlt (i:=V.length+v'.length) lD
    have hd2:=dlt (i:=V.length+(v'.length -1)) lD
    have hd3:=dlt (i:=V.length+(v'.length -2)) lD
    have hd4:=dlt (i:=v'.length -1) v2
    have hd5:=dlt (i:=v'.length -2) v2
    repeat(refine zS ?_;intros)
    rename_i q q1 q2 q3
    have e1:(List.replicate (V.length+1) 0++Q).set V.length q=List.replicate V.length 0++(q::Q):=Qk5 rfl rfl
    have e2:(List.replicate V.length 0++(q::Q)).getD V.length 0=q:=Qq0
    refine AL.ent (entSub (s:=113) (a:=U q) (.of_eq (congrArg U (by rw[e1,e2])))) (AL.ent (entH (.cons (ob_raw e1) (.cons (ob_raw rfl) .nil))) ?_)
    repeat(refine zS ?_;intros)
    rename_i R bo g1 g2 g3 g4
    have g4:=g4.trans (by rw[show V.length+v'.length+1 -V.length=v'.length+1 by omega])
    have⟨s1,s2⟩:=Qm6 hI rfl (by omega) v2 lD (by omega) hn2 q1 q2 q3 (by omega) g2 g3 g4
    have hk1:V.length+v'.length+1 -V.length=v'.length+1:=by omega
    rw[hk1] at g1⊢
    refine zB ?_ ?_<;>intro h3
    · repeat(refine zS ?_;intros)
      exact ag3 V.length (V++(R++Z.drop (v'.length+1))) (q::Q) ⟨by omega,by simp [g1];omega,Qdb (fun d hd=>lD d (by simp [hd])) (Qdb g2 fun d hd=>lD d (by simp [List.mem_of_mem_drop hd])),by simp [hQ];omega,QjE lQ q3,s1 (by omega)⟩ (entL (.cons zle .nil) zk (.cons (ob_raw rfl) (.cons (ob_raw rfl) .nil)))
    · have⟨s3,s4⟩:=s2 (by omega)
      have lA: ∀d∈V++(R++Z.drop (v'.length+1)),d<BS:=Qdb (fun d hd=>lD d (by simp [hd])) (Qdb g2 fun d hd=>lD d (by simp [List.mem_of_mem_drop hd]))
      have lz:v'.length+1≤(R++Z.drop (v'.length+1)).length:=by simp [g1]
      repeat(refine zS ?_;intros)
      rename_i R' cr f1 f2 f3
      have f4:(R++Z.drop (v'.length+1)).take (v'.length+1)=R:=by rw[←g1,List.take_left]
      have f5:(R++Z.drop (v'.length+1)).drop (v'.length+1)=Z.drop (v'.length+1):=by rw[←g1,List.drop_left]
      rw[f4] at f3
      rw[f5,e2]
      exact ag3 V.length (V++(R'++Z.drop (v'.length+1))) ((q -1)::Q) ⟨by omega,by simp [f1];omega,Qdb (fun d hd=>lD d (by simp [hd])) (Qdb f2 fun d hd=>lD d (by simp [List.mem_of_mem_drop hd])),by simp [hQ];omega,QjE lQ (by omega),s4 R' cr f1 f2 f3⟩ (entL (.cons zle .nil) zk (.cons (ob_raw QoK) (.cons (ob_raw rfl) .nil)))
  · obtain rfl:k=0:=by omega
    have⟨s1,s2⟩:=QhR.fin (b:=b) hI rfl (by rw[b3];exact v3) rfl
    rw[b3] at s1 s2
    have s3:x/y=val Q:=by rw[s1,Nat.mul_add_div hy,Nat.div_eq_of_lt s2,Nat.add_zero]
    have s4:x % y=val Du/2^r:=by rw[s1,Nat.mul_add_mod,Nat.mod_eq_of_lt s2]
    repeat(refine zS ?_;intros)
    refine AL.ent (entFzS hC (s:=125) (by exact rfl) 0 (by exact rfl) lq (a:=num M (x/y)) (raw_num (by simp;omega) (by simpa using lQ) (by simp [s3]))) ?_
    repeat(refine zS ?_;intros)
    refine AL.ent (entFzS hC (s:=127) (by exact rfl) 0 (by exact rfl) lq (a:=num (M+1) (val Du)) (raw_num (by omega) lD rfl)) ?_
    repeat(refine zS ?_;intros)
    exact aRet2 rfl zv zv hK (le_refl _) (by rw[s4] at hr⊢;exact cn_lt hr)⟩
end Go.Proofs.YtjdpemcnlejpfaaGreatDoor
namespace Go.Proofs.YtjdpemcnlejpfaaGreatDoor
open Go.RowKit Go.Gx Go.Am Tryz
instance Qyc:TK prog 177 (∀{M:Nat}{z:Int},AC prog 177 [] [iv M z] fun K=>K [] [Bo (decide (z=0))]):=⟨fun {M z}=>by
  refine aEnter func177 rfl ntmps177 rfl fun K C hC hK=> ?_
  repeat(refine zS ?_;intros)
  exact aRZ (rs:=[_]) rfl hK⟩
instance QxU:TK prog 142 (∀{M M':Nat}{x y:Int}(_:M≤274877906944)(_:M'≤274877906944)(_:y≠0),AC prog 142 [] [iv M x,iv M' y] fun K=>K [] [it M (x.tdiv y),it M' (x.tmod y),I .i64 0]):=⟨fun {M M' x y} hM hM' hy=>by
  refine aEnter func142 rfl ntmps142 rfl fun K C hC hK=>opI 0 rfl fun b a ha=>opI 1 rfl fun b' a' ha'=> ?_
  have hz:=sg_zero b' a'
  subst ha ha'
  rw[sg_tdiv,sg_tmod] at hK
  repeat(refine zS ?_;intros)
  refine zB ?_ ?_<;>intro h
  · exact absurd h hy
  repeat(refine zS ?_;intros)
  exact aRZ (rs:=[_,_,_]) rfl hK⟩
instance QxL:TK prog 130 (∀{M M':Nat}{x y:Int}(_:M≤274877906944)(_:M'≤274877906944)(_:y≠0),AC prog 130 [] [iv M x,iv M' y] fun K=>(x.tmod y=0→K [] [it M (x.tdiv y),I .i64 0])∧(x.tmod y≠0→K [] [it 0 0,I .i64 3])):=⟨fun {M M' x y} hM hM' hy=>by
  refine aEnter func130 rfl ntmps130 rfl fun K C hC hK=> ?_
  repeat(refine zS ?_;intros)
  refine zB ?_ ?_<;>intro h<;>repeat(refine zS ?_;intros)
  · exact aRZ (rs:=[_,_]) rfl (hK.2 h)
  · exact aRZ (rs:=[_,_]) rfl (hK.1 (by omega))⟩
instance Qyt:TK prog 208 (∀{M M':Nat}{x y:Int}(_:M≤274877906944)(_:M'≤274877906944),AC prog 208 [] [iv M x,iv M' y] fun K=>K [] [Bo (decide (x∣y))]):=⟨fun {M M' x y} hM hM'=>by
  refine aEnter func208 rfl ntmps208 rfl fun K C hC hK=> ?_
  repeat(refine zS ?_;intros)
  refine zB ?_ ?_<;>intro h<;>repeat(refine zS ?_;intros)
  · exact aRet1 rfl zv hK (leB (by subst h;exact Int.zero_dvd.symm))
  · exact aRet1 rfl zv hK (leB (Int.dvd_iff_tmod_eq_zero).symm)⟩
instance QyQ:TK prog 255 (∀{M M':Nat}{x y:Int}(_:M≤274877906944)(_:M'≤274877906944)(_:0<y),AC prog 255 [] [iv M x,iv M' y] fun K=>K [] [it (M+3) (x/y),it M' (x % y),I .i64 0]):=⟨fun {M M' x y} hM hM' hy=>by
  refine aEnter func255 rfl ntmps255 rfl fun K C hC hK=>bdI 1 rfl fun hb=> ?_
  have hr:(x % y).natAbs<BS^M':=by have :=Int.emod_nonneg x (show y≠0 by omega);have :=Int.emod_lt_of_pos x hy;omega
  have ht:x.tmod y<0∧x/y=x.tdiv y -1∧x % y=x.tmod y+y∨0≤x.tmod y∧x/y=x.tdiv y∧x % y=x.tmod y:=by
    have e1:=Int.tmod_add_mul_tdiv x y
    have e2:=Int.emod_add_mul_ediv x y
    have h1:=Int.emod_nonneg x (show y≠0 by omega)
    have h2:=Int.emod_lt_of_pos x hy
    have h3:=Int.tmod_lt_of_pos x hy
    have h4: -y<x.tmod y:=by have :=Int.lt_tmod_of_pos x hy;exact this
    rcases Int.lt_or_le (x.tmod y) 0 with h|h
    · refine .inl ⟨h,?_⟩
      have hq:x/y=x.tdiv y -1:=by
        have :y*(x.tdiv y -1 -x/y)=x % y -(x.tmod y+y):=by rw[Int.mul_sub,Int.mul_sub];omega
        have h5:y*(x.tdiv y -1 -x/y)<y*1:=by omega
        have h6:y*(-1)<y*(x.tdiv y -1 -x/y):=by omega
        have :=Int.lt_of_mul_lt_mul_left h5 (by omega)
        have :=Int.lt_of_mul_lt_mul_left h6 (by omega)
        omega
      exact⟨hq,by rw[hq,Int.mul_sub] at e2;omega⟩
    · refine .inr ⟨h,?_⟩
      have hq:x/y=x.tdiv y:=by
        have :y*(x.tdiv y -x/y)=x % y -x.tmod y:=by rw[Int.mul_sub];omega
        have h5:y*(x.tdiv y -x/y)<y*1:=by omega
        have h6:y*(-1)<y*(x.tdiv y -x/y):=by omega
        have :=Int.lt_of_mul_lt_mul_left h5 (by omega)
        have :=Int.lt_of_mul_lt_mul_left h6 (by omega)
        omega
      exact⟨hq,by rw[hq] at e2;omega⟩
  have hyz:y≠0:=by omega
  repeat(refine zS ?_;intros)
  rename_i ga gb gq gr s s1 s2 s3 s4 s5 t t1 t2 t3 t4 t5
  obtain rfl:t=1:=by omega
  have hs:s= -1∨s=0∨s=1:=by omega
  rcases hs with rfl|rfl|rfl<;>repeat(refine zS ?_;intros)
  all_goals
    refine aDrT [(2,gq)] [0,1,2,3,4] (zS ?_)
    refine adEw (q:=0) (js:=[(2,1)]) (by exact rfl) ye (by exact rfl) zg (by kernel_rfl) zjs1 ?_
    repeat(refine zS ?_;intros)
  · obtain⟨_,e1,e2⟩:x.tmod y<0∧x/y=x.tdiv y -1∧x % y=x.tmod y+y:=by omega
    rw[e1,e2] at hK;rw[e2] at hr
    exact aRet (rs:=[_,_,_]) rfl rfl (List.nil_sublist _) (arW0 zv 1 rfl rfl (by kernel_rfl) (le_itt (by omega)) (arW0 zv 0 rfl rfl (by kernel_rfl) (it_lt hr) zr)) hK
  all_goals
    obtain⟨_,e1,e2⟩:0≤x.tmod y∧x/y=x.tdiv y∧x % y=x.tmod y:=by omega
    rw[e1,e2] at hK;rw[e2] at hr
    exact aRet (rs:=[_,_,_]) rfl rfl (List.nil_sublist _) (arW0 zv 1 rfl rfl (by kernel_rfl) (le_itt (by omega)) (arW0 zv 0 rfl rfl (by kernel_rfl) (it_lt hr) zr)) hK⟩
end Go.Proofs.YtjdpemcnlejpfaaGreatDoor
namespace Go.Proofs.YtjdpemcnlejpfaaGreatDoor
open Go.RowKit Go.Gx Go.Am Tryz
set_option maxHeartbeats 2000000 in
instance QyF:TK prog 231 (∀{M m:Nat}{Mm:Nat}{x:Int}(_:M≤274877906944)(_:Mm≤274877906944)(_:0<m),AC prog 231 [] [iv M x,iv Mm (m:Int)] fun K=>K [] [it Mm (x % (m:Int)),I .i64 0]):=⟨fun {M m Mm x} hM hMm hm=>by
  refine aEnter func231 rfl ntmps231 rfl fun K C hC hK=> ?_
  repeat(refine zS ?_;intros)
  refine aDr1 [8,9,0,1,2,3,4,5,6,7,10,11,12] ?_
  repeat' (first | (refine zR ?_;intros)| (refine adO1 (by exact rfl) (zst ?_);intros)| (refine adO2 (by exact rfl) (zst ?_) (zst ?_)<;>intros)| (refine adO3 (by exact rfl) (zst ?_) (zst ?_) (zst ?_)<;>intros))
  all_goals repeat(refine zS ?_;intros)
  all_goals exact aRZ (rs:=[_,_]) rfl hK⟩
theorem Qua{m:Nat}{z:Int}(h:(m:Int)<z % m*2^1):YY m z=z % m -m:=by unfold YY;rw[if_pos (by omega)]
theorem Qub{m:Nat}{z:Int}(h: ¬(m:Int)<z % m*2^1):YY m z=z % m:=by unfold YY;rw[if_neg (by omega)]
theorem Qt9{m:Nat}{z:Int}(hm:0<m):(YY m z).natAbs≤m:=by have :=QhI hm z;omega
instance Qyo:TK prog 193 (∀{M m:Nat}{Mm:Nat}{x:Int}(_:M≤274877906944)(_:Mm≤274877906944)(_:0<m),AC prog 193 [] [iv M x,iv Mm (m:Int)] fun K=>K [] [it Mm (YY m x),I .i64 0]):=⟨fun {M m Mm x} hM hMm hm=>by
  refine aEnter func193 rfl ntmps193 rfl fun K C hC hK=>bdI 1 rfl fun hb=> ?_
  have hr:(YY m x).natAbs<BS^Mm:=Nat.lt_of_le_of_lt (Qt9 hm) hb
  repeat(refine zS ?_;intros)
  rename_i c c1 c2 c3 c4 c5
  refine zB ?_ ?_<;>intro h<;>repeat(refine zS ?_;intros)
  · exact aRet (rs:=[_,_]) rfl rfl (List.nil_sublist _) (arW0 zv 2 rfl rfl (by kernel_rfl) (by rw[Qua (by simpa using c2.1 h)] at hr⊢;exact it_lt hr) zr) hK
  · exact aRet (rs:=[_,_]) rfl rfl (List.nil_sublist _) (arW0 zv 2 rfl rfl (by kernel_rfl) (by rw[Qub fun h'=>h (c2.2 (by simpa using h'))] at hr⊢;exact it_lt hr) zr) hK⟩
instance QxT:TK prog 141 (∀{M M':Nat}{x y:Int}(_:M≤274877906944)(_:M'≤274877906944),AC prog 141 [] [iv M x,iv M' y] fun K=>K [] [it (max (max M M') 2) (Int.gcd x y)]):=⟨fun {M M' x y} hM hM'=>by
  refine aEnter func141 rfl ntmps141 rfl fun K C hC hK=>opI 0 rfl fun b a ha=>opI 1 rfl fun b' a' ha'=> ?_
  rw[show Int.gcd x y=Nat.gcd a a' by rw[Int.gcd,←ha,←ha',sg_abs,sg_abs],←sg_f] at hK
  repeat(refine zS ?_;intros)
  refine opC 5 rfl fun p p1 p2 p3 p4=>opC 6 rfl fun q q1 q2 q3 q4=> ?_
  refine aL2 [4] (fun p q=>[(5,raw p),(6,raw q)]) (fun _ _=>[.arr 25 1 [Bo false,nilS]]) (fun p q=>p.length≤max M M'∧q.length≤max M M'∧(∀d∈p,d<BS)∧(∀d∈q,d<BS)∧Canon isZ p∧Canon isZ q∧Nat.gcd (val p) (val q)=Nat.gcd a a') (fun _ q=>val q) p q ⟨by omega,by omega,p2,q2,p4,q4,by rw[p3,q3]⟩ (entL (.cons zle (.cons zle .nil)) zk (.cons (ob_refl _) (HLe.none _))) fun p q ⟨p1,q1,p2,q2,p4,q4,hg⟩=> ?_
  repeat(refine zS ?_;intros)
  have hq0:q.length≠0→0<val q:=fun h=>QmC q4 rfl h
  have hq1:q.length=0→val q=0:=(canon_zero q4).1
  have hp64:p.length≤2→val p<18446744073709551616:=fun h=>Nat.lt_of_lt_of_le (Za p p2) (Nat.pow_le_pow_right (n:=BS) (by decide) h)
  have hq64:q.length≤2→val q<18446744073709551616:=fun h=>Nat.lt_of_lt_of_le (Za q q2) (Nat.pow_le_pow_right (n:=BS) (by decide) h)
  refine zB ?_ ?_<;>intro h1<;>repeat(refine zS ?_;intros)
  · refine zB ?_ ?_<;>intro h2<;>repeat(refine zS ?_;intros)
    · rw[hq1 (by omega),Nat.gcd_zero_right] at hg
      rw[←hg] at hK
      exact aRZ (rs:=[_]) rfl hK
    · refine axC 6 rfl fun r r1 r2 r3 r4=> ?_
      exact ag2 q r ⟨q1,by omega,q2,r2,q4,r4,by rw[r3];exact Qju hg⟩ (entL (.cons zle (.cons zle .nil)) zk (.cons (ob_refl _) (HLe.none _))) (by rw[r3];exact Nat.mod_lt _ (hq0 (by omega)))
  refine zB ?_ ?_<;>intro h2<;>repeat(refine zS ?_;intros)
  · refine axC 6 rfl fun r r1 r2 r3 r4=> ?_
    exact ag2 q r ⟨q1,by omega,q2,r2,q4,r4,by rw[r3];exact Qju hg⟩ (entL (.cons zle (.cons zle .nil)) zk (.cons (ob_refl _) (HLe.none _))) (by rw[r3];exact Nat.mod_lt _ (hq0 (by omega)))
  refine aL2 [4] (fun m n=>[(9,I .u64 ((m:Nat):Int)),(11,I .u64 ((n:Nat):Int))]) (fun _ _=>[.arr 25 1 [Bo false,nilS]]) (fun m n=>m<18446744073709551616∧n<18446744073709551616∧Nat.gcd m n=Nat.gcd a a') (fun _ n=>n) (val p) (val q) ⟨hp64 (by omega),hq64 (by omega),hg⟩ (entL (.cons zle (.cons zle .nil)) zk (.cons (ob_refl _) (HLe.none _))) fun m n ⟨hm,hn,hg⟩=> ?_
  repeat(refine zS ?_;intros)
  refine zB ?_ ?_<;>intro h3<;>repeat(refine zS ?_;intros)
  · have :=Nat.mod_lt m (show 0<n by omega)
    exact ag2 n (m % n) ⟨hn,by omega,Qju hg⟩ (entL (.cons zle (.cons zle .nil)) zk (.cons (ob_refl _) (HLe.none _)))
  · obtain rfl:n=0:=by omega
    rw[Nat.gcd_zero_right] at hg
    rw[←hg] at hK
    repeat(refine zS ?_;intros)
    exact aRZ (rs:=[_]) rfl hK⟩
end Go.Proofs.YtjdpemcnlejpfaaGreatDoor
namespace Go.Proofs.YtjdpemcnlejpfaaGreatDoor
open Go.RowKit Go.Gx Go.Am Tryz
instance c53:TK prog 53 (∀{M:Nat}{l:List Int}{f:Int→AV}(_:f=it M∨f=iv M),AC prog 53 [] [sl 2 (l.map f)] fun K=>K [] [sl 2 ((Xa l).map f)]):=⟨fun {M l f} hf=>by
  rcases hf with rfl|rfl<;>(
    refine aEnter func53 rfl ntmps53 rfl fun K C hC hK=> ?_
    repeat(refine zS ?_;intros)
    refine aL1 [0] (fun k=>[(3,N k)]) (fun _=>[]) (fun k=>k≤l.length∧ ∀j,k≤j→l.getD j 0=0) (fun k=>k) l.length ⟨Nat.le_refl _,QcS (Nat.le_refl _)⟩ (entL (.cons zle .nil) zk .nil) fun k ⟨hk,hz⟩=> ?_
    repeat(refine zS ?_;intros)
    refine zB ?_ ?_<;>intro h
    · repeat(refine zS ?_;intros)
      refine zB ?_ ?_<;>intro h1
      · repeat(refine zS ?_;intros)
        exact ag1 (k -1) ⟨by omega,fun j hj=>by rcases Nat.lt_or_ge j k with h2|h2;(obtain rfl:j=k -1:=by omega);omega;exact hz j h2⟩ (entL (.cons zle .nil) zk .nil)
      · repeat(refine zS ?_;intros)
        exact aRet1 rfl zv hK (.of_eq (by rw[Qlq hk hz (.inr (by omega))]))
    · repeat(refine zS ?_;intros)
      exact aRet1 rfl zv hK (.of_eq (by rw[Qlq hk hz (.inl (by omega))])))⟩
instance c55:TK prog 55 (∀{M Mc:Nat}{z c:Int}(_:M+Mc≤1099511627776),AC prog 55 [] [iv M z,ep (iv Mc c)] fun K=>K [] [it (Mc+M) (c*z)]):=⟨fun {M Mc z c} hM=>by
  refine aEnter func55 rfl ntmps55 rfl fun K C hC hK=> ?_
  repeat(refine zS ?_;intros)
  exact aRZ (rs:=[_]) rfl hK⟩
theorem Qdi:(∀{M Mc:Nat}{l:List Int}{f:FuncId}{cs:List AV}{c:Int}(_:f=84∧cs=[]∧c=1∧Mc=0∨f=100∧cs=[]∧c= -1∧Mc=0∨f=55∧cs=[ep (iv Mc c)])(_:M+Mc≤1099511627776)(_:l.length≤1099511627776),AC prog 54 [] [pv M l,fnv f cs] fun K=> ∀g,K [(some g,.arr 25 2 ((Xf l c).map (it (M+Mc))))] [lsl 2 g 0 l.length l.length]):=fun {M Mc l f cs c} hf hM hl=>by
  rcases hf with⟨rfl,rfl,hc,-⟩| ⟨rfl,rfl,hc,-⟩| ⟨rfl,rfl⟩
  all_goals
    refine aEnter func54 rfl ntmps54 rfl fun K C hC hK=> ?_
    repeat(refine zS ?_;intros)
    refine aL2 [1,5,11,12] (fun k _=>[(13,N k)]) (fun k P=>[.arr 25 2 ((P++List.replicate (l.length -k) 0).map (it (M+Mc)))]) (fun k P=>k≤l.length∧P=Xf (l.take k) c) (fun k _=>l.length -k) 0 [] ⟨by omega,rfl⟩ (entL (.cons zle .nil) zk (.cons (ob_it (by simp) (by omega)) .nil)) fun k P ⟨hk,hP⟩=> ?_
    have hP1:P.length=k:=by rw[hP,QiO,List.length_take];omega
    repeat(refine zS ?_;intros)
    refine zB ?_ ?_<;>intro h
    · have hs:=Qme (z:=l.getD k 0*c) hP (show k<l.length by omega) rfl
      repeat(refine zS ?_;intros)
      exact ag2 (k+1) (P++[l.getD k 0*c]) ⟨by omega,hs⟩ (entL (.cons zle .nil) zk (.drop (.cons (ob_it (by rw[QfT hP1 (m':=l.length -(k+1)) (by omega)];congr 3;first | exact Int.mul_comm .. | (rw[hc];first | exact(Int.mul_one _).symm| exact(Int.mul_neg_one _).symm)) (by omega)) .nil)))
    · obtain rfl:k=l.length:=by omega
      repeat(refine zS ?_;intros)
      refine AX.ent (entH (.cons (ob_it (show _=Xf l c by rw[hP,Nat.sub_self,List.replicate_zero,List.append_nil,List.take_length]) (Nat.le_refl _)) .nil)) ?_
      exact aRet (rs:=[_]) rfl rfl (.refl _) zr (hK _)
instance c54:TK prog 54 (∀{M Mc:Nat}{l:List Int}{f:FuncId}{cs:List AV}{c:Int}(_:f=84∧cs=[]∧c=1∧Mc=0∨f=100∧cs=[]∧c= -1∧Mc=0∨f=55∧cs=[ep (iv Mc c)])(_:M+Mc≤1099511627776)(_:l.length≤1099511627776),AC prog 54 [] [pv M l,fnv f cs] fun K=>K [] [pc (M+Mc) (Xf l c)]):=⟨fun hf hM hl=>ac_fz (le_refl _) (by have :=Qdi hf hM hl;simpa only[List.length_map,QiO] using this)⟩
theorem QaG:(∀{M:Nat}{l:List Int}(_:M≤1099511627776)(_:l.length≤1099511627776),AC prog 73 [] [pv M l] fun K=> ∀g,K [(some g,.arr 25 2 ((Xa l).map (it M)))] [lsl 2 g 0 (Xa l).length (Xa l).length]):=fun {M l} hM hl=>by
  refine aEnter func73 rfl ntmps73 rfl fun K C hC hK=> ?_
  have h1:=Xe l
  have :=Qdi (M:=M) (Mc:=0) (l:=Xa l) (f:=84) (cs:=[]) (c:=1) (.inl ⟨rfl,rfl,rfl,rfl⟩) (by omega) (by omega)
  rw[QoN] at this
  iterate 9 (refine zS ?_;intros)
  refine alO (zcallX this) zg fun g=> ?_
  repeat(refine zS ?_;intros)
  exact aRet (rs:=[_]) rfl rfl (.refl _) zr (hK _)
instance c73:TK prog 73 (∀{M:Nat}{l:List Int}(_:M≤1099511627776)(_:l.length≤1099511627776),AC prog 73 [] [pv M l] fun K=>K [] [pc M (Xa l)]):=⟨fun hM hl=>ac_fz (le_refl _) (by have :=QaG hM hl;simpa only[List.length_map] using this)⟩
end Go.Proofs.YtjdpemcnlejpfaaGreatDoor
namespace Go.Proofs.YtjdpemcnlejpfaaGreatDoor
open Go.RowKit Go.Gx Go.Am Tryz
set_option maxHeartbeats 2000000 in
instance c93:TK prog 93 (∀{M M':Nat}{f g:List Int}{o:FuncId}{s:Int}(_:M≤1099511627)(_:M'≤1099511627)(_:f.length≤1099511627776)(_:g.length≤1099511627776)(_:o=57∧s=1∨o=94∧s= -1),AC prog 93 [] [pv M f,pv M' g,it 0 0,fnv o []] fun K=>K [] [pc (max M M'+1) (QmQ s f g)]):=⟨fun {M M' f g o s} hM hM' hf hg ho=>by
  rcases ho with⟨rfl,hs⟩| ⟨rfl,hs⟩
  all_goals
    refine aEnter func93 rfl ntmps93 rfl fun K C hC hK=> ?_
    repeat(refine zS ?_;intros)
    rename_i g6 _ _ g9
    refine aL2 [0,1,3,6,9,20] (fun k _=>[(21,N k)]) (fun k P=>[.arr 25 2 ((P++List.replicate (max f.length g.length -k) 0).map (it (max M M'+1))),.arr 25 1 (itl 0 0)]) (fun k P=>k≤max f.length g.length∧P=(List.range k).map fun i=>f.getD i 0+s*g.getD i 0) (fun k _=>max f.length g.length -k) 0 [] ⟨by omega,rfl⟩ (entL (.cons zle .nil) zk (.cons (ob_it (by simp) (by omega)) (.cons (ob_refl _) .nil))) fun k P ⟨hk,hP⟩=> ?_
    have hP1:P.length=k:=by rw[hP];simp
    repeat(refine zS ?_;intros)
    refine zB ?_ ?_<;>intro h
    · repeat(refine zS ?_;intros)
      refine aJ2 [0,1,3,6,9,10,20,21] (fun g11 g12=>[(11,lpt 1 g11 0),(12,lpt 1 g12 0)]) (fun g11 g12=>[(some g12,.arr 25 1 (itl 0 0)),(some g11,.arr 25 1 (itl 0 0)),(some g9,.arr 25 2 ((P++List.replicate (max f.length g.length -k) 0).map (it (max M M'+1)))),(some g6,.arr 25 1 (itl 0 0))]) (fun _ _=>True) ?_ ?_
      · refine aDr1 [0,1,2,3,4,5] ?_
        repeat' (first | (refine zR ?_;intros)| (refine adO1 (by exact rfl) (zst ?_);intros)| (refine adO2 (by exact rfl) (zst ?_) (zst ?_)<;>intros)| (refine adO3 (by exact rfl) (zst ?_) (zst ?_) (zst ?_)<;>intros))
        all_goals rename_i ga gb
        all_goals first | exact jd2 ga gb trivial (entL (.cons zle (.cons zle .nil)) zk (.cons (ob_refl _) (.cons (ob_refl _) (HLe.refl _))))| exact jd2 gb ga trivial (entL (.cons zle (.cons zle .nil)) zk (.cons (ob_refl _) (.cons (ob_refl _) (HLe.refl _))))| exact jd2 ga gb trivial (entL (.cons zle (.cons zle .nil)) zk (.pick 1 rfl (ob_refl _) (.cons (ob_refl _) (HLe.refl _))))| exact jd2 gb ga trivial (entL (.cons zle (.cons zle .nil)) zk (.pick 1 rfl (ob_refl _) (.cons (ob_refl _) (HLe.refl _))))
      rintro g11 g12 -
      repeat(refine zS ?_;intros)
      have hs2:P++[f.getD k 0+s*g.getD k 0]=(List.range (k+1)).map fun i=>f.getD i 0+s*g.getD i 0:=by rw[hP];exact QdW
      have hf0:f.length≤k→f.getD k 0=0:=fun h=>QcS h k (Nat.le_refl _)
      have hg0:g.length≤k→g.getD k 0=0:=fun h=>QcS h k (Nat.le_refl _)
      repeat' (first | (refine zS ?_;intros)| (refine zB ?_ ?_<;>intro))
      all_goals exact ag2 (k+1) _ ⟨by omega,hs2⟩ (entL (.cons zle .nil) zk (.drop (.drop (.cons (ob_it (by rw[QfT hP1 (m':=max f.length g.length -(k+1)) (by omega)];congr 3;subst hs;omega) (by omega)) (.cons (ob_refl _) .nil)))))
    · obtain rfl:k=max f.length g.length:=by omega
      repeat(refine zS ?_;intros)
      exact aRetO rfl hC zv 0 rfl lq hK (.of_eq (by rw[hP,Nat.sub_self,List.replicate_zero,List.append_nil];rfl))⟩
instance QyE:TK prog 230 (∀{M M':Nat}{f g:List Int}(_:M≤1099511627)(_:M'≤1099511627)(_:f.length≤1099511627776)(_:g.length≤1099511627776),AC prog 230 [] [pv M f,pv M' g] fun K=>K [] [pc (max M M'+1) (Xa (Xx f g))]):=⟨fun {M M' f g} hM hM' hf hg=>by
  refine aEnter func230 rfl ntmps230 rfl fun K C hC hK=> ?_
  rw[←QpN] at hK
  repeat(refine zS ?_;intros)
  exact aRet1 rfl zv hK (le_refl _)⟩
instance c45:TK prog 45 (∀{M M':Nat}{f g:List Int}(_:M≤1099511627)(_:M'≤1099511627)(_:f.length≤1099511627776)(_:g.length≤1099511627776),AC prog 45 [] [pv M f,pv M' g] fun K=>K [] [pc (max M M'+1) (Xa (XD f g))]):=⟨fun {M M' f g} hM hM' hf hg=>by
  refine aEnter func45 rfl ntmps45 rfl fun K C hC hK=> ?_
  rw[←QpO] at hK
  repeat(refine zS ?_;intros)
  exact aRet1 rfl zv hK (le_refl _)⟩
end Go.Proofs.YtjdpemcnlejpfaaGreatDoor
namespace Go.Proofs.YtjdpemcnlejpfaaGreatDoor
open Go.RowKit Go.Gx Go.Am Tryz
set_option maxHeartbeats 2000000 in
instance c56:TK prog 56 (∀{M M':Nat}{f g:List Int}(_:M+M'+f.length≤1099511627)(_:g.length≤1099511627776),AC prog 56 [] [pv M f,pv M' g,it 0 0,fnv 57 [],fnv 27 []] fun K=>K [] [pc (M+M'+f.length) (Xg f g)]):=⟨fun {M M' f g} hM hg=>by
  refine aEnter func56 rfl ntmps56 rfl fun K C hC hK=> ?_
  repeat(refine zS ?_;intros)
  refine zB ?_ ?_<;>intro h<;>repeat(refine zS ?_;intros)
  · exact aRet1 rfl zv hK (by rw[show Xg f g=[] by unfold Xg;rw[if_pos (.inl (by omega))]];exact le_p0)
  refine zB ?_ ?_<;>intro h'<;>repeat(refine zS ?_;intros)
  · exact aRet1 rfl zv hK (by rw[show Xg f g=[] by unfold Xg;rw[if_pos (.inr (by omega))]];exact le_p0)
  refine aL2 [0,1,3,4,7,11,31] (fun k _=>[(32,N k)]) (fun k P=>[.arr 25 2 ((P++List.replicate (f.length+g.length -1 -k) 0).map (it (M+M'+f.length))),.arr 25 1 (itl 0 0)]) (fun k P=>k≤f.length+g.length -1∧P=(List.range k).map (conv f g)) (fun k _=>f.length+g.length -1 -k) 0 [] ⟨by omega,rfl⟩ (entL (.cons zle .nil) zk (.cons (ob_it (by simp) (by omega)) (.cons (ob_refl _) .nil))) fun k P ⟨hk,hP⟩=> ?_
  have hP1:P.length=k:=by rw[hP];simp
  repeat(refine zS ?_;intros)
  refine zB ?_ ?_<;>intro h1
  · repeat(refine zS ?_;intros)
    refine aL2 [0,1,3,4,7,11,12,13,31,32] (fun i _=>[(14,N i)]) (fun i x=>[.arr 25 1 (itl (M+M'+i) x),.arr 25 2 ((P++List.replicate (f.length+g.length -1 -k) 0).map (it (M+M'+f.length))),.arr 25 1 (itl 0 0)]) (fun i x=>k+1 -g.length≤i∧i≤k+1∧i≤f.length∧x=Ye (fun t=>co f t*co g (k -t)) i) (fun i _=>k+1 -i) (k+1 -g.length) 0 ⟨by omega,by omega,by omega,QsB rfl⟩ (entL (.cons zle .nil) zk (.cons (ob_i rfl (by omega)) (.cons (ob_refl _) (.cons (ob_refl _) .nil)))) fun i x ⟨i1,i2,i3,hx⟩=> ?_
    repeat(refine zS ?_;intros)
    refine zB ?_ ?_<;>intro h2
    · repeat(refine zS ?_;intros)
      exact ag2 (i+1) _ ⟨by omega,by omega,by omega,rfl⟩ (entL (.cons zle .nil) zk (.cons (ob_i (by rw[hx];rfl) (by omega)) (.cons (ob_refl _) (.cons (ob_refl _) .nil))))
    · have hc:=QpQ hx i2 h2
      repeat(refine zS ?_;intros)
      exact ag2 (k+1) (P++[x]) ⟨by omega,by rw[hP,hc];exact QdW⟩ (entL (.cons zle .nil) zk (.drop (.cons (ob_it (QfT hP1 (by omega)) (by omega)) (.cons (ob_refl _) .nil))))
  · obtain rfl:k=f.length+g.length -1:=by omega
    repeat(refine zS ?_;intros)
    exact aRetO rfl hC zv 0 rfl lq hK (.of_eq (by rw[hP,Nat.sub_self,List.replicate_zero,List.append_nil,QqJ (by omega) (by omega) rfl]))⟩
instance c17:TK prog 17 (∀{M M':Nat}{f g:List Int}(_:M+M'+f.length≤1099511627)(_:g.length≤1099511627776),AC prog 17 [] [pv M f,pv M' g] fun K=>K [] [pc (M+M'+f.length) (Xa (Xg f g))]):=⟨fun {M M' f g} hM hg=>by
  have h1:=Xe f
  have h2:=Xe g
  refine aEnter func17 rfl ntmps17 rfl fun K C hC hK=> ?_
  rw[←QqA] at hK
  repeat(refine zS ?_;intros)
  exact aRet1 rfl zv hK (le_pcc (by omega))⟩
end Go.Proofs.YtjdpemcnlejpfaaGreatDoor
