/-
  N3, I1, U1, U2, U3
-/
import Derived.Test.YtjdpemcnlejpfaaGreatDoorN1
import Derived.Test.YtjdpemcnlejpfaaGreatDoorNatMath
import Derived.Test.YtjdpemcnlejpfaaGreatDoorModGcd
import Derived.Test.YtjdpemcnlejpfaaGreatDoorAmP
set_option linter.all false
namespace Go.Proofs.YtjdpemcnlejpfaaGreatDoor
open Go.RowKit Go.Gx Go.Am Tryz
instance QxF:TK prog 124 (∀{x y z:Nat}(_:x<z)(_:y<4294967296)(_:z<4294967296),AC prog 124 [] [U x,U y,U z] fun K=> ∀q m,q*z+m=x*4294967296+y→m<z→q<4294967296→K [] [U q,U m]):=⟨fun {x y z} hx hy hz=>by
  refine aEnter func124 rfl ntmps124 rfl fun K C hC hK=> ?_
  have hq:(x*2^32+y)/z<4294967296:=Qp1 hx hy
  have hm:=Nat.mod_lt (x*2^32+y) (show 0<z by omega)
  repeat(refine zS ?_;intros)
  have⟨h1,h2⟩:=QsF (X:=x*2^32+y) (z:=z) (by omega) hz hq rfl rfl
  exact aRet2 rfl zv zv (hK _ _ h1 h2 (by omega)) zle zle⟩
instance Qx3:TK prog 160 (∀{x:Nat}(_:x<4294967296),AC prog 160 [] [U x] fun K=> ∀r,x<2^r→(x=0∨2^ (r -1)≤x)→r≤32→K [] [N r]):=⟨fun {x} hx=>by
  refine aEnter func160 rfl ntmps160 rfl fun K C hC hK=> ?_
  have key: ∀s y,y=x/2^s→y<256→(s=0∨y≠0)→s≤24→K [] [N (s+bl8 y)]:=fun s y h1 h2 h3 h4=>by
    have h:=Qvs h1 h2 h3 rfl
    exact hK _ h.1 h.2.1 (by omega)
  have b8:=fun y=>(QgK (x:=y))
  repeat(refine zS ?_;intros)
  refine zB ?_ ?_<;>intro h1<;>repeat(refine zS ?_;intros)
  · refine zB ?_ ?_<;>intro h2<;>repeat(refine zS ?_;intros)
    · have :=(b8 (x/2^16/2^8) (by omega)).2.2.1
      repeat(refine zS ?_;intros)
      exact aRet1 rfl zv (key 24 (x/2^16/2^8) (by rw[Nat.div_div_eq_div_mul]) (by omega) (by omega) (by omega)) zle
    · have :=(b8 (x/2^16) (by omega)).2.2.1
      repeat(refine zS ?_;intros)
      exact aRet1 rfl zv (key 16 (x/2^16) rfl (by omega) (by omega) (by omega)) zle
  · refine zB ?_ ?_<;>intro h2<;>repeat(refine zS ?_;intros)
    · have :=(b8 (x/2^8) (by omega)).2.2.1
      repeat(refine zS ?_;intros)
      exact aRet1 rfl zv (key 8 (x/2^8) rfl (by omega) (by omega) (by omega)) zle
    · have :=(b8 x (by omega)).2.2.1
      repeat(refine zS ?_;intros)
      exact aRet1 rfl zv (key 0 x (by simp) (by omega) (by omega) (by omega)) zle⟩
instance QyG:TK prog 235 (∀{x:Nat}(_:x<4294967296)(_:x≠0),AC prog 235 [] [U x] fun K=> ∀r,x*2^r<4294967296→2147483648≤x*2^r→r≤31→K [] [N r]):=⟨fun {x} hx h0=>by
  refine aEnter func235 rfl ntmps235 rfl fun K C hC hK=> ?_
  repeat(refine zS ?_;intros)
  rename_i r h1 h2 h3
  have⟨a1,a2,a3⟩:=QlV h0 h1 h2 h3 rfl
  exact aRet1 rfl zv (hK _ a1 a2 a3) zle⟩
instance Qx4:TK prog 161 (∀{x:Nat}(_:x<256),AC prog 161 [] [I .u64 x] fun K=> ∀r,x<2^r→(x=0∨2^ (r -1)≤x)→r≤8→K [] [N r]):=⟨fun {x} hx=>by
  refine aEnter func161 rfl ntmps161 rfl fun K C hC hK=> ?_
  have⟨h1,h2,h3,_⟩:=QgK hx
  repeat(refine zS ?_;intros)
  exact aRet1 rfl zv (hK _ h1 h2 h3) zle⟩
instance QxC:TK prog 121 (∀{x:Nat}(_:0<x∧x<4096),AC prog 121 [] [U x] fun K=>K [] [N (tzN x)]):=⟨fun {x} hx=>by
  refine aEnter func121 rfl ntmps121 rfl fun K C hC hK=> ?_
  have⟨z1,z5,z4,z6,z7⟩:=Qls hx
  have e:deBr.getD ((BitVec.ofNat 32 x&&&BitVec.ofNat 32 (4294967296 -x)).toNat*125613361 % 4294967296/2^27) 0=tzN x:=by rw[z1,List.getD,show deBr[tzA x*125613361 % 4294967296/2^27]? =some (tzN x) from z4];rfl
  repeat(refine zS ?_;intros)
  exact aRet1 rfl zv hK zle⟩
instance Qyq:TK prog 203 (∀{M x:Nat},AC prog 203 [] [num M x] fun K=>(x<18446744073709551616→K [] [I .u64 (x:Int),Bo true])∧(18446744073709551616≤x→K [] [I .u64 0,Bo false])):=⟨fun {M x}=>by
  refine aEnter func203 rfl ntmps203 rfl fun K C hC hK=> ?_
  repeat(refine zS ?_;intros)
  rename_i r r1 r2 r3 r4 _
  have⟨v0,v1,v2⟩:=Qw9 (d:=r) rfl
  have d0:=dlt (i:=0) r2
  have d1:=dlt (i:=1) r2
  refine zB ?_ ?_<;>intro h1<;>repeat(refine zS ?_;intros)
  · have :=v0 (by omega)
    exact aRet2 rfl zv zv (hK.1 (by omega)) zle zle
  refine zB ?_ ?_<;>intro h2<;>repeat(refine zS ?_;intros)
  · have :=v1 (by omega)
    exact aRet2 rfl zv zv (hK.1 (by omega)) zle zle
  refine zB ?_ ?_<;>intro h3<;>repeat(refine zS ?_;intros)
  · have :=v2 (by omega)
    exact aRet2 rfl zv zv (hK.1 (by omega)) zle zle
  · exact aRet2 rfl zv zv (hK.2 (by
      rcases Nat.lt_or_ge x 18446744073709551616 with h|h
      · have :=Qbm r4 (k:=2) (by rw[r3];exact h)
        omega
      · exact h)) zle zle⟩
instance c81:TK prog 81 (∀{M x d:Nat}(_:M≤1099511627776)(_:0<d)(_:d<4294967296),AC prog 81 [] [num M x,U d] fun K=>K [] [cnum M (x/d),U (x % d),Bo true]):=⟨fun {M x d} hM hd hd'=>by
  refine aEnter func81 rfl ntmps81 rfl fun K C hC hK=> ?_
  repeat(refine zS ?_;intros)
  rename_i a _ a2 a3 a4 _ _ _
  refine aL3 [0,1,7] (fun(k:Nat) _ r=>[(9,I .i64 ((k:Int) -1)),(8,U r)]) (fun k Q _=>[.arr 46 1 ((List.replicate k 0++Q).map U)]) (fun k Q r=>k≤a.length∧Q.length=a.length -k∧(∀d∈Q,d<BS)∧r<d∧val (a.drop k)=d*val Q+r) (fun k _ _=>k) a.length [] 0 ⟨by omega,by simp,by simp,by omega,by rw[List.drop_of_length_le (by omega)];rfl⟩ (entL (.cons zle (.cons zle .nil)) zk (.cons (ob_raw (by simp)) .nil)) fun k Q r ⟨hk,hQ,lQ,hr,hv⟩=> ?_
  repeat(refine zS ?_;intros)
  refine zB ?_ ?_<;>intro h
  · have :=dlt (i:=k -1) a2
    repeat(refine zS ?_;intros)
    rename_i q m e1 e2 e3
    exact ag3 (k -1) (q::Q) m ⟨by omega,by simp [hQ];omega,QjE lQ e3,e2,Qm8 (by omega) (by omega) hv e1⟩ (entL (.cons zle (.cons zle .nil)) zk (.cons (ob_raw (Qk5 (by omega) (by omega))) .nil))
  · obtain rfl:k=0:=by omega
    repeat(refine zS ?_;intros)
    have e1:x/d=val Q:=by rw[←a3,←List.drop_zero (l:=a),hv,Nat.mul_add_div hd,Nat.div_eq_of_lt hr,Nat.add_zero]
    have e2:x % d=r:=by rw[←a3,←List.drop_zero (l:=a),hv,Nat.mul_add_mod,Nat.mod_eq_of_lt hr]
    refine AL.ent (entFzS hC (s:=37) (by exact rfl) 0 (by exact rfl) lq (a:=num M (x/d)) (raw_num (by simp;omega) (by simpa using lQ) (by simp [e1]))) ?_
    repeat(refine zS ?_;intros)
    rename_i b b1 b2 b3 b4
    rw[e2] at hK
    exact aRet3 rfl zv zv zv hK (raw_cn b1 b2 b3 b4) zle zle⟩
instance QyU:TK prog 264 (∀{M x m c:Nat}(_:M≤1099511627776)(_:m<4294967296)(_:c<4294967296),AC prog 264 [] [num M x,U m,U c] fun K=>K [] [cnum (M+1) (x*m+c)]):=⟨fun {M x m c} hM hm hc=>by
  refine aEnter func264 rfl ntmps264 rfl fun K C hC hK=> ?_
  repeat(refine zS ?_;intros)
  rename_i a a1 a2 a3 a4 _ _ _
  refine aL3 [0,1,7,19,20] (fun k _ c=>[(21,N k),(2,U c)]) (fun k P _=>[.arr 46 1 ((P++List.replicate (a.length+1 -k) 0).map U)]) (fun k P c'=>k≤a.length∧P.length=k∧(∀d∈P,d<BS)∧c'<4294967296∧val P+BS^k*c'=val (a.take k)*m+c) (fun k _ _=>a.length -k) 0 [] c ⟨by omega,rfl,by simp,hc,by simp [val]⟩ (entL (.cons zle (.cons zle .nil)) zk (.cons (ob_raw (by simp)) .nil)) fun k P c' ⟨hk,hP,lP,hc',hv⟩=> ?_
  repeat(refine zS ?_;intros)
  refine zB ?_ ?_<;>intro h
  · have h1:=dlt (i:=k) a2
    have h2:=Qch h1 hm
    repeat(refine zS ?_;intros)
    rename_i q l e1 e2 e3 s cc f1 f2 f3
    have hs:s+4294967296*(q+cc)=a.getD k 0*m+c':=by omega
    repeat(refine zS ?_;intros)
    exact ag3 (k+1) (P++[s]) (q+cc) ⟨by omega,by simp [hP],YL lP f3,by have :=h2;omega,by have :=Qer (c':=q+cc) (x:=a.getD k 0*m) hv hP (by rw[show BS*(q+cc)=4294967296*(q+cc) from rfl];omega);rw[this,YZ,Nat.add_mul];grind⟩ (entL (.cons zle (.cons zle .nil)) zk (.cons (ob_raw (ZJ hP (by omega))) .nil))
  · obtain rfl:k=a.length:=by omega
    repeat(refine zS ?_;intros)
    have e:=QkA (s:=c') (m:=a.length+1 -a.length) hP (by omega)
    refine AL.ent (entFzS hC (s:=51) (by exact rfl) 0 (by exact rfl) lq (a:=num (M+1) (x*m+c)) ((AV.le.of_eq (congrArg raw e)).trans (raw_num (by simp [hP];omega) (YL lP hc') (by rw[YQ,hP,hv,List.take_length,a3])))) ?_
    repeat(refine zS ?_;intros)
    rename_i r r1 r2 r3 r4
    exact aRet1 rfl zv hK (raw_cn r1 r2 r3 r4)⟩
instance Qyx:TK prog 222 (∀{M x n:Nat}(_:M≤549755813888)(_:n≤16777216),AC prog 222 [] [num M x,N n] fun K=>K [] [cnum (M+n/32+1) (x*2^n)]):=⟨fun {M x n} hM hn=>by
  refine aEnter func222 rfl ntmps222 rfl fun K C hC hK=> ?_
  repeat(refine zS ?_;intros)
  rename_i a a1 a2 a3 a4 _
  refine zB ?_ ?_<;>intro h0<;>repeat(refine zS ?_;intros)
  · have :a=[]:=List.eq_nil_of_length_eq_zero (by omega)
    subst this
    subst a3
    exact aRet1 rfl zv hK (by rw[show val []*2^n=0 by simp [val]];exact nil_cn)
  refine aL3 [0,6,7,8,34,35] (fun k _ _=>[(36,N k)]) (fun k P c=>[.arr 46 1 ((List.replicate (n/32) 0++(P++(c::List.replicate (a.length -k) 0))).map U)]) (fun k P c=>k≤a.length∧P.length=k∧(∀d∈P,d<BS)∧c<2^ (n % 32)∧c<4294967296∧val P+BS^k*c=val (a.take k)*2^ (n % 32)) (fun k _ _=>a.length -k) 0 [] 0 ⟨by omega,rfl,by simp,Nat.pow_pos (by decide),by omega,by simp [val]⟩ (entL (.cons zle .nil) zk (.cons (ob_raw (by rw[List.nil_append,QtG])) .nil)) fun k P c ⟨hk,hP,lP,hc,hc',hv⟩=> ?_
  repeat(refine zS ?_;intros)
  refine zB ?_ ?_<;>intro h
  · have h1:=dlt (i:=k) a2
    have⟨s1,s2,s3,s4,s5⟩:=QoX h1 (show n % 32≤31 by omega) hc
    have hq:=QtT (Z:=List.replicate (a.length -k) 0) (c:=c) (w:=n/32) hP (t:=n/32+k) rfl
    rw[←hq] at s2
    repeat(refine zS ?_;intros)
    exact ag3 (k+1) (P++[c+a.getD k 0*2^ (n % 32) % 4294967296]) (a.getD k 0*2^ (n % 32)/4294967296) ⟨by omega,by simp [hP],YL lP s3,s4,by omega,Qq8 hv hP (by omega)⟩ (entL (.cons zle .nil) zk (.cons (ob_raw (by rw[hq,Qq6 hP rfl,Qq7 hP rfl (m':=a.length -(k+1)) (by omega)])) .nil))
  · obtain rfl:k=a.length:=by omega
    repeat(refine zS ?_;intros)
    refine AL.ent (entFzS hC (s:=61) (by exact rfl) 0 (by exact rfl) lq (a:=num (M+n/32+1) (x*2^n)) (raw_num (by simp [hP];omega) (Qvt lP hc') (by rw[←a3];exact QtS hv hP (Nat.le_refl _) (by omega) (by omega)))) ?_
    repeat(refine zS ?_;intros)
    rename_i r r1 r2 r3 r4
    exact aRet1 rfl zv hK (raw_cn r1 r2 r3 r4)⟩
end Go.Proofs.YtjdpemcnlejpfaaGreatDoor
namespace Go.Proofs.YtjdpemcnlejpfaaGreatDoor
open Go.RowKit Go.Gx Go.Am Tryz
instance c67:TK prog 67 (∀{M x:Nat}{b:Bool},AC prog 67 [] [Bo b,cnum M x] fun K=>K [] [it M (sg b x)]):=⟨fun {M x b}=>by
  refine aEnter func67 rfl ntmps67 rfl fun K C hC hK=>opC 1 rfl fun ds h1 h2 h3 h4=> ?_
  cases b<;>repeat(refine zS ?_;intros)
  · exact aRet (rs:=[_]) rfl rfl (List.nil_sublist _) (arW0 zv 0 rfl rfl (by kernel_rfl) (le_br h1 h2 (by rw[h3,sg_abs]) h4 (by rw[sg_neg];rfl)) arN) hK
  · exact aRet (rs:=[_]) rfl rfl (List.nil_sublist _) (arW0 zv 0 rfl rfl (by kernel_rfl) (le_br h1 h2 (by rw[h3,sg_abs]) h4 (by rw[sg_neg];have :=canon_zero h4;simp;omega)) arN) hK⟩
instance QxG:TK prog 125 (∀{M x:Nat}{b:Bool}(_:M≤1099511627776),AC prog 125 [] [Bo b,num M x] fun K=>K [] [it M (sg b x)]):=⟨fun {M x b} hM=>by
  refine aEnter func125 rfl ntmps125 rfl fun K C hC hK=> ?_
  repeat(refine zS ?_;intros)
  exact aRZ (rs:=[_]) rfl hK⟩
instance c32:TK prog 32 (∀{x:Int}(_: -9223372036854775808≤x)(_:x≤9223372036854775807),AC prog 32 [] [I .i64 x] fun K=>K [] [it 2 x]):=⟨fun {x} h1 h2=>by
  refine aEnter func32 rfl ntmps32 rfl fun K C hC hK=> ?_
  repeat(refine zS ?_;intros)
  refine zB ?_ ?_<;>intro h
  · obtain⟨m,rfl⟩: ∃m:Nat,x= -(m:Int):=⟨x.natAbs,by omega⟩
    repeat(refine zS ?_;intros)
    refine alE (aeConv ((18446744073709551616 -m:Nat):Int) zv (Qv4 (by omega))) rfl zg ?_
    refine alE (aeNeg (m:Int) zv (Qv4 (by omega))) rfl zg ?_
    repeat(refine zS ?_;intros)
    exact aRet (rs:=[_]) rfl rfl (List.nil_sublist _) (arW0 zv 0 rfl rfl (by kernel_rfl) (le_bz (by rw[decide_eq_true h]) (by omega) (Nat.le_refl _)) arN) hK
  · obtain⟨m,rfl⟩: ∃m:Nat,x=(m:Int):=⟨x.natAbs,by omega⟩
    repeat(refine zS ?_;intros)
    exact aRet (rs:=[_]) rfl rfl (List.nil_sublist _) (arW0 zv 0 rfl rfl (by kernel_rfl) (le_bz (by rw[decide_eq_false h]) (by omega) (Nat.le_refl _)) arN) hK⟩
instance c14:TK prog 14 (∀{M:Nat}{z:Int},AC prog 14 [] [iv M z] fun K=> ∀s:Int,(s=0↔z=0)→(s<0↔z<0)→(0<s↔0<z)→ -1≤s→s≤1→K [] [I .i64 s]):=⟨fun {M z}=>by
  refine aEnter func14 rfl ntmps14 rfl fun K C hC hK=>opI 0 rfl fun b x hz=> ?_
  repeat(refine zS ?_;intros)
  refine zB ?_ ?_<;>intro h<;>cases b<;>simp only[sg_t,sg_f] at hz<;>repeat(refine zS ?_;intros)
  · exact aRZ (rs:=[_]) rfl (hK 0 (by omega) (by omega) (by omega) (by omega) (by omega))
  · exact aRZ (rs:=[_]) rfl (hK 0 (by omega) (by omega) (by omega) (by omega) (by omega))
  · exact aRZ (rs:=[_]) rfl (hK 1 (by omega) (by omega) (by omega) (by omega) (by omega))
  · exact aRZ (rs:=[_]) rfl (hK (-1) (by omega) (by omega) (by omega) (by omega) (by omega))⟩
instance c64:TK prog 64 (∀{M M':Nat}{x y:Int},AC prog 64 [] [iv M x,iv M' y] fun K=> ∀c:Int,(c<0↔x<y)→(0<c↔y<x)→(c=0↔x=y)→ -1≤c→c≤1→K [] [I .i64 c]):=⟨fun {M M' x y}=>by
  refine aEnter func64 rfl ntmps64 rfl fun K C hC hK=>opI 0 rfl fun b a ha=>opI 1 rfl fun b' a' ha'=> ?_
  repeat(refine zS ?_;intros)
  rename_i s s1 s2 s3 s4 s5 t t1 t2 t3 t4 t5
  cases b<;>cases b'<;>simp only[sg_t,sg_f] at ha ha'<;>repeat' (first | (refine zS ?_;intros)| (refine zB ?_ ?_<;>intro))
  all_goals refine aRet1 rfl zv (hK _ ?_ ?_ ?_ ?_ ?_) (le_refl _)<;>omega⟩
instance c22:TK prog 22 (∀{M M':Nat}{x y:Int},AC prog 22 [] [iv M x,iv M' y] fun K=>K [] [Bo (decide (x=y))]):=⟨fun {M M' x y}=>by
  refine aEnter func22 rfl ntmps22 rfl fun K C hC hK=> ?_
  repeat(refine zS ?_;intros)
  exact aRet1 rfl zv hK (leB (by omega))⟩
instance c84:TK prog 84 (∀{M:Nat}{z:Int}(_:M≤1099511627776),AC prog 84 [] [iv M z] fun K=>K [] [it M z]):=⟨fun {M z} hM=>by
  refine aEnter func84 rfl ntmps84 rfl fun K C hC hK=>opI 0 rfl fun b a ha=> ?_
  subst ha
  repeat(refine zS ?_;intros)
  exact aRZ (rs:=[_]) rfl hK⟩
instance Qxp:TK prog 100 (∀{M:Nat}{z:Int}(_:M≤1099511627776),AC prog 100 [] [iv M z] fun K=>K [] [it M (-z)]):=⟨fun {M z} hM=>by
  refine aEnter func100 rfl ntmps100 rfl fun K C hC hK=>opI 0 rfl fun b a ha=> ?_
  subst ha
  rw[←sg_not] at hK
  repeat(refine zS ?_;intros)
  exact aRZ (rs:=[_]) rfl hK⟩
instance Qxq:TK prog 106 (∀{M:Nat}{z:Int}(_:M≤1099511627776),AC prog 106 [] [iv M z] fun K=>K [] [it M z.natAbs]):=⟨fun {M z} hM=>by
  refine aEnter func106 rfl ntmps106 rfl fun K C hC hK=>opI 0 rfl fun b a ha=> ?_
  subst ha
  rw[sg_abs,←sg_f] at hK
  repeat(refine zS ?_;intros)
  exact aRZ (rs:=[_]) rfl hK⟩
instance c57:TK prog 57 (∀{M M':Nat}{x y:Int}(_:M≤1099511627776)(_:M'≤1099511627776),AC prog 57 [] [iv M x,iv M' y] fun K=>K [] [it (max M M'+1) (x+y)]):=⟨fun {M M' x y} hM hM'=>by
  refine aEnter func57 rfl ntmps57 rfl fun K C hC hK=>opI 0 rfl fun b a ha=>opI 1 rfl fun b' a' ha'=> ?_
  subst ha ha'
  cases b<;>cases b'<;>repeat(refine zS ?_;intros)
  · exact aRet (rs:=[_]) rfl rfl (List.nil_sublist _) (arW0 zv 0 rfl rfl (by kernel_rfl) (le_ie (by simp only[sg_t,sg_f];omega) (by omega)) arN) hK
  · rename_i c _ _ _ _
    refine zB ?_ ?_<;>intro h<;>repeat(refine zS ?_;intros)
    · exact aRet (rs:=[_]) rfl rfl (List.nil_sublist _) (arW0 zv 0 rfl rfl (by kernel_rfl) (le_ie (by simp only[sg_t,sg_f];omega) (by omega)) arN) hK
    · exact aRet (rs:=[_]) rfl rfl (List.nil_sublist _) (arW0 zv 0 rfl rfl (by kernel_rfl) (le_ie (by simp only[sg_t,sg_f];omega) (by omega)) arN) hK
  · rename_i c _ _ _ _
    refine zB ?_ ?_<;>intro h<;>repeat(refine zS ?_;intros)
    · exact aRet (rs:=[_]) rfl rfl (List.nil_sublist _) (arW0 zv 0 rfl rfl (by kernel_rfl) (le_ie (by simp only[sg_t,sg_f];omega) (by omega)) arN) hK
    · exact aRet (rs:=[_]) rfl rfl (List.nil_sublist _) (arW0 zv 0 rfl rfl (by kernel_rfl) (le_ie (by simp only[sg_t,sg_f];omega) (by omega)) arN) hK
  · exact aRet (rs:=[_]) rfl rfl (List.nil_sublist _) (arW0 zv 0 rfl rfl (by kernel_rfl) (le_ie (by simp only[sg_t,sg_f];omega) (by omega)) arN) hK⟩
instance c94:TK prog 94 (∀{M M':Nat}{x y:Int}(_:M≤1099511627776)(_:M'≤1099511627776),AC prog 94 [] [iv M x,iv M' y] fun K=>K [] [it (max M M'+1) (x -y)]):=⟨fun {M M' x y} hM hM'=>by
  refine aEnter func94 rfl ntmps94 rfl fun K C hC hK=>opI 1 rfl fun b a ha=> ?_
  have e:sg (!b) a= -y:=by rw[sg_not,ha]
  rw[Int.sub_eq_add_neg] at hK
  repeat(refine zS ?_;intros)
  exact aRZ (rs:=[_]) rfl hK⟩
instance c27:TK prog 27 (∀{M M':Nat}{x y:Int}(_:M+M'≤1099511627776),AC prog 27 [] [iv M x,iv M' y] fun K=>K [] [it (M+M') (x*y)]):=⟨fun {M M' x y} hM=>by
  refine aEnter func27 rfl ntmps27 rfl fun K C hC hK=>opI 0 rfl fun b a ha=>opI 1 rfl fun b' a' ha'=> ?_
  subst ha ha'
  rw[sg_mul] at hK
  repeat(refine zS ?_;intros)
  exact aRZ (rs:=[_]) rfl hK⟩
instance Qyj:TK prog 185 (∀{M n:Nat}{x:Int}(_:M≤549755813888)(_:n≤16777216),AC prog 185 [] [iv M x,N n] fun K=>K [] [it (M+n/32+1) (x*2^n)]):=⟨fun {M n x} hM hn=>by
  refine aEnter func185 rfl ntmps185 rfl fun K C hC hK=>opI 0 rfl fun b a ha=> ?_
  subst ha
  rw[show sg b a*2^n=sg b (a*2^n) by cases b<;>simp [sg,Int.neg_mul]] at hK
  repeat(refine zS ?_;intros)
  exact aRZ (rs:=[_]) rfl hK⟩
end Go.Proofs.YtjdpemcnlejpfaaGreatDoor
namespace Go.Proofs.YtjdpemcnlejpfaaGreatDoor
open Go.RowKit Go.Gx Go.Am Tryz
instance c53:TK prog 53 (∀{M:Nat}{l:List Int}{f:Int→AV}(_:f=it M∨f=iv M),AC prog 53 [] [sl 2 (l.map f)] fun K=>K [] [sl 2 ((Xa l).map f)]):=⟨fun {M l f} hf=>by
  rcases hf with rfl|rfl<;>(
    refine aEnter func53 rfl ntmps53 rfl fun K C hC hK=> ?_
    repeat(refine zS ?_;intros)
    refine aL1 [0] (fun k=>[(3,N k)]) (fun _=>[]) (fun k=>k≤l.length∧ ∀j,k≤j→l.getD j 0=0) (fun k=>k) l.length ⟨Nat.le_refl _,QcS (Nat.le_refl _)⟩ (entL (.cons zle .nil) zk .nil) fun k ⟨hk,hz⟩=> ?_
    repeat(refine zS ?_;intros)
    refine zB ?_ ?_<;>intro h
    · repeat(refine zS ?_;intros)
      refine zB ?_ ?_<;>intro h1
      · repeat(refine zS ?_;intros)
        exact ag1 (k -1) ⟨by omega,fun j hj=>by rcases Nat.lt_or_ge j k with h2|h2;(obtain rfl:j=k -1:=by omega);omega;exact hz j h2⟩ (entL (.cons zle .nil) zk .nil)
      · repeat(refine zS ?_;intros)
        exact aRet1 rfl zv hK (.of_eq (by rw[Qlq hk hz (.inr (by omega))]))
    · repeat(refine zS ?_;intros)
      exact aRet1 rfl zv hK (.of_eq (by rw[Qlq hk hz (.inl (by omega))])))⟩
instance c55:TK prog 55 (∀{M Mc:Nat}{z c:Int}(_:M+Mc≤1099511627776),AC prog 55 [] [iv M z,ep (iv Mc c)] fun K=>K [] [it (Mc+M) (c*z)]):=⟨fun {M Mc z c} hM=>by
  refine aEnter func55 rfl ntmps55 rfl fun K C hC hK=> ?_
  repeat(refine zS ?_;intros)
  exact aRZ (rs:=[_]) rfl hK⟩
theorem Qdi:(∀{M Mc:Nat}{l:List Int}{f:FuncId}{cs:List AV}{c:Int}(_:f=84∧cs=[]∧c=1∧Mc=0∨f=100∧cs=[]∧c= -1∧Mc=0∨f=55∧cs=[ep (iv Mc c)])(_:M+Mc≤1099511627776)(_:l.length≤1099511627776),AC prog 54 [] [pv M l,fnv f cs] fun K=> ∀g,K [(some g,.arr 25 2 ((Xf l c).map (it (M+Mc))))] [lsl 2 g 0 l.length l.length]):=fun {M Mc l f cs c} hf hM hl=>by
  rcases hf with⟨rfl,rfl,hc,-⟩| ⟨rfl,rfl,hc,-⟩| ⟨rfl,rfl⟩
  all_goals
    refine aEnter func54 rfl ntmps54 rfl fun K C hC hK=> ?_
    repeat(refine zS ?_;intros)
    refine aL2 [1,5,11,12] (fun k _=>[(13,N k)]) (fun k P=>[.arr 25 2 ((P++List.replicate (l.length -k) 0).map (it (M+Mc)))]) (fun k P=>k≤l.length∧P=Xf (l.take k) c) (fun k _=>l.length -k) 0 [] ⟨by omega,rfl⟩ (entL (.cons zle .nil) zk (.cons (ob_it (by simp) (by omega)) .nil)) fun k P ⟨hk,hP⟩=> ?_
    have hP1:P.length=k:=by rw[hP,QiO,List.length_take];omega
    repeat(refine zS ?_;intros)
    refine zB ?_ ?_<;>intro h
    · have hs:=Qme (z:=l.getD k 0*c) hP (show k<l.length by omega) rfl
      repeat(refine zS ?_;intros)
      exact ag2 (k+1) (P++[l.getD k 0*c]) ⟨by omega,hs⟩ (entL (.cons zle .nil) zk (.drop (.cons (ob_it (by rw[QfT hP1 (m':=l.length -(k+1)) (by omega)];congr 3;first | exact Int.mul_comm .. | (rw[hc];first | exact(Int.mul_one _).symm| exact(Int.mul_neg_one _).symm)) (by omega)) .nil)))
    · obtain rfl:k=l.length:=by omega
      repeat(refine zS ?_;intros)
      refine AX.ent (entH (.cons (ob_it (show _=Xf l c by rw[hP,Nat.sub_self,List.replicate_zero,List.append_nil,List.take_length]) (Nat.le_refl _)) .nil)) ?_
      exact aRet (rs:=[_]) rfl rfl (.refl _) zr (hK _)
instance c54:TK prog 54 (∀{M Mc:Nat}{l:List Int}{f:FuncId}{cs:List AV}{c:Int}(_:f=84∧cs=[]∧c=1∧Mc=0∨f=100∧cs=[]∧c= -1∧Mc=0∨f=55∧cs=[ep (iv Mc c)])(_:M+Mc≤1099511627776)(_:l.length≤1099511627776),AC prog 54 [] [pv M l,fnv f cs] fun K=>K [] [pc (M+Mc) (Xf l c)]):=⟨fun hf hM hl=>ac_fz (le_refl _) (by have :=Qdi hf hM hl;simpa only[List.length_map,QiO] using this)⟩
theorem QaG:(∀{M:Nat}{l:List Int}(_:M≤1099511627776)(_:l.length≤1099511627776),AC prog 73 [] [pv M l] fun K=> ∀g,K [(some g,.arr 25 2 ((Xa l).map (it M)))] [lsl 2 g 0 (Xa l).length (Xa l).length]):=fun {M l} hM hl=>by
  refine aEnter func73 rfl ntmps73 rfl fun K C hC hK=> ?_
  have h1:=Xe l
  have :=Qdi (M:=M) (Mc:=0) (l:=Xa l) (f:=84) (cs:=[]) (c:=1) (.inl ⟨rfl,rfl,rfl,rfl⟩) (by omega) (by omega)
  rw[QoN] at this
  iterate 9 (refine zS ?_;intros)
  refine alO (zcallX this) zg fun g=> ?_
  repeat(refine zS ?_;intros)
  exact aRet (rs:=[_]) rfl rfl (.refl _) zr (hK _)
instance c73:TK prog 73 (∀{M:Nat}{l:List Int}(_:M≤1099511627776)(_:l.length≤1099511627776),AC prog 73 [] [pv M l] fun K=>K [] [pc M (Xa l)]):=⟨fun hM hl=>ac_fz (le_refl _) (by have :=QaG hM hl;simpa only[List.length_map] using this)⟩
end Go.Proofs.YtjdpemcnlejpfaaGreatDoor
namespace Go.Proofs.YtjdpemcnlejpfaaGreatDoor
open Go.RowKit Go.Gx Go.Am Tryz
set_option maxHeartbeats 2000000 in
instance c93:TK prog 93 (∀{M M':Nat}{f g:List Int}{o:FuncId}{s:Int}(_:M≤1099511627)(_:M'≤1099511627)(_:f.length≤1099511627776)(_:g.length≤1099511627776)(_:o=57∧s=1∨o=94∧s= -1),AC prog 93 [] [pv M f,pv M' g,it 0 0,fnv o []] fun K=>K [] [pc (max M M'+1) (QmQ s f g)]):=⟨fun {M M' f g o s} hM hM' hf hg ho=>by
  rcases ho with⟨rfl,hs⟩| ⟨rfl,hs⟩
  all_goals
    refine aEnter func93 rfl ntmps93 rfl fun K C hC hK=> ?_
    repeat(refine zS ?_;intros)
    rename_i g6 _ _ g9
    refine aL2 [0,1,3,6,9,20] (fun k _=>[(21,N k)]) (fun k P=>[.arr 25 2 ((P++List.replicate (max f.length g.length -k) 0).map (it (max M M'+1))),.arr 25 1 (itl 0 0)]) (fun k P=>k≤max f.length g.length∧P=(List.range k).map fun i=>f.getD i 0+s*g.getD i 0) (fun k _=>max f.length g.length -k) 0 [] ⟨by omega,rfl⟩ (entL (.cons zle .nil) zk (.cons (ob_it (by simp) (by omega)) (.cons (ob_refl _) .nil))) fun k P ⟨hk,hP⟩=> ?_
    have hP1:P.length=k:=by rw[hP];simp
    repeat(refine zS ?_;intros)
    refine zB ?_ ?_<;>intro h
    · repeat(refine zS ?_;intros)
      refine aJ2 [0,1,3,6,9,10,20,21] (fun g11 g12=>[(11,lpt 1 g11 0),(12,lpt 1 g12 0)]) (fun g11 g12=>[(some g12,.arr 25 1 (itl 0 0)),(some g11,.arr 25 1 (itl 0 0)),(some g9,.arr 25 2 ((P++List.replicate (max f.length g.length -k) 0).map (it (max M M'+1)))),(some g6,.arr 25 1 (itl 0 0))]) (fun _ _=>True) ?_ ?_
      · refine aDr1 [0,1,2,3,4,5] ?_
        repeat' (first | (refine zR ?_;intros)| (refine adO1 (by exact rfl) (zst ?_);intros)| (refine adO2 (by exact rfl) (zst ?_) (zst ?_)<;>intros)| (refine adO3 (by exact rfl) (zst ?_) (zst ?_) (zst ?_)<;>intros))
        all_goals rename_i ga gb
        all_goals first | exact jd2 ga gb trivial (entL (.cons zle (.cons zle .nil)) zk (.cons (ob_refl _) (.cons (ob_refl _) (HLe.refl _))))| exact jd2 gb ga trivial (entL (.cons zle (.cons zle .nil)) zk (.cons (ob_refl _) (.cons (ob_refl _) (HLe.refl _))))| exact jd2 ga gb trivial (entL (.cons zle (.cons zle .nil)) zk (.pick 1 rfl (ob_refl _) (.cons (ob_refl _) (HLe.refl _))))| exact jd2 gb ga trivial (entL (.cons zle (.cons zle .nil)) zk (.pick 1 rfl (ob_refl _) (.cons (ob_refl _) (HLe.refl _))))
      rintro g11 g12 -
      repeat(refine zS ?_;intros)
      have hs2:P++[f.getD k 0+s*g.getD k 0]=(List.range (k+1)).map fun i=>f.getD i 0+s*g.getD i 0:=by rw[hP];exact QdW
      have hf0:f.length≤k→f.getD k 0=0:=fun h=>QcS h k (Nat.le_refl _)
      have hg0:g.length≤k→g.getD k 0=0:=fun h=>QcS h k (Nat.le_refl _)
      repeat' (first | (refine zS ?_;intros)| (refine zB ?_ ?_<;>intro))
      all_goals exact ag2 (k+1) _ ⟨by omega,hs2⟩ (entL (.cons zle .nil) zk (.drop (.drop (.cons (ob_it (by rw[QfT hP1 (m':=max f.length g.length -(k+1)) (by omega)];congr 3;subst hs;omega) (by omega)) (.cons (ob_refl _) .nil)))))
    · obtain rfl:k=max f.length g.length:=by omega
      repeat(refine zS ?_;intros)
      exact aRetO rfl hC zv 0 rfl lq hK (.of_eq (by rw[hP,Nat.sub_self,List.replicate_zero,List.append_nil];rfl))⟩
instance QyE:TK prog 230 (∀{M M':Nat}{f g:List Int}(_:M≤1099511627)(_:M'≤1099511627)(_:f.length≤1099511627776)(_:g.length≤1099511627776),AC prog 230 [] [pv M f,pv M' g] fun K=>K [] [pc (max M M'+1) (Xa (Xx f g))]):=⟨fun {M M' f g} hM hM' hf hg=>by
  refine aEnter func230 rfl ntmps230 rfl fun K C hC hK=> ?_
  rw[←QpN] at hK
  repeat(refine zS ?_;intros)
  exact aRet1 rfl zv hK (le_refl _)⟩
instance c45:TK prog 45 (∀{M M':Nat}{f g:List Int}(_:M≤1099511627)(_:M'≤1099511627)(_:f.length≤1099511627776)(_:g.length≤1099511627776),AC prog 45 [] [pv M f,pv M' g] fun K=>K [] [pc (max M M'+1) (Xa (XD f g))]):=⟨fun {M M' f g} hM hM' hf hg=>by
  refine aEnter func45 rfl ntmps45 rfl fun K C hC hK=> ?_
  rw[←QpO] at hK
  repeat(refine zS ?_;intros)
  exact aRet1 rfl zv hK (le_refl _)⟩
end Go.Proofs.YtjdpemcnlejpfaaGreatDoor
namespace Go.Proofs.YtjdpemcnlejpfaaGreatDoor
open Go.RowKit Go.Gx Go.Am Tryz
set_option maxHeartbeats 2000000 in
instance c56:TK prog 56 (∀{M M':Nat}{f g:List Int}(_:M+M'+f.length≤1099511627)(_:g.length≤1099511627776),AC prog 56 [] [pv M f,pv M' g,it 0 0,fnv 57 [],fnv 27 []] fun K=>K [] [pc (M+M'+f.length) (Xg f g)]):=⟨fun {M M' f g} hM hg=>by
  refine aEnter func56 rfl ntmps56 rfl fun K C hC hK=> ?_
  repeat(refine zS ?_;intros)
  refine zB ?_ ?_<;>intro h<;>repeat(refine zS ?_;intros)
  · exact aRet1 rfl zv hK (by rw[show Xg f g=[] by unfold Xg;rw[if_pos (.inl (by omega))]];exact le_p0)
  refine zB ?_ ?_<;>intro h'<;>repeat(refine zS ?_;intros)
  · exact aRet1 rfl zv hK (by rw[show Xg f g=[] by unfold Xg;rw[if_pos (.inr (by omega))]];exact le_p0)
  refine aL2 [0,1,3,4,7,11,31] (fun k _=>[(32,N k)]) (fun k P=>[.arr 25 2 ((P++List.replicate (f.length+g.length -1 -k) 0).map (it (M+M'+f.length))),.arr 25 1 (itl 0 0)]) (fun k P=>k≤f.length+g.length -1∧P=(List.range k).map (conv f g)) (fun k _=>f.length+g.length -1 -k) 0 [] ⟨by omega,rfl⟩ (entL (.cons zle .nil) zk (.cons (ob_it (by simp) (by omega)) (.cons (ob_refl _) .nil))) fun k P ⟨hk,hP⟩=> ?_
  have hP1:P.length=k:=by rw[hP];simp
  repeat(refine zS ?_;intros)
  refine zB ?_ ?_<;>intro h1
  · repeat(refine zS ?_;intros)
    refine aL2 [0,1,3,4,7,11,12,13,31,32] (fun i _=>[(14,N i)]) (fun i x=>[.arr 25 1 (itl (M+M'+i) x),.arr 25 2 ((P++List.replicate (f.length+g.length -1 -k) 0).map (it (M+M'+f.length))),.arr 25 1 (itl 0 0)]) (fun i x=>k+1 -g.length≤i∧i≤k+1∧i≤f.length∧x=Ye (fun t=>co f t*co g (k -t)) i) (fun i _=>k+1 -i) (k+1 -g.length) 0 ⟨by omega,by omega,by omega,QsB rfl⟩ (entL (.cons zle .nil) zk (.cons (ob_i rfl (by omega)) (.cons (ob_refl _) (.cons (ob_refl _) .nil)))) fun i x ⟨i1,i2,i3,hx⟩=> ?_
    repeat(refine zS ?_;intros)
    refine zB ?_ ?_<;>intro h2
    · repeat(refine zS ?_;intros)
      exact ag2 (i+1) _ ⟨by omega,by omega,by omega,rfl⟩ (entL (.cons zle .nil) zk (.cons (ob_i (by rw[hx];rfl) (by omega)) (.cons (ob_refl _) (.cons (ob_refl _) .nil))))
    · have hc:=QpQ hx i2 h2
      repeat(refine zS ?_;intros)
      exact ag2 (k+1) (P++[x]) ⟨by omega,by rw[hP,hc];exact QdW⟩ (entL (.cons zle .nil) zk (.drop (.cons (ob_it (QfT hP1 (by omega)) (by omega)) (.cons (ob_refl _) .nil))))
  · obtain rfl:k=f.length+g.length -1:=by omega
    repeat(refine zS ?_;intros)
    exact aRetO rfl hC zv 0 rfl lq hK (.of_eq (by rw[hP,Nat.sub_self,List.replicate_zero,List.append_nil,QqJ (by omega) (by omega) rfl]))⟩
instance c17:TK prog 17 (∀{M M':Nat}{f g:List Int}(_:M+M'+f.length≤1099511627)(_:g.length≤1099511627776),AC prog 17 [] [pv M f,pv M' g] fun K=>K [] [pc (M+M'+f.length) (Xa (Xg f g))]):=⟨fun {M M' f g} hM hg=>by
  have h1:=Xe f
  have h2:=Xe g
  refine aEnter func17 rfl ntmps17 rfl fun K C hC hK=> ?_
  rw[←QqA] at hK
  repeat(refine zS ?_;intros)
  exact aRet1 rfl zv hK (le_pcc (by omega))⟩
end Go.Proofs.YtjdpemcnlejpfaaGreatDoor
