/-
  N3, N4, I1, D1
-/
import Derived.Test.YtjdpemcnlejpfaaGreatDoorN1
import Derived.Test.YtjdpemcnlejpfaaGreatDoorNatMath
import Derived.Test.YtjdpemcnlejpfaaGreatDoorModDiv
import Derived.Test.YtjdpemcnlejpfaaGreatDoorDivMath2
set_option linter.all false
namespace Go.Proofs.YtjdpemcnlejpfaaGreatDoor
open Go.RowKit Go.Gx Go.Am Tryz
instance QxF:TK prog 124 (∀{x y z:Nat}(_:x<z)(_:y<4294967296)(_:z<4294967296),AC prog 124 [] [U x,U y,U z] fun K=> ∀q m,q*z+m=x*4294967296+y→m<z→q<4294967296→K [] [U q,U m]):=⟨fun {x y z} hx hy hz=>by
  refine aEnter func124 rfl ntmps124 rfl fun K C hC hK=> ?_
  have hq:(x*2^32+y)/z<4294967296:=Qp1 hx hy
  have hm:=Nat.mod_lt (x*2^32+y) (show 0<z by omega)
  repeat(refine zS ?_;intros)
  have⟨h1,h2⟩:=QsF (X:=x*2^32+y) (z:=z) (by omega) hz hq rfl rfl
  exact aRet2 rfl zv zv (hK _ _ h1 h2 (by omega)) zle zle⟩
instance Qx3:TK prog 160 (∀{x:Nat}(_:x<4294967296),AC prog 160 [] [U x] fun K=> ∀r,x<2^r→(x=0∨2^ (r -1)≤x)→r≤32→K [] [N r]):=⟨fun {x} hx=>by
  refine aEnter func160 rfl ntmps160 rfl fun K C hC hK=> ?_
  have key: ∀s y,y=x/2^s→y<256→(s=0∨y≠0)→s≤24→K [] [N (s+bl8 y)]:=fun s y h1 h2 h3 h4=>by
    have h:=Qvs h1 h2 h3 rfl
    exact hK _ h.1 h.2.1 (by omega)
  have b8:=fun y=>(QgK (x:=y))
  repeat(refine zS ?_;intros)
  refine zB ?_ ?_<;>intro h1<;>repeat(refine zS ?_;intros)
  · refine zB ?_ ?_<;>intro h2<;>repeat(refine zS ?_;intros)
    · have :=(b8 (x/2^16/2^8) (by omega)).2.2.1
      repeat(refine zS ?_;intros)
      exact aRet1 rfl zv (key 24 (x/2^16/2^8) (by rw[Nat.div_div_eq_div_mul]) (by omega) (by omega) (by omega)) zle
    · have :=(b8 (x/2^16) (by omega)).2.2.1
      repeat(refine zS ?_;intros)
      exact aRet1 rfl zv (key 16 (x/2^16) rfl (by omega) (by omega) (by omega)) zle
  · refine zB ?_ ?_<;>intro h2<;>repeat(refine zS ?_;intros)
    · have :=(b8 (x/2^8) (by omega)).2.2.1
      repeat(refine zS ?_;intros)
      exact aRet1 rfl zv (key 8 (x/2^8) rfl (by omega) (by omega) (by omega)) zle
    · have :=(b8 x (by omega)).2.2.1
      repeat(refine zS ?_;intros)
      exact aRet1 rfl zv (key 0 x (by simp) (by omega) (by omega) (by omega)) zle⟩
instance QyG:TK prog 235 (∀{x:Nat}(_:x<4294967296)(_:x≠0),AC prog 235 [] [U x] fun K=> ∀r,x*2^r<4294967296→2147483648≤x*2^r→r≤31→K [] [N r]):=⟨fun {x} hx h0=>by
  refine aEnter func235 rfl ntmps235 rfl fun K C hC hK=> ?_
  repeat(refine zS ?_;intros)
  rename_i r h1 h2 h3
  have⟨a1,a2,a3⟩:=QlV h0 h1 h2 h3 rfl
  exact aRet1 rfl zv (hK _ a1 a2 a3) zle⟩
instance Qx4:TK prog 161 (∀{x:Nat}(_:x<256),AC prog 161 [] [I .u64 x] fun K=> ∀r,x<2^r→(x=0∨2^ (r -1)≤x)→r≤8→K [] [N r]):=⟨fun {x} hx=>by
  refine aEnter func161 rfl ntmps161 rfl fun K C hC hK=> ?_
  have⟨h1,h2,h3,_⟩:=QgK hx
  repeat(refine zS ?_;intros)
  exact aRet1 rfl zv (hK _ h1 h2 h3) zle⟩
instance QxC:TK prog 121 (∀{x:Nat}(_:0<x∧x<4096),AC prog 121 [] [U x] fun K=>K [] [N (tzN x)]):=⟨fun {x} hx=>by
  refine aEnter func121 rfl ntmps121 rfl fun K C hC hK=> ?_
  have⟨z1,z5,z4,z6,z7⟩:=Qls hx
  have e:deBr.getD ((BitVec.ofNat 32 x&&&BitVec.ofNat 32 (4294967296 -x)).toNat*125613361 % 4294967296/2^27) 0=tzN x:=by rw[z1,List.getD,show deBr[tzA x*125613361 % 4294967296/2^27]? =some (tzN x) from z4];rfl
  repeat(refine zS ?_;intros)
  exact aRet1 rfl zv hK zle⟩
instance Qyq:TK prog 203 (∀{M x:Nat},AC prog 203 [] [num M x] fun K=>(x<18446744073709551616→K [] [I .u64 (x:Int),Bo true])∧(18446744073709551616≤x→K [] [I .u64 0,Bo false])):=⟨fun {M x}=>by
  refine aEnter func203 rfl ntmps203 rfl fun K C hC hK=> ?_
  repeat(refine zS ?_;intros)
  rename_i r r1 r2 r3 r4 _
  have⟨v0,v1,v2⟩:=Qw9 (d:=r) rfl
  have d0:=dlt (i:=0) r2
  have d1:=dlt (i:=1) r2
  refine zB ?_ ?_<;>intro h1<;>repeat(refine zS ?_;intros)
  · have :=v0 (by omega)
    exact aRet2 rfl zv zv (hK.1 (by omega)) zle zle
  refine zB ?_ ?_<;>intro h2<;>repeat(refine zS ?_;intros)
  · have :=v1 (by omega)
    exact aRet2 rfl zv zv (hK.1 (by omega)) zle zle
  refine zB ?_ ?_<;>intro h3<;>repeat(refine zS ?_;intros)
  · have :=v2 (by omega)
    exact aRet2 rfl zv zv (hK.1 (by omega)) zle zle
  · exact aRet2 rfl zv zv (hK.2 (by
      rcases Nat.lt_or_ge x 18446744073709551616 with h|h
      · have :=Qbm r4 (k:=2) (by rw[r3];exact h)
        omega
      · exact h)) zle zle⟩
instance c81:TK prog 81 (∀{M x d:Nat}(_:M≤1099511627776)(_:0<d)(_:d<4294967296),AC prog 81 [] [num M x,U d] fun K=>K [] [cnum M (x/d),U (x % d),Bo true]):=⟨fun {M x d} hM hd hd'=>by
  refine aEnter func81 rfl ntmps81 rfl fun K C hC hK=> ?_
  repeat(refine zS ?_;intros)
  rename_i a _ a2 a3 a4 _ _ _
  refine aL3 [0,1,7] (fun(k:Nat) _ r=>[(9,I .i64 ((k:Int) -1)),(8,U r)]) (fun k Q _=>[.arr 46 1 ((List.replicate k 0++Q).map U)]) (fun k Q r=>k≤a.length∧Q.length=a.length -k∧(∀d∈Q,d<BS)∧r<d∧val (a.drop k)=d*val Q+r) (fun k _ _=>k) a.length [] 0 ⟨by omega,by simp,by simp,by omega,by rw[List.drop_of_length_le (by omega)];rfl⟩ (entL (.cons zle (.cons zle .nil)) zk (.cons (ob_raw (by simp)) .nil)) fun k Q r ⟨hk,hQ,lQ,hr,hv⟩=> ?_
  repeat(refine zS ?_;intros)
  refine zB ?_ ?_<;>intro h
  · have :=dlt (i:=k -1) a2
    repeat(refine zS ?_;intros)
    rename_i q m e1 e2 e3
    exact ag3 (k -1) (q::Q) m ⟨by omega,by simp [hQ];omega,QjE lQ e3,e2,Qm8 (by omega) (by omega) hv e1⟩ (entL (.cons zle (.cons zle .nil)) zk (.cons (ob_raw (Qk5 (by omega) (by omega))) .nil))
  · obtain rfl:k=0:=by omega
    repeat(refine zS ?_;intros)
    have e1:x/d=val Q:=by rw[←a3,←List.drop_zero (l:=a),hv,Nat.mul_add_div hd,Nat.div_eq_of_lt hr,Nat.add_zero]
    have e2:x % d=r:=by rw[←a3,←List.drop_zero (l:=a),hv,Nat.mul_add_mod,Nat.mod_eq_of_lt hr]
    refine AL.ent (entFzS hC (s:=37) (by exact rfl) 0 (by exact rfl) lq (a:=num M (x/d)) (raw_num (by simp;omega) (by simpa using lQ) (by simp [e1]))) ?_
    repeat(refine zS ?_;intros)
    rename_i b b1 b2 b3 b4
    rw[e2] at hK
    exact aRet3 rfl zv zv zv hK (raw_cn b1 b2 b3 b4) zle zle⟩
instance QyU:TK prog 264 (∀{M x m c:Nat}(_:M≤1099511627776)(_:m<4294967296)(_:c<4294967296),AC prog 264 [] [num M x,U m,U c] fun K=>K [] [cnum (M+1) (x*m+c)]):=⟨fun {M x m c} hM hm hc=>by
  refine aEnter func264 rfl ntmps264 rfl fun K C hC hK=> ?_
  repeat(refine zS ?_;intros)
  rename_i a a1 a2 a3 a4 _ _ _
  refine aL3 [0,1,7,19,20] (fun k _ c=>[(21,N k),(2,U c)]) (fun k P _=>[.arr 46 1 ((P++List.replicate (a.length+1 -k) 0).map U)]) (fun k P c'=>k≤a.length∧P.length=k∧(∀d∈P,d<BS)∧c'<4294967296∧val P+BS^k*c'=val (a.take k)*m+c) (fun k _ _=>a.length -k) 0 [] c ⟨by omega,rfl,by simp,hc,by simp [val]⟩ (entL (.cons zle (.cons zle .nil)) zk (.cons (ob_raw (by simp)) .nil)) fun k P c' ⟨hk,hP,lP,hc',hv⟩=> ?_
  repeat(refine zS ?_;intros)
  refine zB ?_ ?_<;>intro h
  · have h1:=dlt (i:=k) a2
    have h2:=Qch h1 hm
    repeat(refine zS ?_;intros)
    rename_i q l e1 e2 e3 s cc f1 f2 f3
    have hs:s+4294967296*(q+cc)=a.getD k 0*m+c':=by omega
    repeat(refine zS ?_;intros)
    exact ag3 (k+1) (P++[s]) (q+cc) ⟨by omega,by simp [hP],YL lP f3,by have :=h2;omega,by have :=Qer (c':=q+cc) (x:=a.getD k 0*m) hv hP (by rw[show BS*(q+cc)=4294967296*(q+cc) from rfl];omega);rw[this,YZ,Nat.add_mul];grind⟩ (entL (.cons zle (.cons zle .nil)) zk (.cons (ob_raw (ZJ hP (by omega))) .nil))
  · obtain rfl:k=a.length:=by omega
    repeat(refine zS ?_;intros)
    have e:=QkA (s:=c') (m:=a.length+1 -a.length) hP (by omega)
    refine AL.ent (entFzS hC (s:=51) (by exact rfl) 0 (by exact rfl) lq (a:=num (M+1) (x*m+c)) ((AV.le.of_eq (congrArg raw e)).trans (raw_num (by simp [hP];omega) (YL lP hc') (by rw[YQ,hP,hv,List.take_length,a3])))) ?_
    repeat(refine zS ?_;intros)
    rename_i r r1 r2 r3 r4
    exact aRet1 rfl zv hK (raw_cn r1 r2 r3 r4)⟩
instance Qyx:TK prog 222 (∀{M x n:Nat}(_:M≤549755813888)(_:n≤16777216),AC prog 222 [] [num M x,N n] fun K=>K [] [cnum (M+n/32+1) (x*2^n)]):=⟨fun {M x n} hM hn=>by
  refine aEnter func222 rfl ntmps222 rfl fun K C hC hK=> ?_
  repeat(refine zS ?_;intros)
  rename_i a a1 a2 a3 a4 _
  refine zB ?_ ?_<;>intro h0<;>repeat(refine zS ?_;intros)
  · have :a=[]:=List.eq_nil_of_length_eq_zero (by omega)
    subst this
    subst a3
    exact aRet1 rfl zv hK (by rw[show val []*2^n=0 by simp [val]];exact nil_cn)
  refine aL3 [0,6,7,8,34,35] (fun k _ _=>[(36,N k)]) (fun k P c=>[.arr 46 1 ((List.replicate (n/32) 0++(P++(c::List.replicate (a.length -k) 0))).map U)]) (fun k P c=>k≤a.length∧P.length=k∧(∀d∈P,d<BS)∧c<2^ (n % 32)∧c<4294967296∧val P+BS^k*c=val (a.take k)*2^ (n % 32)) (fun k _ _=>a.length -k) 0 [] 0 ⟨by omega,rfl,by simp,Nat.pow_pos (by decide),by omega,by simp [val]⟩ (entL (.cons zle .nil) zk (.cons (ob_raw (by rw[List.nil_append,QtG])) .nil)) fun k P c ⟨hk,hP,lP,hc,hc',hv⟩=> ?_
  repeat(refine zS ?_;intros)
  refine zB ?_ ?_<;>intro h
  · have h1:=dlt (i:=k) a2
    have⟨s1,s2,s3,s4,s5⟩:=QoX h1 (show n % 32≤31 by omega) hc
    have hq:=QtT (Z:=List.replicate (a.length -k) 0) (c:=c) (w:=n/32) hP (t:=n/32+k) rfl
    rw[←hq] at s2
    repeat(refine zS ?_;intros)
    exact ag3 (k+1) (P++[c+a.getD k 0*2^ (n % 32) % 4294967296]) (a.getD k 0*2^ (n % 32)/4294967296) ⟨by omega,by simp [hP],YL lP s3,s4,by omega,Qq8 hv hP (by omega)⟩ (entL (.cons zle .nil) zk (.cons (ob_raw (by rw[hq,Qq6 hP rfl,Qq7 hP rfl (m':=a.length -(k+1)) (by omega)])) .nil))
  · obtain rfl:k=a.length:=by omega
    repeat(refine zS ?_;intros)
    refine AL.ent (entFzS hC (s:=61) (by exact rfl) 0 (by exact rfl) lq (a:=num (M+n/32+1) (x*2^n)) (raw_num (by simp [hP];omega) (Qvt lP hc') (by rw[←a3];exact QtS hv hP (Nat.le_refl _) (by omega) (by omega)))) ?_
    repeat(refine zS ?_;intros)
    rename_i r r1 r2 r3 r4
    exact aRet1 rfl zv hK (raw_cn r1 r2 r3 r4)⟩
end Go.Proofs.YtjdpemcnlejpfaaGreatDoor
namespace Go.Proofs.YtjdpemcnlejpfaaGreatDoor
open Go.RowKit Go.Gx Go.Am Tryz
instance QyK:TK prog 239 (∀{M x n:Nat}(_:M≤549755813888)(_:n≤9223372036854775807),AC prog 239 [] [num M x,N n] fun K=>K [] [cnum M (x/2^n)]):=⟨fun {M x n} hM hn=>by
  refine aEnter func239 rfl ntmps239 rfl fun K C hC hK=> ?_
  repeat(refine zS ?_;intros)
  rename_i a a1 a2 a3 a4 _
  have e2:=List.length_drop (i:=n/32) (l:=a)
  refine zB ?_ ?_<;>intro h0<;>repeat(refine zS ?_;intros)
  · exact aRet1 rfl zv hK (by rw[←a3,←Qq9 (n:=n) a2 rfl (w:=n/32) (by omega) (by omega)];exact nil_cn)
  have t2: ∀d∈a.drop (n/32),d<BS:=fun d hd=>a2 d (List.mem_of_mem_drop hd)
  refine aL2 [0,6,7,8,31,32] (fun k _=>[(33,N k)]) (fun k P=>[.arr 46 1 ((P++List.replicate ((a.drop (n/32)).length -k) 0).map U)]) (fun k P=>k≤(a.drop (n/32)).length∧P.length=k∧(∀d∈P,d<BS)∧val P=val (a.drop (n/32))/2^ (n % 32) % BS^k) (fun k _=>(a.drop (n/32)).length -k) 0 [] ⟨by omega,rfl,by simp,by simp [val,Nat.mod_one]⟩ (entL (.cons zle .nil) zk (.cons (ob_raw (by simp)) .nil)) fun k P ⟨hk,hP,lP,hv⟩=> ?_
  repeat(refine zS ?_;intros)
  refine zB ?_ ?_<;>intro h
  · have h1:=dlt (i:=k) t2
    have h2:=dlt (i:=k+1) t2
    repeat(refine zS ?_;intros)
    refine zB ?_ ?_<;>intro h3<;>repeat(refine zS ?_;intros)
    · exact ag2 (k+1) (P++[((a.drop (n/32)).getD k 0+(a.drop (n/32)).getD (k+1) 0*2^32)/2^ (n % 32) % 4294967296]) ⟨by omega,by simp [hP],YL lP (Nat.mod_lt _ (by omega)),Qlb t2 (by omega) hv hP (by rw[show(2:Nat)^32=4294967296 from rfl])⟩ (entL (.cons zle .nil) zk (.cons (ob_raw (ZJ hP (by omega))) .nil))
    · exact ag2 (k+1) (P++[(a.drop (n/32)).getD k 0/2^ (n % 32) % 4294967296]) ⟨by omega,by simp [hP],YL lP (Nat.mod_lt _ (by omega)),Qlb t2 (by omega) hv hP (by rw[QaR (ds:=a.drop (n/32)) (n:=(a.drop (n/32)).length) (Nat.le_refl _) (k+1) (by omega),Nat.zero_mul,Nat.add_zero])⟩ (entL (.cons zle .nil) zk (.cons (ob_raw (ZJ hP (by omega))) .nil))
  · obtain rfl:k=(a.drop (n/32)).length:=by omega
    repeat(refine zS ?_;intros)
    refine AL.ent (entFzS hC (s:=62) (by exact rfl) 0 (by exact rfl) lq (a:=num M (x/2^n)) (raw_num (by simp [hP];omega) (QcK lP) (by rw[←a3];exact QtV a2 rfl hv (Nat.le_refl _) (by omega)))) ?_
    repeat(refine zS ?_;intros)
    rename_i r r1 r2 r3 r4
    exact aRet1 rfl zv hK (raw_cn r1 r2 r3 r4)⟩
end Go.Proofs.YtjdpemcnlejpfaaGreatDoor
namespace Go.Proofs.YtjdpemcnlejpfaaGreatDoor
open Go.RowKit Go.Gx Go.Am Tryz
instance c67:TK prog 67 (∀{M x:Nat}{b:Bool},AC prog 67 [] [Bo b,cnum M x] fun K=>K [] [it M (sg b x)]):=⟨fun {M x b}=>by
  refine aEnter func67 rfl ntmps67 rfl fun K C hC hK=>opC 1 rfl fun ds h1 h2 h3 h4=> ?_
  cases b<;>repeat(refine zS ?_;intros)
  · exact aRet (rs:=[_]) rfl rfl (List.nil_sublist _) (arW0 zv 0 rfl rfl (by kernel_rfl) (le_br h1 h2 (by rw[h3,sg_abs]) h4 (by rw[sg_neg];rfl)) arN) hK
  · exact aRet (rs:=[_]) rfl rfl (List.nil_sublist _) (arW0 zv 0 rfl rfl (by kernel_rfl) (le_br h1 h2 (by rw[h3,sg_abs]) h4 (by rw[sg_neg];have :=canon_zero h4;simp;omega)) arN) hK⟩
instance QxG:TK prog 125 (∀{M x:Nat}{b:Bool}(_:M≤1099511627776),AC prog 125 [] [Bo b,num M x] fun K=>K [] [it M (sg b x)]):=⟨fun {M x b} hM=>by
  refine aEnter func125 rfl ntmps125 rfl fun K C hC hK=> ?_
  repeat(refine zS ?_;intros)
  exact aRZ (rs:=[_]) rfl hK⟩
instance c32:TK prog 32 (∀{x:Int}(_: -9223372036854775808≤x)(_:x≤9223372036854775807),AC prog 32 [] [I .i64 x] fun K=>K [] [it 2 x]):=⟨fun {x} h1 h2=>by
  refine aEnter func32 rfl ntmps32 rfl fun K C hC hK=> ?_
  repeat(refine zS ?_;intros)
  refine zB ?_ ?_<;>intro h
  · obtain⟨m,rfl⟩: ∃m:Nat,x= -(m:Int):=⟨x.natAbs,by omega⟩
    repeat(refine zS ?_;intros)
    refine alE (aeConv ((18446744073709551616 -m:Nat):Int) zv (Qv4 (by omega))) rfl zg ?_
    refine alE (aeNeg (m:Int) zv (Qv4 (by omega))) rfl zg ?_
    repeat(refine zS ?_;intros)
    exact aRet (rs:=[_]) rfl rfl (List.nil_sublist _) (arW0 zv 0 rfl rfl (by kernel_rfl) (le_bz (by rw[decide_eq_true h]) (by omega) (Nat.le_refl _)) arN) hK
  · obtain⟨m,rfl⟩: ∃m:Nat,x=(m:Int):=⟨x.natAbs,by omega⟩
    repeat(refine zS ?_;intros)
    exact aRet (rs:=[_]) rfl rfl (List.nil_sublist _) (arW0 zv 0 rfl rfl (by kernel_rfl) (le_bz (by rw[decide_eq_false h]) (by omega) (Nat.le_refl _)) arN) hK⟩
instance c14:TK prog 14 (∀{M:Nat}{z:Int},AC prog 14 [] [iv M z] fun K=> ∀s:Int,(s=0↔z=0)→(s<0↔z<0)→(0<s↔0<z)→ -1≤s→s≤1→K [] [I .i64 s]):=⟨fun {M z}=>by
  refine aEnter func14 rfl ntmps14 rfl fun K C hC hK=>opI 0 rfl fun b x hz=> ?_
  repeat(refine zS ?_;intros)
  refine zB ?_ ?_<;>intro h<;>cases b<;>simp only[sg_t,sg_f] at hz<;>repeat(refine zS ?_;intros)
  · exact aRZ (rs:=[_]) rfl (hK 0 (by omega) (by omega) (by omega) (by omega) (by omega))
  · exact aRZ (rs:=[_]) rfl (hK 0 (by omega) (by omega) (by omega) (by omega) (by omega))
  · exact aRZ (rs:=[_]) rfl (hK 1 (by omega) (by omega) (by omega) (by omega) (by omega))
  · exact aRZ (rs:=[_]) rfl (hK (-1) (by omega) (by omega) (by omega) (by omega) (by omega))⟩
instance c64:TK prog 64 (∀{M M':Nat}{x y:Int},AC prog 64 [] [iv M x,iv M' y] fun K=> ∀c:Int,(c<0↔x<y)→(0<c↔y<x)→(c=0↔x=y)→ -1≤c→c≤1→K [] [I .i64 c]):=⟨fun {M M' x y}=>by
  refine aEnter func64 rfl ntmps64 rfl fun K C hC hK=>opI 0 rfl fun b a ha=>opI 1 rfl fun b' a' ha'=> ?_
  repeat(refine zS ?_;intros)
  rename_i s s1 s2 s3 s4 s5 t t1 t2 t3 t4 t5
  cases b<;>cases b'<;>simp only[sg_t,sg_f] at ha ha'<;>repeat' (first | (refine zS ?_;intros)| (refine zB ?_ ?_<;>intro))
  all_goals refine aRet1 rfl zv (hK _ ?_ ?_ ?_ ?_ ?_) (le_refl _)<;>omega⟩
instance c22:TK prog 22 (∀{M M':Nat}{x y:Int},AC prog 22 [] [iv M x,iv M' y] fun K=>K [] [Bo (decide (x=y))]):=⟨fun {M M' x y}=>by
  refine aEnter func22 rfl ntmps22 rfl fun K C hC hK=> ?_
  repeat(refine zS ?_;intros)
  exact aRet1 rfl zv hK (leB (by omega))⟩
instance c84:TK prog 84 (∀{M:Nat}{z:Int}(_:M≤1099511627776),AC prog 84 [] [iv M z] fun K=>K [] [it M z]):=⟨fun {M z} hM=>by
  refine aEnter func84 rfl ntmps84 rfl fun K C hC hK=>opI 0 rfl fun b a ha=> ?_
  subst ha
  repeat(refine zS ?_;intros)
  exact aRZ (rs:=[_]) rfl hK⟩
instance Qxp:TK prog 100 (∀{M:Nat}{z:Int}(_:M≤1099511627776),AC prog 100 [] [iv M z] fun K=>K [] [it M (-z)]):=⟨fun {M z} hM=>by
  refine aEnter func100 rfl ntmps100 rfl fun K C hC hK=>opI 0 rfl fun b a ha=> ?_
  subst ha
  rw[←sg_not] at hK
  repeat(refine zS ?_;intros)
  exact aRZ (rs:=[_]) rfl hK⟩
instance Qxq:TK prog 106 (∀{M:Nat}{z:Int}(_:M≤1099511627776),AC prog 106 [] [iv M z] fun K=>K [] [it M z.natAbs]):=⟨fun {M z} hM=>by
  refine aEnter func106 rfl ntmps106 rfl fun K C hC hK=>opI 0 rfl fun b a ha=> ?_
  subst ha
  rw[sg_abs,←sg_f] at hK
  repeat(refine zS ?_;intros)
  exact aRZ (rs:=[_]) rfl hK⟩
instance c57:TK prog 57 (∀{M M':Nat}{x y:Int}(_:M≤1099511627776)(_:M'≤1099511627776),AC prog 57 [] [iv M x,iv M' y] fun K=>K [] [it (max M M'+1) (x+y)]):=⟨fun {M M' x y} hM hM'=>by
  refine aEnter func57 rfl ntmps57 rfl fun K C hC hK=>opI 0 rfl fun b a ha=>opI 1 rfl fun b' a' ha'=> ?_
  subst ha ha'
  cases b<;>cases b'<;>repeat(refine zS ?_;intros)
  · exact aRet (rs:=[_]) rfl rfl (List.nil_sublist _) (arW0 zv 0 rfl rfl (by kernel_rfl) (le_ie (by simp only[sg_t,sg_f];omega) (by omega)) arN) hK
  · rename_i c _ _ _ _
    refine zB ?_ ?_<;>intro h<;>repeat(refine zS ?_;intros)
    · exact aRet (rs:=[_]) rfl rfl (List.nil_sublist _) (arW0 zv 0 rfl rfl (by kernel_rfl) (le_ie (by simp only[sg_t,sg_f];omega) (by omega)) arN) hK
    · exact aRet (rs:=[_]) rfl rfl (List.nil_sublist _) (arW0 zv 0 rfl rfl (by kernel_rfl) (le_ie (by simp only[sg_t,sg_f];omega) (by omega)) arN) hK
  · rename_i c _ _ _ _
    refine zB ?_ ?_<;>intro h<;>repeat(refine zS ?_;intros)
    · exact aRet (rs:=[_]) rfl rfl (List.nil_sublist _) (arW0 zv 0 rfl rfl (by kernel_rfl) (le_ie (by simp only[sg_t,sg_f];omega) (by omega)) arN) hK
    · exact aRet (rs:=[_]) rfl rfl (List.nil_sublist _) (arW0 zv 0 rfl rfl (by kernel_rfl) (le_ie (by simp only[sg_t,sg_f];omega) (by omega)) arN) hK
  · exact aRet (rs:=[_]) rfl rfl (List.nil_sublist _) (arW0 zv 0 rfl rfl (by kernel_rfl) (le_ie (by simp only[sg_t,sg_f];omega) (by omega)) arN) hK⟩
instance c94:TK prog 94 (∀{M M':Nat}{x y:Int}(_:M≤1099511627776)(_:M'≤1099511627776),AC prog 94 [] [iv M x,iv M' y] fun K=>K [] [it (max M M'+1) (x -y)]):=⟨fun {M M' x y} hM hM'=>by
  refine aEnter func94 rfl ntmps94 rfl fun K C hC hK=>opI 1 rfl fun b a ha=> ?_
  have e:sg (!b) a= -y:=by rw[sg_not,ha]
  rw[Int.sub_eq_add_neg] at hK
  repeat(refine zS ?_;intros)
  exact aRZ (rs:=[_]) rfl hK⟩
instance c27:TK prog 27 (∀{M M':Nat}{x y:Int}(_:M+M'≤1099511627776),AC prog 27 [] [iv M x,iv M' y] fun K=>K [] [it (M+M') (x*y)]):=⟨fun {M M' x y} hM=>by
  refine aEnter func27 rfl ntmps27 rfl fun K C hC hK=>opI 0 rfl fun b a ha=>opI 1 rfl fun b' a' ha'=> ?_
  subst ha ha'
  rw[sg_mul] at hK
  repeat(refine zS ?_;intros)
  exact aRZ (rs:=[_]) rfl hK⟩
instance Qyj:TK prog 185 (∀{M n:Nat}{x:Int}(_:M≤549755813888)(_:n≤16777216),AC prog 185 [] [iv M x,N n] fun K=>K [] [it (M+n/32+1) (x*2^n)]):=⟨fun {M n x} hM hn=>by
  refine aEnter func185 rfl ntmps185 rfl fun K C hC hK=>opI 0 rfl fun b a ha=> ?_
  subst ha
  rw[show sg b a*2^n=sg b (a*2^n) by cases b<;>simp [sg,Int.neg_mul]] at hK
  repeat(refine zS ?_;intros)
  exact aRZ (rs:=[_]) rfl hK⟩
end Go.Proofs.YtjdpemcnlejpfaaGreatDoor
namespace Go.Proofs.YtjdpemcnlejpfaaGreatDoor
open Go.RowKit Go.Gx Go.Am Tryz
set_option maxHeartbeats 1000000 in
instance QyH:TK prog 236 (∀{a b c d e:Nat}(_:a≤d)(_:0<d)(_:b<4294967296)(_:c<4294967296)(_:d<4294967296)(_:e<4294967296),AC prog 236 [] [U a,U b,U c,U d,U e] fun K=> ∀r,r*Qgi d e≤Qgh a b c→Qlu a b c d e r→r<4294967296→K [] [U r]):=⟨fun {a b c d e} hle hd hb hc hd2 he=>by
  refine aEnter func236 rfl ntmps236 rfl fun K C hC hK=> ?_
  repeat(refine zS ?_;intros)
  refine aJ3 [2,3,4] (fun g r o=>[(11,U g),(12,U r),(13,U o)]) (fun _ _ _=>[]) (fun g r o=>Qdx a b d g (r+4294967296*o)∧Qlu a b c d e g∧o≤1∧r<4294967296∧g<4294967296) ?_ ?_
  · refine zB ?_ ?_<;>intro h<;>repeat(refine zS ?_;intros)
    · rename_i s o e1 e2 e3
      exact jd3 4294967295 s o ⟨Qdx.start1 (by omega) e1,Qlu.start1 _ _ _ _ _,e2,e3,by omega⟩ (entL (.cons zle (.cons zle (.cons zle .nil))) zk .nil)
    · rename_i q m e1 e2 e3
      exact jd3 q m 0 ⟨Qdx.start2 e1,Qlu.start2 e1 e2 hc,by omega,by omega,e3⟩ (entL (.cons zle (.cons zle (.cons zle .nil))) zk .nil)
  rintro g r o ⟨hI,hM,ho,hr,hg⟩
  repeat(refine zS ?_;intros)
  refine aL3 [2,3,4] (fun g r o=>[(11,U g),(12,U r),(13,U o)]) (fun _ _ _=>[]) (fun g r o=>Qdx a b d g (r+4294967296*o)∧Qlu a b c d e g∧o≤1∧r<4294967296∧g<4294967296) (fun g _ _=>g) g r o ⟨hI,hM,ho,hr,hg⟩ (entL (.cons zle (.cons zle (.cons zle .nil))) zk .nil) fun g r o ⟨hI,hM,ho,hr,hg⟩=> ?_
  repeat(refine zS ?_;intros)
  refine zB ?_ ?_<;>intro h
  · repeat(refine zS ?_;intros)
    rename_i h l e1 e2 e3
    have yes:=fun ht=>hK g (QsR (c:=c) hI (by omega) e1 e2 hc ht) hM hg
    have no:=fun ht=>QsQ (c:=c) hI (by omega) e1 e2 hc ht
    have pos:h<r∨h=r∧l≤c∨0<g:=by
      by_cases ht:h<r∨h=r∧l≤c
      · omega
      · have :=QsS (no ht);omega
    repeat' (first | (refine zS ?_;intros)| (refine zB ?_ ?_<;>intro))
    · exact aRet1 rfl zv (yes (by omega)) zle
    · exact aRet1 rfl zv (yes (by omega)) zle
    · rename_i s c' f1 f2 f3
      exact ag3 (g -1) s c' ⟨hI.next0 (by omega) (by omega) (by omega),hM.next (no (by omega)),f2,f3,by omega⟩ (entL (.cons zle (.cons zle (.cons zle .nil))) zk .nil)
    · rename_i s c' f1 f2 f3
      exact ag3 (g -1) s c' ⟨hI.next0 (by omega) (by omega) (by omega),hM.next (no (by omega)),f2,f3,by omega⟩ (entL (.cons zle (.cons zle (.cons zle .nil))) zk .nil)
  · repeat(refine zS ?_;intros)
    exact aRet1 rfl zv (hK g (Qnh hI (by omega) hg he) hM hg) zle⟩
instance QyI:TK prog 237 (∀{g k c d:Nat}{V Z v:List Nat}(_:k=v.length+1)(_:k≤Z.length)(_:v.length≤1099511627776)(_:d<4294967296)(_: ∀d∈V++Z,d<BS) (_: ∀d∈v,d<BS),AC prog 237 [(some g,.arr 46 1 ((V++Z).map U))] [lsl 1 g V.length k c,raw v,U d] fun K=> ∀R bo,R.length=k→(∀d∈R,d<BS)→bo≤1→val R+d*val v=val (Z.take k)+BS^k*bo→K [(some g,.arr 46 1 ((V++(R++Z.drop k)).map U))] [Bo (decide (bo≠0))]):=⟨fun {g k c d V Z v} hk hZ hv40 hd hA hv=>by
  subst hk
  refine aEnterF func237 rfl ntmps237 rfl fun K C hC hK=> ?_
  repeat(refine zS ?_;intros)
  refine aL4 [0,1,2,15,16] (fun k _ b c=>[(17,N k),(8,U b),(7,U c)]) (fun k P _ _=>[.arr 46 1 ((V++(P++Z.drop k)).map U)]) (fun k P b c=>k≤v.length∧P.length=k∧(∀d∈P,d<BS)∧b≤1∧c<4294967296∧val P+d*val (v.take k)=val (Z.take k)+BS^k*(b+c)) (fun k _ _ _=>v.length -k) 0 [] 0 0 ⟨by omega,rfl,by simp,by omega,by omega,by simp [val]⟩ (entL (.cons zle (.cons zle (.cons zle .nil))) zk (.cons (ob_raw (by simp)) .nil)) fun k P b c ⟨hk,hP,hlt,hb,hc,hw⟩=> ?_
  repeat(refine zS ?_;intros)
  have hq:=Qhy (U:=V) rfl hP (show k<Z.length by omega) (t:=V.length+k) rfl
  have hq2:=dlt (i:=k) (Qey hA)
  refine zB ?_ ?_<;>intro h
  · have hq3:=Qch (dlt (i:=k) hv) hd
    have hcm:=Nat.mul_comm d (v.getD k 0)
    repeat(refine zS ?_;intros)
    rename_i m l e1 e2 e3 s c' f1 f2 f3 s' b' g1 g2 g3
    exact ag4 (k+1) (P++[s']) b' (m+c') ⟨by omega,by simp [hP],YL hlt g3,g2,by omega,QoZ hw hP (by omega)⟩ (entL (.cons zle (.cons zle (.cons zle .nil))) zk (.cons (ob_raw (QdV rfl hP (by omega) rfl)) .nil))
  · obtain rfl:k=v.length:=by omega
    repeat(refine zS ?_;intros)
    rename_i s' b' g1 g2 g3
    refine AX.ent (entH (.cons (ob_raw (QdV rfl hP (by omega) rfl)) .nil)) ?_
    exact aRet (rs:=[_]) rfl rfl (.refl _) zr (hK (P++[s']) b' (by simp [hP]) (YL hlt g3) g2 (QtX hw hP (Nat.le_refl _) (by omega)))⟩
instance QyJ:TK prog 238 (∀{g k c:Nat}{V Z v:List Nat}(_:k=v.length+1)(_:k≤Z.length)(_:v.length≤1099511627776)(_: ∀d∈V++Z,d<BS) (_: ∀d∈v,d<BS),AC prog 238 [(some g,.arr 46 1 ((V++Z).map U))] [lsl 1 g V.length k c,raw v] fun K=> ∀R cr,R.length=k→(∀d∈R,d<BS)→val R+BS^k*cr=val (Z.take k)+val v→K [(some g,.arr 46 1 ((V++(R++Z.drop k)).map U))] []):=⟨fun {g k c V Z v} hk hZ hv40 hA hv=>by
  subst hk
  refine aEnterF func238 rfl ntmps238 rfl fun K C hC hK=> ?_
  repeat(refine zS ?_;intros)
  refine aL3 [0,1,7,8] (fun k _ c=>[(9,N k),(4,U c)]) (fun k P _=>[.arr 46 1 ((V++(P++Z.drop k)).map U)]) (fun k P c=>k≤v.length∧P.length=k∧(∀d∈P,d<BS)∧c≤1∧val P+BS^k*c=val (Z.take k)+val (v.take k)) (fun k _ _=>v.length -k) 0 [] 0 ⟨by omega,rfl,by simp,by omega,by simp [val]⟩ (entL (.cons zle (.cons zle .nil)) zk (.cons (ob_raw (by simp)) .nil)) fun k P c ⟨hk,hP,hlt,hc,hw⟩=> ?_
  repeat(refine zS ?_;intros)
  have hq:=Qhy (U:=V) rfl hP (show k<Z.length by omega) (t:=V.length+k) rfl
  have hq2:=dlt (i:=k) (Qey hA)
  refine zB ?_ ?_<;>intro h
  · have hq3:=dlt (i:=k) hv
    repeat(refine zS ?_;intros)
    rename_i s b g1 g2 g3
    exact ag3 (k+1) (P++[s]) b ⟨by omega,by simp [hP],YL hlt g3,g2,Qcb hw hP (by omega)⟩ (entL (.cons zle (.cons zle .nil)) zk (.cons (ob_raw (QdV rfl hP (by omega) rfl)) .nil))
  · obtain rfl:k=v.length:=by omega
    have hd0:v.getD v.length 0=0:=QaR (n:=v.length) (Nat.le_refl _) _ (Nat.le_refl _)
    repeat(refine zS ?_;intros)
    rw[hq]
    refine AX.ent (entH (.cons (ob_raw (QdV rfl hP (by omega) rfl)) .nil)) ?_
    exact aEnd (rs:=[]) rfl rfl (.refl _) zr (hK (P++[_]) ((Z.getD v.length 0+c)/4294967296) (by simp [hP]) (YL hlt (Nat.mod_lt _ (by omega))) (by have :=Qcb (s:=(Z.getD v.length 0+c) % 4294967296) (c':=(Z.getD v.length 0+c)/4294967296) hw hP (by omega);rwa [Yh v (show v.length≤v.length+1 by omega)] at this))⟩
end Go.Proofs.YtjdpemcnlejpfaaGreatDoor
