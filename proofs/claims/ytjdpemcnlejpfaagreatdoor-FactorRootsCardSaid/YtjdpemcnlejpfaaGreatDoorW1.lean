/-
  W1, W2, W3, W4, M1
-/
import Derived.Test.YtjdpemcnlejpfaaGreatDoorN3
import Derived.Test.YtjdpemcnlejpfaaGreatDoorModDiv
import Derived.Test.YtjdpemcnlejpfaaGreatDoorCore
import Derived.Test.YtjdpemcnlejpfaaGreatDoorU4
import Derived.Test.YtjdpemcnlejpfaaGreatDoorGcdMath
set_option linter.all false
namespace Go.Proofs.YtjdpemcnlejpfaaGreatDoor
open Go.RowKit Go.Gx Go.Am Tryz
abbrev W32(n:Nat):AV:=I .u32 (n:Int)
instance c82:TK prog 82 (∀{p:Nat}(_:1<p)(_:p<4294967296),AC prog 82 [] [W32 p] fun K=>K [] [I .u64 (p:Int)]):=⟨fun {p} h1 h2=>by
  refine aEnter func82 rfl ntmps82 rfl fun K C hC hK=> ?_
  repeat(refine zS ?_;intros)
  exact aRet1 rfl zv hK (le_refl _)⟩
instance Qx8:TK prog 173 (∀{a b p:Nat}(_:1<p)(_:p<4294967296)(_:a<4294967296)(_:b<4294967296),AC prog 173 [] [W32 a,W32 b,W32 p] fun K=>K [] [W32 (a*b % p)]):=⟨fun {a b p} h1 h2 ha hb=>by
  refine aEnter func173 rfl ntmps173 rfl fun K C hC hK=> ?_
  have hm:a*b≤4294967295*4294967295:=Nat.mul_le_mul (by omega) (by omega)
  have hr:a*b % p<p:=Nat.mod_lt _ (by omega)
  repeat(refine zS ?_;intros)
  exact aRet1 rfl zv hK (le_refl _)⟩
instance Qyb:TK prog 176 (∀{a b p:Nat}(_:1<p)(_:p<4294967296)(_:a<4294967296)(_:b<4294967296),AC prog 176 [] [W32 a,W32 b,W32 p] fun K=>K [] [W32 ((a+b) % p)]):=⟨fun {a b p} h1 h2 ha hb=>by
  refine aEnter func176 rfl ntmps176 rfl fun K C hC hK=> ?_
  have hr:(a+b) % p<p:=Nat.mod_lt _ (by omega)
  repeat(refine zS ?_;intros)
  exact aRet1 rfl zv hK (le_refl _)⟩
instance c83:TK prog 83 (∀{a p:Nat}(_:1<p)(_:p<4294967296)(_:a<4294967296),AC prog 83 [] [W32 a,W32 p] fun K=>K [] [W32 ((p -a % p) % p)]):=⟨fun {a p} h1 h2 ha=>by
  refine aEnter func83 rfl ntmps83 rfl fun K C hC hK=> ?_
  have hr:a % p<p:=Nat.mod_lt _ (by omega)
  have hr2:(p -a % p) % p<p:=Nat.mod_lt _ (by omega)
  repeat(refine zS ?_;intros)
  exact aRet1 rfl zv hK (le_refl _)⟩
instance QxK:TK prog 129 (∀{a b p:Nat}(_:1<p)(_:p<4294967296)(_:a<4294967296)(_:b<4294967296),AC prog 129 [] [W32 a,W32 b,W32 p] fun K=>K [] [W32 ((a+(p -b % p) % p) % p)]):=⟨fun {a b p} h1 h2 ha hb=>by
  refine aEnter func129 rfl ntmps129 rfl fun K C hC hK=> ?_
  have hr2:(p -b % p) % p<p:=Nat.mod_lt _ (by omega)
  repeat(refine zS ?_;intros)
  exact aRet1 rfl zv hK (le_refl _)⟩
end Go.Proofs.YtjdpemcnlejpfaaGreatDoor
namespace Go.Proofs.YtjdpemcnlejpfaaGreatDoor
open Go.RowKit Go.Gx Go.Am Tryz
theorem Qtw{b e r p:Nat}(h:e % 2=0):r*(b*b % p)^ (e/2) % p=r*b^e % p:=by
  rw[Nat.mul_mod,←Nat.pow_mod,←Nat.mul_mod,←Nat.pow_two,←Nat.pow_mul,show 2*(e/2)=e by omega]
theorem QvN{b e r p:Nat}(h:e % 2=1):(r*b % p)*(b*b % p)^ (e/2) % p=r*b^e % p:=by
  rw[Nat.mul_mod,Nat.mod_mod,←Nat.mul_mod,Nat.mul_mod,←Nat.pow_mod,←Nat.mul_mod,←Nat.pow_two,←Nat.pow_mul,Nat.mul_assoc,←Nat.pow_succ',show(2*(e/2)).succ=e by omega]
set_option maxHeartbeats 1000000 in
instance Qx7:TK prog 172 (∀{a n p:Nat}(_:1<p)(_:p<4294967296)(_:a<4294967296)(_:n<18446744073709551616),AC prog 172 [] [W32 a,I .u64 (n:Int),W32 p] fun K=>K [] [W32 (a^n % p)]):=⟨fun {a n p} h1 h2 ha hn=>by
  refine aEnter func172 rfl ntmps172 rfl fun K C hC hK=> ?_
  have h1p:1 % p=1:=Nat.mod_eq_of_lt h1
  repeat(refine zS ?_;intros)
  refine aL3 [2] (fun(b e r:Nat)=>[(0,W32 b),(1,I .u64 (e:Int)),(7,W32 r)]) (fun _ _ _=>[]) (fun b e r=>b<4294967296∧r<p∧e≤n∧r*b^e % p=a^n % p) (fun _ e _=>e) a n (1 % p) ⟨ha,Nat.mod_lt _ (by omega),Nat.le_refl _,by rw[h1p,Nat.one_mul]⟩ (entL (.cons zle (.cons zle (.cons zle .nil))) zk (HLe.none _)) fun b e r ⟨hb,hr,he,hI⟩=> ?_
  have hm:b*b % p<p:=Nat.mod_lt _ (by omega)
  have hm2:r*b % p<p:=Nat.mod_lt _ (by omega)
  repeat(refine zS ?_;intros)
  refine zB ?_ ?_<;>intro h
  · repeat(refine zS ?_;intros)
    refine zB ?_ ?_<;>intro h3
    · repeat(refine zS ?_;intros)
      exact ag3 (b*b % p) (e/2) (r*b % p) ⟨by omega,hm2,by omega,by rw[QvN (by omega)];exact hI⟩ (entL (.cons zle (.cons zle (.cons zle .nil))) zk (HLe.none _)) (by omega)
    · repeat(refine zS ?_;intros)
      exact ag3 (b*b % p) (e/2) r ⟨by omega,hr,by omega,by rw[Qtw (by omega)];exact hI⟩ (entL (.cons zle (.cons zle (.cons zle .nil))) zk (HLe.none _)) (by omega)
  · repeat(refine zS ?_;intros)
    have e0:e=0:=by omega
    subst e0
    have hr0:a^n % p=r:=by rw[←hI,Nat.pow_zero,Nat.mul_one];exact Nat.mod_eq_of_lt hr
    rw[hr0] at hK
    exact aRet1 rfl zv hK (le_refl _)⟩
instance QyB:TK prog 226 (∀{a p:Nat}(_:1<p)(_:p<4294967296)(_:a<p),AC prog 226 [] [W32 a,W32 p] fun K=>K [] [I .i64 (if 2*a>p then(a:Int) -p else a)]):=⟨fun {a p} h1 h2 ha=>by
  refine aEnter func226 rfl ntmps226 rfl fun K C hC hK=> ?_
  have hm:a % p=a:=Nat.mod_eq_of_lt ha
  repeat(refine zS ?_;intros)
  refine zB ?_ ?_<;>intro h<;>repeat(refine zS ?_;intros)
  · rw[if_pos (by omega)] at hK
    exact aRet1 rfl zv hK leI
  · rw[if_neg (by omega)] at hK
    exact aRet1 rfl zv hK leI⟩
end Go.Proofs.YtjdpemcnlejpfaaGreatDoor
namespace Go.Proofs.YtjdpemcnlejpfaaGreatDoor
open Go.RowKit Go.Gx Go.Am Tryz
instance c37:TK prog 37 (∀{M p:Nat}{z:Int}(_:M≤1099511627)(_:1<p)(_:p<4294967296),AC prog 37 [] [iv M z,W32 p] fun K=>K [] [W32 (md p z)]):=⟨fun {M p z} hM h1 h2=>by
  refine aEnter func37 rfl ntmps37 rfl fun K C hC hK=>opI 0 rfl fun b a ha=> ?_
  subst ha
  have hr:a % p<p:=Nat.mod_lt _ (by omega)
  have hm:a % p % p=a % p:=Nat.mod_eq_of_lt hr
  cases b<;>repeat(refine zS ?_;intros)
  · exact aRet1 rfl zv hK (leI (by rw[sg_f,Qgn (by omega)]))
  · exact aRet1 rfl zv hK (leI (by rw[sg_t,←QrU (by omega),hm]))⟩
set_option maxHeartbeats 1000000 in
instance Qx9:TK prog 174 (∀{a p:Nat}(_:1<p)(_:p<4294967296)(_:a<4294967296)(_:Nat.gcd a p=1),AC prog 174 [] [W32 a,W32 p] fun K=>K [] [W32 (ZL p a),I .i64 0]):=⟨fun {a p} h1 h2 ha hg=>by
  refine aEnter func174 rfl ntmps174 rfl fun K C hC hK=> ?_
  have h0:=Nat.mod_lt a (show 0<p by omega)
  repeat(refine zS ?_;intros)
  refine aL4 [6] (fun(r s:Nat) (x y:Int)=>[(7,N r),(8,N s),(9,I .i64 x),(10,I .i64 y)]) (fun _ _ _ _=>[]) (fun r s x y=>Qi9 p a r s x y) (fun _ s _ _=>s) (a % p) p 1 0 (Qi9.start (by omega) hg) (entL (.cons zle (.cons zle (.cons zle (.cons zle .nil)))) zk (HLe.none _)) fun r s x y hI=> ?_
  have hrm:=hI.rm
  have hsm:=hI.sm
  have hxm:=hI.bx
  have hym:=hI.by_
  repeat(refine zS ?_;intros)
  refine zB ?_ ?_<;>intro h
  · have hq1:r/s*s≤r:=Nat.div_mul_le_self r s
    have hq2:r/s≤r:=Nat.div_le_self r s
    have hms:=Nat.mod_lt r (show 0<s by omega)
    have hqb:=hI.qb (show 0<s by omega)
    have hnb:=hI.nb (show 0<s by omega)
    have hnx:=hI.nx
    have hdm:r -r/s*s=r % s:=by have h9:=Nat.div_add_mod r s;rw[Nat.mul_comm] at h9;omega
    repeat(refine zS ?_;intros)
    exact ag4 s (r % s) y (x -((r/s:Nat):Int)*y) (hI.step (by omega)) (entL (.cons zle (.cons zle (.cons zle (.cons zle .nil)))) zk (HLe.none _)) (by omega)
  · obtain rfl:s=0:=by omega
    have⟨hr1,hxi⟩:=hI.done (by omega)
    have⟨ht1,ht2,ht3⟩:=Quf (show 0<p by omega) x
    have hml:=Qej (show 0<p by omega) x
    subst hr1
    repeat(refine zS ?_;intros)
    refine alE (aeRem (x.tmod (p:Int)) zv zv (by omega) rfl) rfl zg ?_
    repeat(refine zS ?_;intros)
    refine alE (aeRem ((md p x:Nat):Int) zv zv (by omega) ht1) rfl zg ?_
    repeat(refine zS ?_;intros)
    exact aRet2 rfl zv zv hK (leI (by rw[hxi])) zle⟩
end Go.Proofs.YtjdpemcnlejpfaaGreatDoor
namespace Go.Proofs.YtjdpemcnlejpfaaGreatDoor
open Go.RowKit Go.Gx Go.Am Tryz
set_option maxHeartbeats 1000000 in
instance QxD:TK prog 122 (∀{n b t:Nat}(_:3≤n∧n<4096)(_:b≤61)(_:t≤11),AC prog 122 [] [W32 n,W32 b,N t] fun K=>K [] [Bo (QqP n b t)]):=⟨fun {n b t} hn hb ht=>by
  refine aEnter func122 rfl ntmps122 rfl fun K C hC hK=> ?_
  have h15:(n -1)/2^t≤n -1:=Nat.div_le_self _ _
  repeat(refine zS ?_;intros)
  obtain⟨x0,hx0⟩: ∃x0,b^ ((n -1)/2^t) % n=x0:=⟨_,rfl⟩
  have hlt:x0<n:=by rw[←hx0];exact Nat.mod_lt _ (by omega)
  rw[hx0]
  refine zB ?_ ?_<;>intro h
  · rw[←Qow hx0.symm (.inl (by omega))] at hK
    repeat(refine zS ?_;intros)
    exact aRet1 rfl zv hK (le_refl _)
  repeat(refine zS ?_;intros)
  refine zB ?_ ?_<;>intro h'
  · rw[←Qow hx0.symm (.inr (by omega))] at hK
    repeat(refine zS ?_;intros)
    exact aRet1 rfl zv hK (le_refl _)
  rw[QvI hx0.symm (by omega)] at hK
  repeat(refine zS ?_;intros)
  refine aL2 [0,2] (fun(i x:Nat)=>[(8,N i),(7,W32 x)]) (fun _ _=>[]) (fun i x=>1≤i∧i≤12∧x<n∧sqB n (t -i) x=sqB n (t -1) x0) (fun i _=>t -i) 1 x0 ⟨by omega,by omega,hlt,rfl⟩ (entL (.cons zle (.cons zle .nil)) zk (HLe.none _)) fun i x ⟨hi,hi2,hx,hq⟩=> ?_
  have hm:x*x % n<n:=Nat.mod_lt _ (by omega)
  repeat(refine zS ?_;intros)
  refine zB ?_ ?_<;>intro h1
  · repeat(refine zS ?_;intros)
    refine zB ?_ ?_<;>intro h2<;>repeat(refine zS ?_;intros)
    · rw[←Qt1 hq (by omega) rfl (by omega)] at hK
      exact aRet1 rfl zv hK (le_refl _)
    · exact ag2 (i+1) (x*x % n) ⟨by omega,by omega,hm,Qrg hq (by omega) rfl (by omega)⟩ (entL (.cons zle (.cons zle .nil)) zk (HLe.none _))
  · repeat(refine zS ?_;intros)
    rw[←Qt0 hq (by omega)] at hK
    exact aRet1 rfl zv hK (le_refl _)⟩
abbrev prL:List Nat:=[2,3,5,7,61]
abbrev bsL:List Nat:=[2,7,61]
theorem Qra{n i:Nat}(hi:i<5)(h:n % prL.getD i 0≠0):smB n (prL.drop i)=smB n (prL.drop (i+1)):=by
  match i,hi with
  |0,_=>show smB n (2::_)=_;rw[smB];exact if_neg h
  |1,_=>show smB n (3::_)=_;rw[smB];exact if_neg h
  |2,_=>show smB n (5::_)=_;rw[smB];exact if_neg h
  |3,_=>show smB n (7::_)=_;rw[smB];exact if_neg h
  |4,_=>show smB n (61::_)=_;rw[smB];exact if_neg h
theorem QtW{n i:Nat}(hi:i<5)(h:n % prL.getD i 0=0):smB n (prL.drop i)=some (n==prL.getD i 0):=by
  match i,hi with
  |0,_=>show smB n (2::_)=_;rw[smB];exact if_pos h
  |1,_=>show smB n (3::_)=_;rw[smB];exact if_pos h
  |2,_=>show smB n (5::_)=_;rw[smB];exact if_pos h
  |3,_=>show smB n (7::_)=_;rw[smB];exact if_pos h
  |4,_=>show smB n (61::_)=_;rw[smB];exact if_pos h
theorem QvH{i:Nat}(hi:i<5):([I .u32 2,I .u32 3,I .u32 5,I .u32 7,I .u32 61]:List AV)[i]? =some (W32 (prL.getD i 0))∧2≤prL.getD i 0∧prL.getD i 0≤61:=by
  match i,hi with
  |0,_=>exact⟨rfl,by decide,by decide⟩
  |1,_=>exact⟨rfl,by decide,by decide⟩
  |2,_=>exact⟨rfl,by decide,by decide⟩
  |3,_=>exact⟨rfl,by decide,by decide⟩
  |4,_=>exact⟨rfl,by decide,by decide⟩
theorem QuF{i:Nat}(hi:i<3):([I .u32 2,I .u32 7,I .u32 61]:List AV)[i]? =some (W32 (bsL.getD i 0))∧bsL.getD i 0≤61:=by
  match i,hi with
  |0,_=>exact⟨rfl,by decide⟩
  |1,_=>exact⟨rfl,by decide⟩
  |2,_=>exact⟨rfl,by decide⟩
theorem Qsu{f:Nat→Bool}{i:Nat}(hi:i<3):(bsL.drop i).all f=(f (bsL.getD i 0)&& (bsL.drop (i+1)).all f):=by
  match i,hi with
  |0,_=>rfl
  |1,_=>rfl
  |2,_=>rfl
theorem Qma{n i:Nat}(h2: ¬n<2)(hi:i<5)(hj:smB n (prL.drop i)=smB n prL)(h:n % prL.getD i 0=0):ZN n=decide (n=prL.getD i 0):=by
  unfold ZN
  rw[if_neg h2,←hj,QtW hi h,Option.getD_some]
  rfl
theorem QjL{n:Nat}(h2: ¬n<2)(hj:smB n []=smB n prL):bsL.all (fun b=>QqP n b (tzN (n -1)))=ZN n:=by
  unfold ZN
  rw[if_neg h2,←hj];rfl
set_option maxHeartbeats 1000000 in
instance c77:TK prog 77 (∀{n:Nat}(_:n<4096),AC prog 77 [] [W32 n] fun K=>K [] [Bo (ZN n)]):=⟨fun {n} hn=>by
  refine aEnter func77 rfl ntmps77 rfl fun K C hC hK=> ?_
  repeat(refine zS ?_;intros)
  refine zB ?_ ?_<;>intro h2
  · rw[show ZN n=false by unfold ZN;rw[if_pos (by omega)]] at hK
    repeat(refine zS ?_;intros)
    exact aRet1 rfl zv hK (le_refl _)
  have h2': ¬n<2:=by omega
  repeat(refine zS ?_;intros)
  refine alE (aeBuildK [.int .u32 2,.int .u32 3,.int .u32 5,.int .u32 7,.int .u32 61] (by exact rfl:_=[I .u32 2,I .u32 3,I .u32 5,I .u32 7,I .u32 61]) (by exact rfl) (by kernel_rfl) (by exact rfl)) rfl zg ?_
  repeat(refine zS ?_;intros)
  refine aL1 [0,10] (fun i=>[(11,N i)]) (fun _=>[]) (fun i=>i≤5∧smB n (prL.drop i)=smB n prL) (fun i=>5 -i) 0 ⟨by omega,rfl⟩ (entL (.cons zle .nil) zk (HLe.none _)) fun i ⟨hi,hj⟩=> ?_
  repeat(refine zS ?_;intros)
  refine zB ?_ ?_<;>intro h
  · have⟨hg,hg2,hg3⟩:=QvH (i:=i) (by omega)
    repeat(refine zS ?_;intros)
    refine alE (aeArr i (by kernel_rfl) zv zv rfl (by omega) hg) rfl zg ?_
    repeat(refine zS ?_;intros)
    refine zB ?_ ?_<;>intro h3
    · rw[Qma h2' (by omega) hj (by omega)] at hK
      repeat(refine zS ?_;intros)
      exact aRet1 rfl zv hK (leB (by omega))
    · repeat(refine zS ?_;intros)
      exact ag1 (i+1) ⟨by omega,by rw[←Qra (by omega) (by omega),hj]⟩ (entL (.cons zle .nil) zk (HLe.none _))
  obtain rfl:i=5:=by omega
  have hl:=QjL h2' hj
  have hn3:3≤n:=by
    apply Nat.le_of_not_lt
    intro h3
    obtain rfl:n=2:=by omega
    revert hj;decide
  have ht:=(Qls (n:=n -1) (by omega)).2.2.2.1
  repeat(refine zS ?_;intros)
  refine alE (aeBuildK [.int .u32 2,.int .u32 7,.int .u32 61] (by exact rfl:_=[I .u32 2,I .u32 7,I .u32 61]) (by exact rfl) (by kernel_rfl) (by exact rfl)) rfl zg ?_
  repeat(refine zS ?_;intros)
  refine aL1 [0,5,25] (fun k=>[(26,N k)]) (fun _=>[]) (fun k=>k≤3∧(bsL.drop k).all (fun b=>QqP n b (tzN (n -1)))=ZN n) (fun k=>3 -k) 0 ⟨by omega,hl⟩ (entL (.cons zle .nil) zk (HLe.none _)) fun k ⟨hk,hq⟩=> ?_
  repeat(refine zS ?_;intros)
  refine zB ?_ ?_<;>intro h1
  · have⟨hg,hg3⟩:=QuF (i:=k) (by omega)
    rw[Qsu (by omega)] at hq
    repeat(refine zS ?_;intros)
    refine alE (aeArr k (by kernel_rfl) zv zv rfl (by omega) hg) rfl zg ?_
    repeat(refine zS ?_;intros)
    cases hb:QqP n (bsL.getD k 0) (tzN (n -1))<;>rw[hb] at hq<;>first | rw[Bool.not_false]| rw[Bool.not_true]
    all_goals repeat(refine zS ?_;intros)
    · rw[show ZN n=false from hq.symm] at hK
      exact aRet1 rfl zv hK (le_refl _)
    · exact ag1 (k+1) ⟨by omega,hq⟩ (entL (.cons zle .nil) zk (HLe.none _))
  · obtain rfl:k=3:=by omega
    rw[show ZN n=true from hq.symm] at hK
    repeat(refine zS ?_;intros)
    exact aRet1 rfl zv hK (le_refl _)⟩
instance c75:TK prog 75 (∀{n:Nat},AC prog 75 [] [W32 n] fun K=>K [] [fnv 120 [ep (W32 n)]]):=⟨fun {n}=>by
  refine aEnter func75 rfl ntmps75 rfl fun K C hC hK=> ?_
  iterate 6 (refine zS ?_;intros)
  refine AW.ent (entBx hC (s:=1) (by exact rfl) 0 (by exact rfl)) ?_
  repeat(refine zS ?_;intros)
  exact aRet1 rfl zv hK (.of_eq (congrArg (fnv _) zLv))⟩
theorem QnD{l:Nat}{w1:World}{S1:Nat→Prop}{σ:Type}(LO:Option Code→σ→Hp)(I:Nat→σ→Prop)(Fin:σ→Option Code→Prop)(hskip: ∀n s,I n s→ ¬Xk n→I (n+1) s)(hB: ∀n s,I n s→n<4096)
    (hY: ∀s n,Xk n∧I n s→YC prog l w1 S1 (LO none s) [W32 n] fun K=>(∀s',I (n+1) s'→K (LO none s') [Bo true])∧ ∀s' c,Fin s' (some c)→K (LO (some c) s') [Bo false]){s0:σ}(h0:I 2 s0):
    AC prog 120 (LO none s0) [yv l w1 S1,ep (W32 2)] (fun K=> ∀s j,Fin s j→K (LO j s) []):=by
  refine aEnterF func120 rfl ntmps120 rfl fun K C hC hK=> ?_
  repeat(refine zS ?_;intros)
  refine aLoop [0] (fun p:Nat×σ=>[(3,W32 p.1)]) (fun p=>LO none p.2) (fun p=>I p.1 p.2) (fun p=>4096 -p.1) (2,s0) h0 (entL (.cons zle .nil) zk (HLe.refl _)) fun⟨n,s⟩ hI=> ?_
  have hn:=hB n s hI
  repeat(refine zS ?_;intros)
  cases hp:ZN n<;>repeat(refine zS ?_;intros)
  · exact aAgain (n+1,s) (hskip n s hI fun h=>by rw[(ZZ hn).2 h] at hp;cases hp) (by show 4096 -(n+1)<4096 -n;omega) (entL (.cons zle .nil) zk (HLe.refl _))
  refine alYield zv (R:=[]) rfl (hY s n ⟨(ZZ hn).1 hp,hI⟩) zas rfl zg ⟨fun s' h'=> ?_,fun s' c h'=> ?_⟩
  · repeat(refine zS ?_;intros)
    exact aAgain (n+1,s') h' (by show 4096 -(n+1)<4096 -n;omega) (entL (.cons zle .nil) zk (HLe.refl _))
  · repeat(refine zS ?_;intros)
    exact aRet (rs:=[]) rfl rfl (.refl _) zr (hK s' (some c) h')
end Go.Proofs.YtjdpemcnlejpfaaGreatDoor
namespace Go.Proofs.YtjdpemcnlejpfaaGreatDoor
open Go.RowKit Go.Gx Go.Am Tryz
instance c80:TK prog 80 (∀{l:List Nat},AC prog 80 [] [raw l] fun K=>K [] [raw (YK l)]):=⟨fun {l}=>by
  refine aEnter func80 rfl ntmps80 rfl fun K C hC hK=> ?_
  repeat(refine zS ?_;intros)
  refine aL1 [0] (fun k=>[(3,N k)]) (fun _=>[]) (fun k=>k≤l.length∧ ∀j,k≤j→l.getD j 0=0) (fun k=>k) l.length ⟨Nat.le_refl _,QaR (by omega)⟩ (entL (.cons zle .nil) zk .nil) fun k ⟨hk,hz⟩=> ?_
  repeat(refine zS ?_;intros)
  refine zB ?_ ?_<;>intro h
  · repeat(refine zS ?_;intros)
    refine zB ?_ ?_<;>intro h
    · repeat(refine zS ?_;intros)
      exact ag1 (k -1) ⟨by omega,Qd1 hz (by omega)⟩ (entL (.cons zle .nil) zk .nil)
    · repeat(refine zS ?_;intros)
      exact aRet1 rfl zv hK (.of_eq (by rw[Qcn (by omega) hz (by omega)]))
  · repeat(refine zS ?_;intros)
    exact aRet1 rfl zv hK (.of_eq (by rw[Qcn (by omega) hz (by omega)]))⟩
instance c79:TK prog 79 (∀{f:List Nat}{p:Nat}(_:f.length≤1048576)(_:1<p)(_:p<4294967296),AC prog 79 [] [raw f,W32 p] fun K=>K [] [raw (XO p f)]):=⟨fun {f p} hf h1 h2=>by
  refine aEnter func79 rfl ntmps79 rfl fun K C hC hK=> ?_
  unfold XO at hK
  repeat(refine zS ?_;intros)
  refine aL2 [5,6,14,15] (fun k _=>[(16,N k)]) (fun k P=>[.arr 46 1 ((P++List.replicate (f.length -k) 0).map U)]) (fun k P=>k≤f.length∧P=(f.take k).map (· % p)) (fun k _=>f.length -k) 0 [] ⟨by omega,rfl⟩ (entL (.cons zle .nil) zk (.cons (ob_raw (by simp)) .nil)) fun k P ⟨hk,hP⟩=> ?_
  have hP1:P.length=k:=by rw[hP];simp;omega
  repeat(refine zS ?_;intros)
  refine zB ?_ ?_<;>intro h
  · repeat(refine zS ?_;intros)
    exact ag2 (k+1) (P++[f.getD k 0 % p]) ⟨by omega,Qin hP (by omega) rfl⟩ (entL (.cons zle .nil) zk (.cons (ob_raw (QfT hP1 (by omega))) .nil))
  · obtain rfl:k=f.length:=by omega
    repeat(refine zS ?_;intros)
    refine AL.ent (entFzS hC (s:=28) (by exact rfl) 0 (by exact rfl) lq (a:=raw (f.map (· % p))) (.of_eq (by rw[hP,Nat.sub_self,List.replicate_zero,List.append_nil,List.take_length]))) ?_
    repeat(refine zS ?_;intros)
    exact aRet1 rfl zv hK (le_refl _)⟩
instance Qya:TK prog 175 (∀{f:List Nat}{c p:Nat}(_:f.length≤1048576)(_: ∀d∈f,d<BS) (_:c<4294967296) (_:1<p) (_:p<4294967296),AC prog 175 [] [raw f,W32 c,W32 p] fun K=>K [] [raw (Qbp p f c)]):=⟨fun {f c p} hf hfl hc h1 h2=>by
  refine aEnter func175 rfl ntmps175 rfl fun K C hC hK=> ?_
  unfold Qbp at hK
  repeat(refine zS ?_;intros)
  refine aL2 [1,2,7,13,14] (fun k _=>[(15,N k)]) (fun k P=>[.arr 46 1 ((P++List.replicate (f.length -k) 0).map U)]) (fun k P=>k≤f.length∧P=(f.take k).map fun a=>a*c % p) (fun k _=>f.length -k) 0 [] ⟨by omega,rfl⟩ (entL (.cons zle .nil) zk (.cons (ob_raw (by simp)) .nil)) fun k P ⟨hk,hP⟩=> ?_
  have hP1:P.length=k:=by rw[hP];simp;omega
  repeat(refine zS ?_;intros)
  refine zB ?_ ?_<;>intro h
  · repeat(refine zS ?_;intros)
    exact ag2 (k+1) (P++[f.getD k 0*c % p]) ⟨by omega,Qin hP (by omega) rfl⟩ (entL (.cons zle .nil) zk (.cons (ob_raw (QfT hP1 (by omega))) .nil))
  · obtain rfl:k=f.length:=by omega
    repeat(refine zS ?_;intros)
    refine AL.ent (entFzS hC (s:=28) (by exact rfl) 0 (by exact rfl) lq (a:=raw (f.map fun a=>a*c % p)) (.of_eq (by rw[hP,Nat.sub_self,List.replicate_zero,List.append_nil,List.take_length]))) ?_
    repeat(refine zS ?_;intros)
    exact aRet1 rfl zv hK (le_refl _)⟩
instance c36:TK prog 36 (∀{M p:Nat}{f:List Int}(_:f.length≤1048576)(_:M≤1099511627)(_:1<p)(_:p<4294967296),AC prog 36 [] [pv M f,W32 p] fun K=>K [] [raw (XR p f)]):=⟨fun {M p f} hf hM h1 h2=>by
  refine aEnter func36 rfl ntmps36 rfl fun K C hC hK=> ?_
  unfold XR at hK
  repeat(refine zS ?_;intros)
  refine aL2 [1,5,11,12] (fun k _=>[(13,N k)]) (fun k P=>[.arr 46 1 ((P++List.replicate (f.length -k) 0).map U)]) (fun k P=>k≤f.length∧P=(f.take k).map (md p)) (fun k _=>f.length -k) 0 [] ⟨by omega,rfl⟩ (entL (.cons zle .nil) zk (.cons (ob_raw (by simp)) .nil)) fun k P ⟨hk,hP⟩=> ?_
  have hP1:P.length=k:=by rw[hP];simp;omega
  repeat(refine zS ?_;intros)
  refine zB ?_ ?_<;>intro h
  · have hs:=Qdq (f:=md p) (x0:=(0:Int)) (l:=f) (k:=k) (by omega)
    repeat(refine zS ?_;intros)
    exact ag2 (k+1) (P++[md p (f.getD k 0)]) ⟨by omega,by rw[hP];exact hs⟩ (entL (.cons zle .nil) zk (.drop (.cons (ob_raw (QfT hP1 (by omega))) .nil)))
  · obtain rfl:k=f.length:=by omega
    repeat(refine zS ?_;intros)
    refine AL.ent (entFzS hC (s:=25) (by exact rfl) 0 (by exact rfl) lq (a:=raw (f.map (md p))) (.of_eq (by rw[hP,Nat.sub_self,List.replicate_zero,List.append_nil,List.take_length]))) ?_
    repeat(refine zS ?_;intros)
    exact aRet1 rfl zv hK (le_refl _)⟩
instance Qym:TK prog 189 (∀{f:List Nat}{p:Nat}(_:f.length≤1048576)(_: ∀d∈f,d<p) (_:1<p) (_:p<4294967296),AC prog 189 [] [raw f,W32 p] fun K=>K [] [pc 2 (Xa (f.map (QdX p)))]):=⟨fun {f p} hf hfl h1 h2=>by
  refine aEnter func189 rfl ntmps189 rfl fun K C hC hK=> ?_
  repeat(refine zS ?_;intros)
  refine aL2 [1,5,11,12] (fun k _=>[(13,N k)]) (fun k P=>[.arr 25 2 ((P++List.replicate (f.length -k) 0).map (it 2))]) (fun k P=>k≤f.length∧P=(f.take k).map (QdX p)) (fun k _=>f.length -k) 0 [] ⟨by omega,rfl⟩ (entL (.cons zle .nil) zk (.cons (ob_it (by simp) (by omega)) .nil)) fun k P ⟨hk,hP⟩=> ?_
  have hP1:P.length=k:=by rw[hP];simp;omega
  repeat(refine zS ?_;intros)
  refine zB ?_ ?_<;>intro h
  · have hs:=Qdq (f:=QdX p) (x0:=0) (l:=f) (k:=k) (by omega)
    have hl:f.getD k 0<p:=by
      have hk:k<f.length:=by omega
      simp only[List.getD,List.getElem?_eq_getElem hk,Option.getD_some];exact hfl _ (List.getElem_mem hk)
    have he:QdX p (f.getD k 0)=if 2*f.getD k 0>p then(f.getD k 0:Int) -p else f.getD k 0:=by unfold QdX;rw[Nat.mod_eq_of_lt hl]
    have hb1: -9223372036854775808≤(if 2*f.getD k 0>p then(f.getD k 0:Int) -p else f.getD k 0):=by split<;>omega
    have hb2:(if 2*f.getD k 0>p then(f.getD k 0:Int) -p else f.getD k 0)≤9223372036854775807:=by split<;>omega
    repeat(refine zS ?_;intros)
    exact ag2 (k+1) (P++[QdX p (f.getD k 0)]) ⟨by omega,by rw[hP];exact hs⟩ (entL (.cons zle .nil) zk (.cons (ob_it (by rw[he];exact QfT hP1 (by omega)) (by omega)) .nil))
  · obtain rfl:k=f.length:=by omega
    repeat(refine zS ?_;intros)
    refine AL.ent (entFzS hC (s:=26) (by exact rfl) 0 (by exact rfl) lq (a:=pc 2 (f.map (QdX p))) (.of_eq (by rw[hP,Nat.sub_self,List.replicate_zero,List.append_nil,List.take_length]))) ?_
    have hl:(f.map (QdX p)).length≤1099511627776:=by simp;omega
    repeat(refine zS ?_;intros)
    exact aRet1 rfl zv hK (le_refl _)⟩
instance Qyg:TK prog 182 (∀{f:List Nat}{p:Nat}(_:1<p)(_:p<4294967296),AC prog 182 [] [raw f,W32 p] fun K=>K [] [I .i64 (((XO p f).length:Int) -1)]):=⟨fun {f p} h1 h2=>by
  refine aEnter func182 rfl ntmps182 rfl fun K C hC hK=> ?_
  repeat(refine zS ?_;intros)
  refine aL1 [0,5] (fun k=>[(6,N k)]) (fun _=>[]) (fun k=>k≤f.length∧ ∀j,k≤j→(f.map (· % p)).getD j 0=0) (fun k=>k) f.length ⟨Nat.le_refl _,QaR (by simp)⟩ (entL (.cons zle .nil) zk .nil) fun k ⟨hk,hz⟩=> ?_
  repeat(refine zS ?_;intros)
  refine zB ?_ ?_<;>intro h
  · repeat(refine zS ?_;intros)
    refine zB ?_ ?_<;>intro h'
    · repeat(refine zS ?_;intros)
      exact ag1 (k -1) ⟨by omega,QpV hz (by omega)⟩ (entL (.cons zle .nil) zk .nil)
    · rw[Qm0 hk hz (.inr (by omega))] at hK
      repeat(refine zS ?_;intros)
      exact aRet1 rfl zv hK zle
  · rw[Qm0 hk hz (.inl (by omega))] at hK
    repeat(refine zS ?_;intros)
    exact aRet1 rfl zv hK zle⟩
instance Qyf:TK prog 181 (∀{f g:List Nat}{p:Nat}(_:f.length≤1048576)(_:g.length≤1048576)(_:1<p)(_:p<4294967296),AC prog 181 [] [raw f,raw g,W32 p] fun K=>K [] [I .i64 (Qbv (zl (XO p f)) (zl (XO p g)))]):=⟨fun {f g p} hf hg h1 h2=>by
  refine aEnter func181 rfl ntmps181 rfl fun K C hC hK=> ?_
  repeat(refine zS ?_;intros)
  generalize XO p f=f at *
  generalize XO p g=g at *
  have e1:=Zl f
  have e2:=Zl g
  refine zB ?_ ?_<;>intro h<;>repeat(refine zS ?_;intros)
  · exact aRet1 rfl zv hK (leI (QmJ (by omega)))
  refine zB ?_ ?_<;>intro h'<;>repeat(refine zS ?_;intros)
  · exact aRet1 rfl zv hK (leI (QmI (by omega)))
  rw[QmH (by omega) rfl] at hK
  refine aL1 [0,1] (fun(k:Nat)=>[(7,I .i64 ((k:Int) -1))]) (fun _=>[]) (fun k=>k≤f.length∧YT (zl f) (zl g) (zl f).length=YT (zl f) (zl g) k) (fun k=>k) f.length ⟨by omega,by rw[e1]⟩ (entL (.cons zle .nil) zk .nil) fun k ⟨hk,hc⟩=> ?_
  repeat(refine zS ?_;intros)
  refine zB ?_ ?_<;>intro h3<;>repeat(refine zS ?_;intros)
  · have c1:=ZS f (k -1)
    have c2:=ZS g (k -1)
    have c3:=Zi (co (zl f) (k -1)) (co (zl g) (k -1))
    refine zB ?_ ?_<;>intro h4<;>repeat(refine zS ?_;intros)
    · exact aRet1 rfl zv hK (leI (by rw[QcA hc (by omega) (by omega)];omega))
    refine zB ?_ ?_<;>intro h5<;>repeat(refine zS ?_;intros)
    · exact aRet1 rfl zv hK (leI (by rw[QcA hc (by omega) (by omega)];omega))
    · exact ag1 (k -1) ⟨by omega,QeS hc (by omega) (by omega)⟩ (entL (.cons zle .nil) zk .nil)
  · obtain rfl:k=0:=by omega
    exact aRet1 rfl zv hK (leI (by rw[hc];rfl))⟩
instance Qxe:TK prog 188 (∀{f g:List Nat}{p:Nat}(_:f.length≤1048576)(_:g.length≤1048576)(_:1<p)(_:p<4294967296),AC prog 188 [] [raw f,raw g,W32 p] fun K=>K [] [Bo (decide (XO p f=XO p g))]):=⟨fun {f g p} hf hg h1 h2=>by
  refine aEnter func188 rfl ntmps188 rfl fun K C hC hK=> ?_
  repeat(refine zS ?_;intros)
  exact aRet1 rfl zv hK (leB QtK)⟩
theorem Quo{p:Nat}{l:List Nat}{i:Nat}(hp:0<p)(h: ∀d∈l,d<p):l.getD i 0<p:=by
  rcases Nat.lt_or_ge i l.length with hi|hi
  · simp only[List.getD,List.getElem?_eq_getElem hi,Option.getD_some];exact h _ (List.getElem_mem hi)
  · simp only[List.getD,List.getElem?_eq_none hi,Option.getD_none];exact hp
instance QyR:TK prog 257 (∀{f g:List Nat}{p:Nat}(_:f.length≤1048576)(_:g.length≤1048576)(_: ∀d∈f,d<BS) (_: ∀d∈g,d<BS) (_:1<p) (_:p<4294967296),AC prog 257 [] [raw f,raw g,W32 p] fun K=>K [] [raw (Qpr p f g)]):=⟨fun {f g p} hf hg hfl hgl h1 h2=>by
  refine aEnter func257 rfl ntmps257 rfl fun K C hC hK=> ?_
  repeat(refine zS ?_;intros)
  obtain⟨X,hX⟩: ∃X,X=f++List.replicate (max f.length g.length -f.length) 0:=⟨_,rfl⟩
  have hXl:X.length=max f.length g.length:=by rw[hX];simp;omega
  have hXb: ∀d∈X,d<BS:=by rw[hX];exact QcK hfl
  have hXg: ∀i,X.getD i 0=f.getD i 0:=fun i=>by rw[hX];exact Qol _ _ _
  refine aL2 [1,2,7,19] (fun k _=>[(20,N k)]) (fun k L=>[.arr 46 1 ((L++X.drop k).map U)]) (fun k L=>k≤g.length∧L.length=k∧(∀i,i<k→L.getD i 0=md p (((f.getD i 0:Nat):Int)+(g.getD i 0:Nat)))∧ ∀d∈L,d<p) (fun k _=>g.length -k) 0 [] ⟨by omega,rfl,fun i hi=>by omega,by simp⟩ (entL (.cons zle .nil) zk (.cons (ob_raw (by rw[hX];simp)) .nil)) fun k L ⟨hk,hL,hv,hlt⟩=> ?_
  have hb: ∀d∈L++X.drop k,d<BS:=Qdb (Qtf h2 hlt) fun d hd=>hXb d (List.mem_of_mem_drop hd)
  have hlen:(L++X.drop k).length=max f.length g.length:=by rw[List.length_append,List.length_drop];omega
  repeat(refine zS ?_;intros)
  refine zB ?_ ?_<;>intro h
  · have hgt:=QkE (X:=X) hL
    repeat(refine zS ?_;intros)
    exact ag2 (k+1) (L++[md p (((f.getD k 0:Nat):Int)+(g.getD k 0:Nat))]) ⟨by omega,by simp [hL],Qic hL hv rfl,Qhg hlt (Qej (by omega) _)⟩ (entL (.cons zle .nil) zk (.cons (ob_raw (by rw[hgt,hXg,Qvv (by omega)];exact QkF hL (by omega))) .nil))
  · obtain rfl:k=g.length:=by omega
    have hl2:(L++X.drop g.length).length≤1048576:=by omega
    rw[←Qmx (n:=0) (by omega) hXg hXl rfl hL hv] at hK
    repeat(refine zS ?_;intros)
    refine AL.ent (entFzS hC (s:=37) (by exact rfl) 0 (by exact rfl) lq (a:=raw (L++X.drop g.length)) (le_refl _)) ?_
    repeat(refine zS ?_;intros)
    exact aRet1 rfl zv hK (le_refl _)⟩
instance c88:TK prog 88 (∀{f g:List Nat}{p:Nat}(_:f.length≤1048576)(_:g.length≤1048576)(_: ∀d∈f,d<BS) (_: ∀d∈g,d<BS) (_:1<p) (_:p<4294967296),AC prog 88 [] [raw f,raw g,W32 p] fun K=>K [] [raw (QhQ p f g)]):=⟨fun {f g p} hf hg hfl hgl h1 h2=>by
  refine aEnter func88 rfl ntmps88 rfl fun K C hC hK=> ?_
  repeat(refine zS ?_;intros)
  obtain⟨X,hX⟩: ∃X,X=f++List.replicate (max f.length g.length -f.length) 0:=⟨_,rfl⟩
  have hXl:X.length=max f.length g.length:=by rw[hX];simp;omega
  have hXb: ∀d∈X,d<BS:=by rw[hX];exact QcK hfl
  have hXg: ∀i,X.getD i 0=f.getD i 0:=fun i=>by rw[hX];exact Qol _ _ _
  refine aL2 [1,2,7,19] (fun k _=>[(20,N k)]) (fun k L=>[.arr 46 1 ((L++X.drop k).map U)]) (fun k L=>k≤g.length∧L.length=k∧(∀i,i<k→L.getD i 0=md p (((f.getD i 0:Nat):Int) -(g.getD i 0:Nat)))∧ ∀d∈L,d<p) (fun k _=>g.length -k) 0 [] ⟨by omega,rfl,fun i hi=>by omega,by simp⟩ (entL (.cons zle .nil) zk (.cons (ob_raw (by rw[hX];simp)) .nil)) fun k L ⟨hk,hL,hv,hlt⟩=> ?_
  have hb: ∀d∈L++X.drop k,d<BS:=Qdb (Qtf h2 hlt) fun d hd=>hXb d (List.mem_of_mem_drop hd)
  have hlen:(L++X.drop k).length=max f.length g.length:=by rw[List.length_append,List.length_drop];omega
  repeat(refine zS ?_;intros)
  refine zB ?_ ?_<;>intro h
  · have hgt:=QkE (X:=X) hL
    repeat(refine zS ?_;intros)
    exact ag2 (k+1) (L++[md p (((f.getD k 0:Nat):Int) -(g.getD k 0:Nat))]) ⟨by omega,by simp [hL],Qic hL hv rfl,Qhg hlt (Qej (by omega) _)⟩ (entL (.cons zle .nil) zk (.cons (ob_raw (by rw[hgt,hXg,Qvx (by omega)];exact QkF hL (by omega))) .nil))
  · obtain rfl:k=g.length:=by omega
    have hl2:(L++X.drop g.length).length≤1048576:=by omega
    rw[←Qri (n:=0) (by omega) hXg hXl rfl hL hv] at hK
    repeat(refine zS ?_;intros)
    refine AL.ent (entFzS hC (s:=37) (by exact rfl) 0 (by exact rfl) lq (a:=raw (L++X.drop g.length)) (le_refl _)) ?_
    repeat(refine zS ?_;intros)
    exact aRet1 rfl zv hK (le_refl _)⟩
end Go.Proofs.YtjdpemcnlejpfaaGreatDoor
