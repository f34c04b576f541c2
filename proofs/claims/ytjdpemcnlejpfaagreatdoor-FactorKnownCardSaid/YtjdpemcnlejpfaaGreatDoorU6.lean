/-
  U6, N4, D1, D2
-/
import Derived.Test.YtjdpemcnlejpfaaGreatDoorU2
import Derived.Test.YtjdpemcnlejpfaaGreatDoorN3
import Derived.Test.YtjdpemcnlejpfaaGreatDoorPolyMath2
import Derived.Test.YtjdpemcnlejpfaaGreatDoorAmD
set_option linter.all false
namespace Go.Proofs.YtjdpemcnlejpfaaGreatDoor
open Go.RowKit Go.Gx Go.Am Tryz
theorem Qtk{a b M L:Nat}(hb:1≤b):(a*M+a*a*(L+2)+3)+(b*M+b*b*(L+1))+(a*L+1)≤(a+b)*M+(a+b)*(a+b)*(L+2)+3:=by
  obtain⟨c,rfl⟩: ∃c,b=c+1:=⟨b -1,by omega⟩;grind
theorem Qtl{b M L:Nat}(hb:1≤b):(b*M+b*b*(L+1))+(b*M+b*b*(L+1))+(b*L+1)≤(2*b)*M+(2*b)*(2*b)*(L+1):=by
  obtain⟨c,rfl⟩: ∃c,b=c+1:=⟨b -1,by omega⟩;grind
theorem Qvy{a n M L:Nat}(h:a≤n):a*M+a*a*(L+2)+3≤n*M+n*n*(L+2)+3:=by
  have h1:=Nat.mul_le_mul_right M h
  have h2:=Nat.mul_le_mul_right (L+2) (Nat.mul_le_mul h h)
  omega
theorem QwG{a n M L:Nat}(h:a≤n):a*M+a*a*(L+1)≤n*M+n*n*(L+2):=by
  have h1:=Nat.mul_le_mul_right M h
  have h2:=Nat.mul_le_mul (Nat.mul_le_mul h h) (show L+1≤L+2 by omega)
  omega
theorem QuC{a n L:Nat}(h:a≤n):a*L≤n*n*(L+2):=by
  refine Nat.mul_le_mul ?_ (by omega)
  rcases Nat.eq_zero_or_pos n with h0|h0
  · omega
  · have :=Nat.mul_le_mul_right n h0;omega
theorem Qr1{R S:List Int}{x y:Nat}(hR:R.length≤x+1)(hS:S.length≤y+1):(Xa (Xg R S)).length≤x+y+1:=by
  have h1:=Xe (Xg R S)
  by_cases h:R.length=0∨S.length=0
  · have :Xg R S=[]:=by unfold Xg;rw[if_pos h]
    have h0:(Xa ([]:List Int)).length=0:=rfl
    rw[this];omega
  · have :=Yo (f:=R) (g:=S) (by omega) (by omega);omega
set_option maxHeartbeats 1000000 in
instance c40:TK prog 40 (∀{M L n:Nat}{l:List Int}(_:(Xa l).length≤L+1)(_:2*(n*M)+4*(n*n*(L+2))+3≤10995116)(_:n≤1099511)(_:M≤1099511)(_:l.length≤1099511),AC prog 40 [] [pv M l,N n] fun K=>K [] [pc (n*M+n*n*(L+2)+3) (Xa (Zk l n))]):=⟨fun {M L n l} hL hM hn hM1 hl=>by
  refine aEnter func40 rfl ntmps40 rfl fun K C hC hK=> ?_
  have h1:=Xe l
  have h2:=Xe [(1:Int)]
  have hh: ∀z∈[(1:Int)],-9223372036854775808≤z∧z≤9223372036854775807:=by intro z hz;simp at hz;omega
  have hh0:([(1:Int)]).length≤1099511627776:=by simp
  repeat(refine zS ?_;intros)
  refine aL5 [] (fun u a b R S=>[(1,N u),(5,pc (a*M+a*a*(L+2)+3) R),(6,pc (b*M+b*b*(L+1)) S)]) (fun _ _ _ _ _=>[]) (fun u a b R S=>(u=0∨a+u*b=n)∧a≤n∧1≤b∧(u=0∨b≤n)∧R.length≤a*L+1∧S.length≤b*L+1∧Canon ZM R∧Xa (Xg R (Zk S u))=Xa (Zk l n)) (fun u _ _ _ _=>u) n 0 1 (Xa [1]) (Xa l) ⟨by omega,by omega,by omega,by omega,by rw[Qrm];simp,by omega,Xs _ _,QqL l n⟩ (entL (.cons zle (.cons zle (.cons zle .nil))) zk .nil) fun u a b R S ⟨hu,ha,hb,hbn,hR,hS,hc,hp⟩=> ?_
  repeat(refine zS ?_;intros)
  refine zB ?_ ?_<;>intro h
  · have hub:a+u*b=n:=hu.resolve_left (by omega)
    have hbn:b≤n:=hbn.resolve_left (by omega)
    have e1:=Qvy (M:=M) (L:=L) ha
    have e2:=QwG (M:=M) (L:=L) hbn
    have e3:=QuC (L:=L) ha
    have e4:=QuC (L:=L) hbn
    have e5:=Qtk (a:=a) (M:=M) (L:=L) hb
    have e6:=Qtl (M:=M) (L:=L) hb
    have e7:=Qr1 hR hS
    have e8:=Qr1 hS hS
    have e9:(a+b)*L=a*L+b*L:=Nat.add_mul ..
    have e10:2*b*L=b*L+b*L:=by rw[Nat.mul_assoc];omega
    have e15:u≤u*b:=Nat.le_mul_of_pos_right u hb
    have e11:b≤u*b:=Nat.le_mul_of_pos_left b (by omega)
    have e12:u*b=u/2*(2*b)+u % 2*b:=by
      conv=>lhs;rw[←Nat.div_add_mod u 2,Nat.add_mul,Nat.mul_comm 2,Nat.mul_assoc]
    repeat(refine zS ?_;intros)
    refine zB ?_ ?_<;>intro h1
    · have e13:u % 2=1:=by omega
      rw[e13,Nat.one_mul] at e12
      repeat(refine zS ?_;intros)
      refine zB ?_ ?_<;>intro h3<;>repeat(refine zS ?_;intros)
      · have e14:2*b≤u/2*(2*b):=Nat.le_mul_of_pos_left _ (by omega)
        exact ag5 (u/2) (a+b) (2*b) (Xa (Xg R S)) (Xa (Xg S S)) ⟨.inr (by omega),by omega,by omega,.inr (by omega),by omega,by omega,Xs _ _,QqN hp (by omega) rfl rfl⟩ (entL (.cons zle (.cons (le_pcc (by omega)) (.cons (le_pcc (by omega)) .nil))) zk .nil)
      · exact ag5 0 (a+b) b (Xa (Xg R S)) S ⟨.inl rfl,by omega,hb,.inl rfl,by omega,hS,Xs _ _,QqM hp (by omega) rfl rfl⟩ (entL (.cons zle (.cons (le_pcc (by omega)) (.cons zle .nil))) zk .nil)
    · have e13:u % 2=0:=by omega
      rw[e13,Nat.zero_mul] at e12
      have e14:2*b≤u/2*(2*b):=Nat.le_mul_of_pos_left _ (by omega)
      repeat(refine zS ?_;intros)
      exact ag5 (u/2) a (2*b) R (Xa (Xg S S)) ⟨.inr (by omega),by omega,by omega,.inr (by omega),by omega,by omega,hc,Qor hp (by omega) rfl⟩ (entL (.cons zle (.cons zle (.cons (le_pcc (by omega)) .nil))) zk .nil)
  · have e1:=Qvy (M:=M) (L:=L) ha
    repeat(refine zS ?_;intros)
    exact aRet1 rfl zv hK (by rw[pow_end hp (by omega) hc];exact le_pcc e1)⟩
end Go.Proofs.YtjdpemcnlejpfaaGreatDoor
namespace Go.Proofs.YtjdpemcnlejpfaaGreatDoor
open Go.RowKit Go.Gx Go.Am Tryz
instance QyK:TK prog 239 (∀{M x n:Nat}(_:M≤549755813888)(_:n≤9223372036854775807),AC prog 239 [] [num M x,N n] fun K=>K [] [cnum M (x/2^n)]):=⟨fun {M x n} hM hn=>by
  refine aEnter func239 rfl ntmps239 rfl fun K C hC hK=> ?_
  repeat(refine zS ?_;intros)
  rename_i a a1 a2 a3 a4 _
  have e2:=List.length_drop (i:=n/32) (l:=a)
  refine zB ?_ ?_<;>intro h0<;>repeat(refine zS ?_;intros)
  · exact aRet1 rfl zv hK (by rw[←a3,←Qq9 (n:=n) a2 rfl (w:=n/32) (by omega) (by omega)];exact nil_cn)
  have t2: ∀d∈a.drop (n/32),d<BS:=fun d hd=>a2 d (List.mem_of_mem_drop hd)
  refine aL2 [0,6,7,8,31,32] (fun k _=>[(33,N k)]) (fun k P=>[.arr 46 1 ((P++List.replicate ((a.drop (n/32)).length -k) 0).map U)]) (fun k P=>k≤(a.drop (n/32)).length∧P.length=k∧(∀d∈P,d<BS)∧val P=val (a.drop (n/32))/2^ (n % 32) % BS^k) (fun k _=>(a.drop (n/32)).length -k) 0 [] ⟨by omega,rfl,by simp,by simp [val,Nat.mod_one]⟩ (entL (.cons zle .nil) zk (.cons (ob_raw (by simp)) .nil)) fun k P ⟨hk,hP,lP,hv⟩=> ?_
  repeat(refine zS ?_;intros)
  refine zB ?_ ?_<;>intro h
  · have h1:=dlt (i:=k) t2
    have h2:=dlt (i:=k+1) t2
    repeat(refine zS ?_;intros)
    refine zB ?_ ?_<;>intro h3<;>repeat(refine zS ?_;intros)
    · exact ag2 (k+1) (P++[((a.drop (n/32)).getD k 0+(a.drop (n/32)).getD (k+1) 0*2^32)/2^ (n % 32) % 4294967296]) ⟨by omega,by simp [hP],YL lP (Nat.mod_lt _ (by omega)),Qlb t2 (by omega) hv hP (by rw[show(2:Nat)^32=4294967296 from rfl])⟩ (entL (.cons zle .nil) zk (.cons (ob_raw (ZJ hP (by omega))) .nil))
    · exact ag2 (k+1) (P++[(a.drop (n/32)).getD k 0/2^ (n % 32) % 4294967296]) ⟨by omega,by simp [hP],YL lP (Nat.mod_lt _ (by omega)),Qlb t2 (by omega) hv hP (by rw[QaR (ds:=a.drop (n/32)) (n:=(a.drop (n/32)).length) (Nat.le_refl _) (k+1) (by omega),Nat.zero_mul,Nat.add_zero])⟩ (entL (.cons zle .nil) zk (.cons (ob_raw (ZJ hP (by omega))) .nil))
  · obtain rfl:k=(a.drop (n/32)).length:=by omega
    repeat(refine zS ?_;intros)
    refine AL.ent (entFzS hC (s:=62) (by exact rfl) 0 (by exact rfl) lq (a:=num M (x/2^n)) (raw_num (by simp [hP];omega) (QcK lP) (by rw[←a3];exact QtV a2 rfl hv (Nat.le_refl _) (by omega)))) ?_
    repeat(refine zS ?_;intros)
    rename_i r r1 r2 r3 r4
    exact aRet1 rfl zv hK (raw_cn r1 r2 r3 r4)⟩
end Go.Proofs.YtjdpemcnlejpfaaGreatDoor
namespace Go.Proofs.YtjdpemcnlejpfaaGreatDoor
open Go.RowKit Go.Gx Go.Am Tryz
set_option maxHeartbeats 1000000 in
instance QyH:TK prog 236 (∀{a b c d e:Nat}(_:a≤d)(_:0<d)(_:b<4294967296)(_:c<4294967296)(_:d<4294967296)(_:e<4294967296),AC prog 236 [] [U a,U b,U c,U d,U e] fun K=> ∀r,r*Qgi d e≤Qgh a b c→Qlu a b c d e r→r<4294967296→K [] [U r]):=⟨fun {a b c d e} hle hd hb hc hd2 he=>by
  refine aEnter func236 rfl ntmps236 rfl fun K C hC hK=> ?_
  repeat(refine zS ?_;intros)
  refine aJ3 [2,3,4] (fun g r o=>[(11,U g),(12,U r),(13,U o)]) (fun _ _ _=>[]) (fun g r o=>Qdx a b d g (r+4294967296*o)∧Qlu a b c d e g∧o≤1∧r<4294967296∧g<4294967296) ?_ ?_
  · refine zB ?_ ?_<;>intro h<;>repeat(refine zS ?_;intros)
    · rename_i s o e1 e2 e3
      exact jd3 4294967295 s o ⟨Qdx.start1 (by omega) e1,Qlu.start1 _ _ _ _ _,e2,e3,by omega⟩ (entL (.cons zle (.cons zle (.cons zle .nil))) zk .nil)
    · rename_i q m e1 e2 e3
      exact jd3 q m 0 ⟨Qdx.start2 e1,Qlu.start2 e1 e2 hc,by omega,by omega,e3⟩ (entL (.cons zle (.cons zle (.cons zle .nil))) zk .nil)
  rintro g r o ⟨hI,hM,ho,hr,hg⟩
  repeat(refine zS ?_;intros)
  refine aL3 [2,3,4] (fun g r o=>[(11,U g),(12,U r),(13,U o)]) (fun _ _ _=>[]) (fun g r o=>Qdx a b d g (r+4294967296*o)∧Qlu a b c d e g∧o≤1∧r<4294967296∧g<4294967296) (fun g _ _=>g) g r o ⟨hI,hM,ho,hr,hg⟩ (entL (.cons zle (.cons zle (.cons zle .nil))) zk .nil) fun g r o ⟨hI,hM,ho,hr,hg⟩=> ?_
  repeat(refine zS ?_;intros)
  refine zB ?_ ?_<;>intro h
  · repeat(refine zS ?_;intros)
    rename_i h l e1 e2 e3
    have yes:=fun ht=>hK g (QsR (c:=c) hI (by omega) e1 e2 hc ht) hM hg
    have no:=fun ht=>QsQ (c:=c) hI (by omega) e1 e2 hc ht
    have pos:h<r∨h=r∧l≤c∨0<g:=by
      by_cases ht:h<r∨h=r∧l≤c
      · omega
      · have :=QsS (no ht);omega
    repeat' (first | (refine zS ?_;intros)| (refine zB ?_ ?_<;>intro))
    · exact aRet1 rfl zv (yes (by omega)) zle
    · exact aRet1 rfl zv (yes (by omega)) zle
    · rename_i s c' f1 f2 f3
      exact ag3 (g -1) s c' ⟨hI.next0 (by omega) (by omega) (by omega),hM.next (no (by omega)),f2,f3,by omega⟩ (entL (.cons zle (.cons zle (.cons zle .nil))) zk .nil)
    · rename_i s c' f1 f2 f3
      exact ag3 (g -1) s c' ⟨hI.next0 (by omega) (by omega) (by omega),hM.next (no (by omega)),f2,f3,by omega⟩ (entL (.cons zle (.cons zle (.cons zle .nil))) zk .nil)
  · repeat(refine zS ?_;intros)
    exact aRet1 rfl zv (hK g (Qnh hI (by omega) hg he) hM hg) zle⟩
instance QyI:TK prog 237 (∀{g k c d:Nat}{V Z v:List Nat}(_:k=v.length+1)(_:k≤Z.length)(_:v.length≤1099511627776)(_:d<4294967296)(_: ∀d∈V++Z,d<BS) (_: ∀d∈v,d<BS),AC prog 237 [(some g,.arr 46 1 ((V++Z).map U))] [lsl 1 g V.length k c,raw v,U d] fun K=> ∀R bo,R.length=k→(∀d∈R,d<BS)→bo≤1→val R+d*val v=val (Z.take k)+BS^k*bo→K [(some g,.arr 46 1 ((V++(R++Z.drop k)).map U))] [Bo (decide (bo≠0))]):=⟨fun {g k c d V Z v} hk hZ hv40 hd hA hv=>by
  subst hk
  refine aEnterF func237 rfl ntmps237 rfl fun K C hC hK=> ?_
  repeat(refine zS ?_;intros)
  refine aL4 [0,1,2,15,16] (fun k _ b c=>[(17,N k),(8,U b),(7,U c)]) (fun k P _ _=>[.arr 46 1 ((V++(P++Z.drop k)).map U)]) (fun k P b c=>k≤v.length∧P.length=k∧(∀d∈P,d<BS)∧b≤1∧c<4294967296∧val P+d*val (v.take k)=val (Z.take k)+BS^k*(b+c)) (fun k _ _ _=>v.length -k) 0 [] 0 0 ⟨by omega,rfl,by simp,by omega,by omega,by simp [val]⟩ (entL (.cons zle (.cons zle (.cons zle .nil))) zk (.cons (ob_raw (by simp)) .nil)) fun k P b c ⟨hk,hP,hlt,hb,hc,hw⟩=> ?_
  repeat(refine zS ?_;intros)
  have hq:=Qhy (U:=V) rfl hP (show k<Z.length by omega) (t:=V.length+k) rfl
  have hq2:=dlt (i:=k) (Qey hA)
  refine zB ?_ ?_<;>intro h
  · have hq3:=Qch (dlt (i:=k) hv) hd
    have hcm:=Nat.mul_comm d (v.getD k 0)
    repeat(refine zS ?_;intros)
    rename_i m l e1 e2 e3 s c' f1 f2 f3 s' b' g1 g2 g3
    exact ag4 (k+1) (P++[s']) b' (m+c') ⟨by omega,by simp [hP],YL hlt g3,g2,by omega,QoZ hw hP (by omega)⟩ (entL (.cons zle (.cons zle (.cons zle .nil))) zk (.cons (ob_raw (QdV rfl hP (by omega) rfl)) .nil))
  · obtain rfl:k=v.length:=by omega
    repeat(refine zS ?_;intros)
    rename_i s' b' g1 g2 g3
    refine AX.ent (entH (.cons (ob_raw (QdV rfl hP (by omega) rfl)) .nil)) ?_
    exact aRet (rs:=[_]) rfl rfl (.refl _) zr (hK (P++[s']) b' (by simp [hP]) (YL hlt g3) g2 (QtX hw hP (Nat.le_refl _) (by omega)))⟩
instance QyJ:TK prog 238 (∀{g k c:Nat}{V Z v:List Nat}(_:k=v.length+1)(_:k≤Z.length)(_:v.length≤1099511627776)(_: ∀d∈V++Z,d<BS) (_: ∀d∈v,d<BS),AC prog 238 [(some g,.arr 46 1 ((V++Z).map U))] [lsl 1 g V.length k c,raw v] fun K=> ∀R cr,R.length=k→(∀d∈R,d<BS)→val R+BS^k*cr=val (Z.take k)+val v→K [(some g,.arr 46 1 ((V++(R++Z.drop k)).map U))] []):=⟨fun {g k c V Z v} hk hZ hv40 hA hv=>by
  subst hk
  refine aEnterF func238 rfl ntmps238 rfl fun K C hC hK=> ?_
  repeat(refine zS ?_;intros)
  refine aL3 [0,1,7,8] (fun k _ c=>[(9,N k),(4,U c)]) (fun k P _=>[.arr 46 1 ((V++(P++Z.drop k)).map U)]) (fun k P c=>k≤v.length∧P.length=k∧(∀d∈P,d<BS)∧c≤1∧val P+BS^k*c=val (Z.take k)+val (v.take k)) (fun k _ _=>v.length -k) 0 [] 0 ⟨by omega,rfl,by simp,by omega,by simp [val]⟩ (entL (.cons zle (.cons zle .nil)) zk (.cons (ob_raw (by simp)) .nil)) fun k P c ⟨hk,hP,hlt,hc,hw⟩=> ?_
  repeat(refine zS ?_;intros)
  have hq:=Qhy (U:=V) rfl hP (show k<Z.length by omega) (t:=V.length+k) rfl
  have hq2:=dlt (i:=k) (Qey hA)
  refine zB ?_ ?_<;>intro h
  · have hq3:=dlt (i:=k) hv
    repeat(refine zS ?_;intros)
    rename_i s b g1 g2 g3
    exact ag3 (k+1) (P++[s]) b ⟨by omega,by simp [hP],YL hlt g3,g2,Qcb hw hP (by omega)⟩ (entL (.cons zle (.cons zle .nil)) zk (.cons (ob_raw (QdV rfl hP (by omega) rfl)) .nil))
  · obtain rfl:k=v.length:=by omega
    have hd0:v.getD v.length 0=0:=QaR (n:=v.length) (Nat.le_refl _) _ (Nat.le_refl _)
    repeat(refine zS ?_;intros)
    rw[hq]
    refine AX.ent (entH (.cons (ob_raw (QdV rfl hP (by omega) rfl)) .nil)) ?_
    exact aEnd (rs:=[]) rfl rfl (.refl _) zr (hK (P++[_]) ((Z.getD v.length 0+c)/4294967296) (by simp [hP]) (YL hlt (Nat.mod_lt _ (by omega))) (by have :=Qcb (s:=(Z.getD v.length 0+c) % 4294967296) (c':=(Z.getD v.length 0+c)/4294967296) hw hP (by omega);rwa [Yh v (show v.length≤v.length+1 by omega)] at this))⟩
end Go.Proofs.YtjdpemcnlejpfaaGreatDoor
namespace Go.Proofs.YtjdpemcnlejpfaaGreatDoor
open Go.RowKit Go.Gx Go.Am Tryz
set_option maxHeartbeats 2000000 in
instance Qyp:TK prog 202 (∀{M M' x y:Nat}(_:M≤274877906944)(_:M'≤274877906944)(_:0<y),AC prog 202 [] [num M x,num M' y] fun K=>K [] [cnum M (x/y),cnum M' (x % y)]):=⟨fun {M M' x y} hM hM' hy=>by
  refine aEnter func202 rfl ntmps202 rfl fun K C hC hK=>bdN 0 rfl fun hx=>bdN 1 rfl fun hyb=> ?_
  have hq:x/y<BS^M:=Nat.lt_of_le_of_lt (Nat.div_le_self _ _) hx
  have hm:=Nat.mod_lt x hy
  have hr:x % y<BS^M':=Nat.lt_trans hm hyb
  repeat(refine zS ?_;intros)
  rename_i c c1 c2 c3 c4
  refine opC 1 rfl fun b b1 b2 b3 b4=> ?_
  refine zB ?_ ?_<;>intro h<;>repeat(refine zS ?_;intros)
  · refine aRet2 rfl zv zv hK ?_ ?_
    · rw[Nat.div_eq_of_lt (by omega)];exact nil_cn
    · rw[Nat.mod_eq_of_lt (by omega)] at hr⊢;exact cn_lt hr
  have hb0:b.length≠0:=fun h0=>by have :=(canon_zero b4).1 h0;omega
  refine zB ?_ ?_<;>intro h1
  · have hd1:val b=b.getD 0 0:=(Qw9 (d:=b) rfl).2.1 (by omega)
    have hd2:=dlt (i:=0) b2
    rw[←b3,hd1] at hq hr hK
    have :=Nat.mod_lt x (show 0<b.getD 0 0 by omega)
    repeat(refine zS ?_;intros)
    exact aRet2 rfl zv zv hK (cn_lt hq) (cn_lt hr)
  have htop:b.getD (b.length -1) 0≠0:=QmD b4 rfl hb0
  have htl:=dlt (i:=b.length -1) b2
  repeat(refine zS ?_;intros)
  rename_i r r1 r2 r3
  refine alC 49 rfl fun v v1 v2 v3 v4=> ?_
  rw[b3] at v3
  have hnl:=QqC b2 rfl (by omega) r1 r2 r3 (by rw[b3];exact v3) v2 v4
  repeat(refine zS ?_;intros)
  refine alC 52 rfl fun a a1 a2 a3 a4=> ?_
  repeat(refine zS ?_;intros)
  refine alC 59 rfl fun u u1 u2 u3 u4=> ?_
  have hul:=Qbm u4 (QtU a2 rfl a3 u3 r3)
  have hab:b.length≤a.length:=Qd5 a2 b4 (by omega)
  have e0:(List.replicate (a.length+1) 0).take 0++(u++(List.replicate (a.length+1) 0).drop (0+u.length))=u++List.replicate (a.length+1 -u.length) 0:=by simp
  repeat(refine zS ?_;intros)
  refine opC 10 rfl fun v' p1 p2 p3 p4=> ?_
  obtain rfl:v'=v:=QgN p2 v2 p4 v4 (by rw[p3,v3,b3])
  clear p1 p2 p3 p4
  refine aL3 [4,9,10,11,12] (fun(k:Nat) _ _=>[(13,I .i64 ((k:Int) -1))]) (fun k Du Q=>[.arr 46 1 ((List.replicate k 0++Q).map U),.arr 46 1 (Du.map U)]) (fun k Du Q=>k≤a.length+1 -v'.length∧Du.length=a.length+1∧(∀d∈Du,d<BS)∧Q.length=a.length+1 -v'.length -k∧(∀d∈Q,d<BS)∧QhR Du v' Q k (x*2^r)) (fun k _ _=>k) (a.length+1 -v'.length) (u++List.replicate (a.length+1 -u.length) 0) [] ⟨by omega,by simp;omega,QcK u2,by simp,by simp,QhR.start (m:=a.length+1) (n:=v'.length) (s:=r) (va:=x) (by rw[Qco,u3]) rfl (by rw[←a3];exact Za _ a2) r3 (by have h:=QvZ (d:=v') rfl (by omega);have h2:BS^ (v'.length -1)*2147483648≤BS^ (v'.length -1)*v'.getD (v'.length -1) 0:=Nat.mul_le_mul_left _ (by rw[hnl.1];exact hnl.2);omega) (by omega) rfl (by omega)⟩ (entL (.cons zle .nil) zk (.cons (ob_raw (by simp)) (.cons (ob_raw e0) .nil))) fun k Du Q ⟨hk,hD,lD,hQ,lQ,hI⟩=> ?_
  repeat(refine zS ?_;intros)
  refine zB ?_ ?_<;>intro h2
  · obtain⟨V,Z,rfl,rfl⟩: ∃V Z,Du=V++Z∧k=V.length+1:=⟨Du.take (k -1),Du.drop (k -1),(List.take_append_drop ..).symm,by simp;omega⟩
    rw[List.length_append] at hD
    refine AW.ent (entSub (s:=13) (a:=N V.length) leI) ?_
    have hle:=QsT hI rfl (by omega) v2 lD (by omega)
    have hn2:2147483648≤v'.getD (v'.length -1) 0:=by rw[hnl.1];exact hnl.2
    have hd1:=dlt (i:=V.length+v'.length) lD
    have hd2:=dlt (i:=V.length+(v'.length -1)) lD
    have hd3:=dlt (i:=V.length+(v'.length -2)) lD
    have hd4:=dlt (i:=v'.length -1) v2
    have hd5:=dlt (i:=v'.length -2) v2
    repeat(refine zS ?_;intros)
    rename_i q q1 q2 q3
    have e1:(List.replicate (V.length+1) 0++Q).set V.length q=List.replicate V.length 0++(q::Q):=Qk5 rfl rfl
    have e2:(List.replicate V.length 0++(q::Q)).getD V.length 0=q:=Qq0
    refine AL.ent (entSub (s:=113) (a:=U q) (.of_eq (congrArg U (by rw[e1,e2])))) (AL.ent (entH (.cons (ob_raw e1) (.cons (ob_raw rfl) .nil))) ?_)
    repeat(refine zS ?_;intros)
    rename_i R bo g1 g2 g3 g4
    have g4:=g4.trans (by rw[show V.length+v'.length+1 -V.length=v'.length+1 by omega])
    have⟨s1,s2⟩:=Qm6 hI rfl (by omega) v2 lD (by omega) hn2 q1 q2 q3 (by omega) g2 g3 g4
    have hk1:V.length+v'.length+1 -V.length=v'.length+1:=by omega
    rw[hk1] at g1⊢
    refine zB ?_ ?_<;>intro h3
    · repeat(refine zS ?_;intros)
      exact ag3 V.length (V++(R++Z.drop (v'.length+1))) (q::Q) ⟨by omega,by simp [g1];omega,Qdb (fun d hd=>lD d (by simp [hd])) (Qdb g2 fun d hd=>lD d (by simp [List.mem_of_mem_drop hd])),by simp [hQ];omega,QjE lQ q3,s1 (by omega)⟩ (entL (.cons zle .nil) zk (.cons (ob_raw rfl) (.cons (ob_raw rfl) .nil)))
    · have⟨s3,s4⟩:=s2 (by omega)
      have lA: ∀d∈V++(R++Z.drop (v'.length+1)),d<BS:=Qdb (fun d hd=>lD d (by simp [hd])) (Qdb g2 fun d hd=>lD d (by simp [List.mem_of_mem_drop hd]))
      have lz:v'.length+1≤(R++Z.drop (v'.length+1)).length:=by simp [g1]
      repeat(refine zS ?_;intros)
      rename_i R' cr f1 f2 f3
      have f4:(R++Z.drop (v'.length+1)).take (v'.length+1)=R:=by rw[←g1,List.take_left]
      have f5:(R++Z.drop (v'.length+1)).drop (v'.length+1)=Z.drop (v'.length+1):=by rw[←g1,List.drop_left]
      rw[f4] at f3
      rw[f5,e2]
      exact ag3 V.length (V++(R'++Z.drop (v'.length+1))) ((q -1)::Q) ⟨by omega,by simp [f1];omega,Qdb (fun d hd=>lD d (by simp [hd])) (Qdb f2 fun d hd=>lD d (by simp [List.mem_of_mem_drop hd])),by simp [hQ];omega,QjE lQ (by omega),s4 R' cr f1 f2 f3⟩ (entL (.cons zle .nil) zk (.cons (ob_raw QoK) (.cons (ob_raw rfl) .nil)))
  · obtain rfl:k=0:=by omega
    have⟨s1,s2⟩:=QhR.fin (b:=b) hI rfl (by rw[b3];exact v3) rfl
    rw[b3] at s1 s2
    have s3:x/y=val Q:=by rw[s1,Nat.mul_add_div hy,Nat.div_eq_of_lt s2,Nat.add_zero]
    have s4:x % y=val Du/2^r:=by rw[s1,Nat.mul_add_mod,Nat.mod_eq_of_lt s2]
    repeat(refine zS ?_;intros)
    refine AL.ent (entFzS hC (s:=125) (by exact rfl) 0 (by exact rfl) lq (a:=num M (x/y)) (raw_num (by simp;omega) (by simpa using lQ) (by simp [s3]))) ?_
    repeat(refine zS ?_;intros)
    refine AL.ent (entFzS hC (s:=127) (by exact rfl) 0 (by exact rfl) lq (a:=num (M+1) (val Du)) (raw_num (by omega) lD rfl)) ?_
    repeat(refine zS ?_;intros)
    exact aRet2 rfl zv zv hK (le_refl _) (by rw[s4] at hr⊢;exact cn_lt hr)⟩
end Go.Proofs.YtjdpemcnlejpfaaGreatDoor
