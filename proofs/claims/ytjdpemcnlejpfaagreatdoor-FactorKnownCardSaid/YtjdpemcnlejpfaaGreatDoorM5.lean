/-
  M5, M6
-/
import Derived.Test.YtjdpemcnlejpfaaGreatDoorM2
import Derived.Test.YtjdpemcnlejpfaaGreatDoorListPreds
set_option linter.all false
namespace Go.Proofs.YtjdpemcnlejpfaaGreatDoor
open Go.RowKit Go.Gx Go.Am Tryz
theorem Qhf{p:Nat}{f:List Nat}(hp:PrS p)(hf:XE p f)(h:0<f.length):XW f<4294967296∧Nat.gcd (XW f) p=1:=by
  have h1:=hf.last h
  have h2:=hp.lt
  unfold XW
  exact⟨by omega,hp.1.2 _ h1.1 h1.2⟩
theorem Qvg{p a:Nat}(hp:PrS p):ZL p a<4294967296:=by
  have h1:=hp.two
  have h2:=hp.lt
  have :ZL p a<p:=by
    unfold ZL
    cases h:(List.range p).find? fun x=>a*x % p==1 % p with
    |none=>simp;omega
    |some x=>exact List.mem_range.1 (List.mem_of_find?_eq_some h)
  omega
instance QyP:TK prog 254 (∀{f g:List Nat}{p:Nat}(_:PrS p)(_:f.length≤262144)(_:g.length≤262144)(_:XE p f)(_:XE p g)(_:0<f.length+g.length),AC prog 254 [] [raw f,raw g,W32 p] fun K=>K [] [raw (QmO p f g)]):=⟨fun {f g p} hp hf hg hcf hcg h0=>by
  refine aEnter func254 rfl ntmps254 rfl fun K C hC hK=> ?_
  have h1:=hp.two
  have h2:=hp.lt
  have hp0:0<p:=by omega
  repeat(refine zS ?_;intros)
  refine aL4 [2] (fun a b u v=>[(0,raw a),(1,raw b),(7,raw u),(8,raw v)]) (fun _ _ _ _=>[]) (fun a b u v=>XE p a∧XE p b∧XE p u∧XE p v∧0<a.length+b.length∧u.length+b.length≤f.length+g.length+1∧v.length+a.length≤f.length+g.length+1∧(b.length≤a.length∨v.length=0)∧Qbg p b.length a b u v=QmO p f g) (fun _ b _ _=>b.length) f g [1] [] ⟨hcf,hcg,Qjb hp,XE.nil,h0,by simp;omega,by simp;omega,.inr rfl,rfl⟩ (entL (.cons zle (.cons zle (.cons (le_refl (raw [1])) (.cons nil_raw .nil)))) zk (HLe.none _)) fun a b u v ⟨ca,cb,cu,cv,l0,lu,lv,lo,hI⟩=> ?_
  repeat(refine zS ?_;intros)
  refine zB ?_ ?_<;>intro h
  · have⟨k1,k2,k3,k4,k5,_⟩:=Ym (q:=(XH p a b).1) (r:=(XH p a b).2) hp.1 ca cb (by omega) rfl
    have m1:=Qa6 p (XH p a b).1 v
    have s1:=Qds p u (Qau p (XH p a b).1 v)
    have bu:=QaY cu hp
    have bm:=QaY (QeN hp (XH p a b).1 v) hp
    have cs:=QgL hp u (Qau p (XH p a b).1 v)
    repeat(refine zS ?_;intros)
    exact ag4 b (XH p a b).2 v (QhQ p u (Qau p (XH p a b).1 v)) ⟨cb,k2,cv,cs,by omega,by omega,by omega,.inl (by omega),by rw[←QpL hp.1 ca cb (by omega)];exact hI⟩ (entL (.cons zle (.cons zle (.cons zle (.cons zle .nil)))) zk (HLe.none _))
  · rw[←hI,Qsz (by omega)] at hK
    have⟨b1,b2⟩:=Qhf hp ca (by omega)
    have b3:=Qvg (p:=p) (a:=XW a) hp
    have bu:=QaY cu hp
    unfold XW at b1 b2 b3 hK
    repeat(refine zS ?_;intros)
    exact aRet1 rfl zv hK (le_refl _)⟩
theorem Qpx{P:Program}{n:Nat}{C:Ctx}{env:Nat→AV}{H:Hp}{fn:Func}{L:Hp→List AV→Prop}{t t' t'' u:Nat}{a b a' b' a'' b'' c d:AV}(hr:fn.results= #[.tmp t,.tmp t',.tmp t'',.tmp u])(h:av n env (.tmp t)=b)(h':av n env (.tmp t')=b')(h'':av n env (.tmp t'')=b'')(h3:av n env (.tmp u)=d)(k:L [] [a,a',a'',c])(hb:b.le a)(hb':b'.le a')(hb'':b''.le a'')(hd:d.le c):AX n [] C (bodyPost P fn (Ret (Post C L))) .ret env H:=aRet (rs:=[.tmp t,.tmp t',.tmp t'',.tmp u]) hr rfl (List.nil_sublist _) (arT h hb (arT h' hb' (arT h'' hb'' (arT h3 hd arN)))) k
theorem Qqk{p:Nat}{f g:List Nat}(hp:PrS p)(hf:XE p f)(hg:XE p g):(XN p f g).length≤max f.length g.length:=by
  rcases Nat.eq_zero_or_pos g.length with h|h
  · rw[Qnt h,Qam hp.1 hf];omega
  · have :=Qjt hp.1 hf hg h;omega
theorem Qkj{p:Nat}(hp:PrS p)(M:Nat): ∀(n:Nat)(a b u v:List Nat),XE p a→XE p b→u.length+b.length≤M→v.length+a.length≤M→b.length≤a.length∨v.length=0→(Qbg p n a b u v).length≤M
  |0,a,b,u,v,_,_,lu,_,_=>by
    rw[Qbg]
    have :=Zh (u.map fun x=>x*ZL p (XW a) % p)
    have :(Qbp p u (ZL p (XW a))).length≤u.length:=by unfold Qbp;simpa using this
    omega
  |n+1,a,b,u,v,ca,cb,lu,lv,lo=>by
    rw[Qbg]
    split
    · have :=Zh (u.map fun x=>x*ZL p (XW a) % p)
      have :(Qbp p u (ZL p (XW a))).length≤u.length:=by unfold Qbp;simpa using this
      omega
    · have⟨k1,k2,k3,k4,k5,_⟩:=Ym (q:=(XH p a b).1) (r:=(XH p a b).2) hp.1 ca cb (by omega) rfl
      have m1:=Qa6 p (XH p a b).1 v
      have s1:=Qds p u (Qau p (XH p a b).1 v)
      exact Qkj hp M n _ _ _ _ cb k2 (by omega) (by omega) (.inl (by omega))
set_option maxHeartbeats 1000000 in
instance QyA:TK prog 225 (∀{f g:List Nat}{p:Nat}(_:PrS p)(_:f.length≤65536)(_:g.length≤65536),AC prog 225 [] [raw f,raw g,W32 p] fun K=>K [] [raw (Qb9 p (XO p f) (XO p g)).1,raw (Qb9 p (XO p f) (XO p g)).2.1,raw (Qb9 p (XO p f) (XO p g)).2.2,I .i64 0]):=⟨fun {f g p} hp hf hg=>by
  refine aEnter func225 rfl ntmps225 rfl fun K C hC hK=> ?_
  have h1:=hp.two
  have h2:=hp.lt
  have hip:=QbU hp
  have n1:=YN p f
  have n2:=YN p g
  have k1:=YX (p:=p) (by omega) f
  have k2:=YX (p:=p) (by omega) g
  obtain⟨F,hF⟩: ∃F,XO p f=F:=⟨_,rfl⟩
  obtain⟨G,hG⟩: ∃G,XO p g=G:=⟨_,rfl⟩
  repeat(refine zS ?_;intros)
  rw[hF] at n1 k1 hK
  rw[hG] at n2 k2 hK
  rw[hF,hG]
  have hd:(XN p F G).length≤65536:=by
    have :=Qqk hp k1 k2;omega
  refine zB ?_ ?_<;>intro h
  · repeat(refine zS ?_;intros)
    refine zB ?_ ?_<;>intro h3
    · rw[xg1 (by omega) (by omega)] at hK
      repeat(refine zS ?_;intros)
      exact Qpx rfl zv zv zv zv hK nil_raw nil_raw nil_raw (le_refl _)
    · rw[xg2 (by omega) (by omega)] at hK
      have⟨b1,b2⟩:=Qhf hp k1 (by omega)
      unfold XW at b1 b2 hK
      repeat(refine zS ?_;intros)
      exact Qpx rfl zv zv zv zv hK (le_refl _) zle nil_raw (le_refl _)
  · repeat(refine zS ?_;intros)
    refine zB ?_ ?_<;>intro h3
    · rw[xg3 (by omega) (by omega)] at hK
      have⟨b1,b2⟩:=Qhf hp k2 (by omega)
      unfold XW at b1 b2 hK
      repeat(refine zS ?_;intros)
      exact Qpx rfl zv zv zv zv hK (le_refl _) nil_raw zle (le_refl _)
    · rw[xg4 (p:=p) (F:=F) (G:=G) (q1:=(XH p G (XN p F G)).1) (r1:=(XH p G (XN p F G)).2) (q6:=(XH p (QhQ p (XN p F G) (Qau p (XH p (QmO p F G) (XH p G (XN p F G)).1).2 F)) G).1) (r6:=(XH p (QhQ p (XN p F G) (Qau p (XH p (QmO p F G) (XH p G (XN p F G)).1).2 F)) G).2) (by omega) (by omega) rfl rfl rfl rfl rfl rfl] at hK
      have g1:=Qc6 (by omega:0<p) G.length F G
      have g2:=QrK hp.1 k1 k2 (by omega)
      have g3:=Qjt hp.1 k1 k2 (by omega)
      change XE p (XN p F G) at g1
      obtain⟨d,hd9⟩: ∃d,XN p F G=d:=⟨_,rfl⟩
      rw[hd9] at hd g1 g2 g3 hK
      have⟨y1,y2,y3,y4,y5,y6⟩:=Ym (q:=(XH p G d).1) (r:=(XH p G d).2) hp.1 k2 g1 g2 rfl
      have c1:(QmO p F G).length≤F.length+G.length+1:=Qkj hp _ _ _ _ _ _ k1 k2 (by simp;omega) (by simp;omega) (.inr rfl)
      have c2:XE p (QmO p F G):=Qc1 (by omega) _ _ _ _ _
      obtain⟨c,hc9⟩: ∃c,QmO p F G=c:=⟨_,rfl⟩
      rw[hc9] at c1 c2 hK
      have⟨u1,u2,u3,u4,u5,u6⟩:=Ym (q:=(XH p c (XH p G d).1).1) (r:=(XH p c (XH p G d).1).2) hp.1 c2 y1 (by omega) rfl
      have m1:=Qa6 p (XH p c (XH p G d).1).2 F
      have m2:=QaY (QeN hp (XH p c (XH p G d).1).2 F) hp
      have s1:=Qds p d (Qau p (XH p c (XH p G d).1).2 F)
      have s2:=QgL hp d (Qau p (XH p c (XH p G d).1).2 F)
      have bd:=QaY g1 hp
      rw[hd9]
      repeat(refine zS ?_;intros)
      rw[hc9]
      repeat(refine zS ?_;intros)
      exact Qpx rfl zv zv zv zv hK (le_refl _) (le_refl _) (le_refl _) (le_refl _)⟩
theorem Qcr{k:Option Nat}{n m c:Nat}(h:n=m):(gh k n c).le (gh k m c):=h▸le_refl _
theorem Qa4{t:TypeId}{z c:Nat}{l l':List AV}(h:l=l'):(Ob.gro t z l c).le (.gro t z l' c):=h▸ob_refl _
theorem Qas:nilS.le (gh none 0 0):= .of_eq (by unfold nilS gh;rfl)
instance QyN:TK prog 244 (∀{n p:Nat}(_:PrS p)(_:p=2∧n≤1000∨p≠2∧n+p<9223372036854775808),AC prog 244 [] [I .u64 (n:Int),W32 p] fun K=> ∀t,Qd3 p n t→t.length≤65536→K [] [raw t]):=⟨fun {n p} hp hn=>by
  refine aEnter func244 rfl ntmps244 rfl fun K C hC hK=> ?_
  have h1:=hp.two
  have h2:=hp.lt
  repeat(refine zS ?_;intros)
  refine zB ?_ ?_<;>intro h
  · repeat(refine zS ?_;intros)
    refine AX.ent (entFzS hC (s:=4) (by exact rfl) 0 (by exact rfl) (by simp) (a:=raw ((List.replicate (2*n+2) 0).set (2*n+1) 1)) (.of_eq (by unfold raw;simp))) ?_
    exact aRet1 rfl zv (hK _ (Qug (by omega)) (by simp;omega)) (le_refl _)
  repeat(refine zS ?_;intros)
  refine AW.ent (entGro 46 1) ?_
  refine aLoop [1] (fun x:Option Nat×Nat×List Nat×Nat=>[(6,gh x.1 x.2.2.1.length x.2.1),(7,I .u64 (x.2.2.2:Int))]) (fun x=>[(x.1,.gro 46 1 (x.2.2.1.map U) x.2.1)]) (fun x=>TrI p n x.2.2.1 x.2.2.1.length x.2.2.2∧x.2.2.2≤n+p∧x.2.2.1.length≤64) (fun x=>x.2.2.2) (none,0,[],n+p) ⟨TrI.start (by omega),Nat.le_refl _,by simp⟩ (entL (.cons Qas (.cons zle .nil)) zk (HLe.refl _)) fun⟨k,c,L,r⟩ ⟨hI,hr,hl⟩=> ?_
  dsimp only at hI hr hl⊢
  repeat(refine zS ?_;intros)
  refine zB ?_ ?_<;>intro h3
  · have hb:=hI.bound (by omega) (by omega) (by omega)
    repeat(refine zS ?_;intros)
    repeat(refine zS ?_;intros)
    rename_i k' c'
    have h4:r/p<r:=Nat.div_lt_self (by omega) (by omega)
    have h5:r % p<p:=Nat.mod_lt _ (by omega)
    exact aAgain (k',c',L++[r % p],r/p) ⟨by rw[List.length_append];exact hI.step (by omega) rfl (by omega) rfl,by show r/p≤n+p;omega,by simp;omega⟩ h4 (entL (.cons (Qcr (by simp)) (.cons zle .nil)) zk (.cons (Qa4 (by rw[List.map_append,Nat.mod_eq_of_lt (show r % p<4294967296 by omega)];rfl)) .nil))
  · repeat(refine zS ?_;intros)
    refine AX.ent (entFzG hC (s:=4) (by exact rfl) 0 (by exact rfl) (by simp)) ?_
    exact aRet1 rfl zv (hK _ (hI.done (by omega) (by omega)) (by omega)) (le_refl _)⟩
end Go.Proofs.YtjdpemcnlejpfaaGreatDoor
namespace Go.Proofs.YtjdpemcnlejpfaaGreatDoor
open Go.RowKit Go.Gx Go.Am Tryz
theorem Qpy{P:Program}{n:Nat}{C:Ctx}{env:Nat→AV}{H:Hp}{fn:Func}{L:Hp→List AV→Prop}{t z n1 m c:Nat}{k:Option Nat}{el:TypeId}{l l':List AV}(hr:fn.results= #[.tmp t])(h:av n env (.tmp t)=gh k n1 c)(hs:H=[(k,.gro el z l c)])(hn:n1=m)(hl:l=l')(q:L [(k,.gro el z l' c)] [gh k m c]):AX n [] C (bodyPost P fn (Ret (Post C L))) .ret env H:=by
  subst hn;subst hl;subst hs
  exact aRet (rs:=[.tmp t]) hr rfl (List.Sublist.refl _) (arT h (le_refl _) arN) q
theorem Qsw{p:Nat}(hp:PrS p)(f g:List Nat):XE p (Qpr p f g):=XK (by have :=hp.two;omega) _
theorem QvP{p:Nat}{f g:List Nat}(hp:PrS p)(hf:XE p f)(hg:XE p g)(h:0<g.length):XE p (XH p f g).1∧XE p (XH p f g).2∧(XH p f g).2.length<g.length∧(XH p f g).1.length≤f.length:=by
  have⟨a1,a2,a3,a4,_,_⟩:=Ym (q:=(XH p f g).1) (r:=(XH p f g).2) hp.1 hf hg h rfl
  exact⟨a1,a2,a3,by omega⟩
set_option maxHeartbeats 1000000 in
instance QyM:TK prog 243 (∀{t f:List Nat}{d p:Nat}(_:PrS p)(_:t.length≤65536)(_:f.length≤65536)(_:XE p t)(_:XE p f)(_:0<f.length)(_:1≤d)(_:d≤65536),AC prog 243 [] [raw t,raw f,Am.N d,W32 p] fun K=> ∀s,Qsk p f d t s→s.length≤f.length→K [] [raw s]):=⟨fun {t f d p} hp ht hf hct hcf hf0 hd1 hd2=>by
  refine aEnter func243 rfl ntmps243 rfl fun K C hC hK=> ?_
  have h1:=hp.two
  have h2:=hp.lt
  have hp0:0<p:=by omega
  have⟨_,b2,b3,_⟩:=QvP hp hct hcf hf0
  repeat(refine zS ?_;intros)
  refine aL4 [1,3,19] (fun c s q i=>[(9,raw c),(10,raw s),(11,raw q),(20,Am.N i)]) (fun _ _ _ _=>[]) (fun c s q i=>XE p c∧XE p s∧XE p q∧c.length<f.length∧s.length<f.length∧q.length<f.length∧i≤d -1∧Qmv p f t i c s q) (fun _ _ _ i=>d -1 -i) (XH p t f).2 (XH p t f).2 (XH p t f).2 0 ⟨b2,b2,b2,b3,b3,b3,by omega,Qmv.start (QdT hp0 rfl)⟩ (entL (.cons zle (.cons zle (.cons zle (.cons zle .nil)))) zk (HLe.none _)) fun c s q i ⟨cc,cs,cq,lc,ls,lq,hi,hI⟩=> ?_
  have bs:=QaY cs hp
  repeat(refine zS ?_;intros)
  refine zB ?_ ?_<;>intro h
  · repeat(refine zS ?_;intros)
    rename_i c' cc' lc' hc'
    have a1:=Qpz p s c'
    have a2:=Qsw hp s c'
    have bc:=QaY cc' hp
    repeat(refine zS ?_;intros)
    refine zB ?_ ?_<;>intro h3
    · have m1:=(Qa6 p q c').1
      have m2:=QeN hp q c'
      have⟨_,e2,e3,_⟩:=QvP hp m2 hcf hf0
      repeat(refine zS ?_;intros)
      exact ag4 c' (Qpr p s c') (XH p (Qau p q c') f).2 (i+1) ⟨cc',a2,e2,lc',by omega,e3,by omega,hI.next hp0 hc' rfl fun _=>Qip hp0 rfl rfl⟩ (entL (.cons zle (.cons zle (.cons zle (.cons zle .nil)))) zk (HLe.none _))
    · repeat(refine zS ?_;intros)
      exact ag4 c' (Qpr p s c') q (i+1) ⟨cc',a2,cq,lc',by omega,lq,by omega,hI.next hp0 hc' rfl fun h9=>absurd (by omega) h9⟩ (entL (.cons zle (.cons zle (.cons zle (.cons zle .nil)))) zk (HLe.none _))
  · repeat(refine zS ?_;intros)
    refine zB ?_ ?_<;>intro h3
    · repeat(refine zS ?_;intros)
      exact aRet1 rfl zv (hK s (hI.two (by omega) (by omega) cs) (by omega)) (le_refl _)
    · repeat(refine zS ?_;intros)
      rename_i r cr lr hr
      have br:=QaY cr hp
      have bo:=QaY (Qjb hp) hp
      have o1:[1].length≤1048576:=by simp
      have s1:=Qds p r [1]
      have cs:=QgL hp r [1]
      have o2:[1].length=1:=rfl
      refine AL.ent (entSub (s:=53) (a:=raw [1]) (le_refl _)) ?_
      repeat(refine zS ?_;intros)
      exact aRet1 rfl zv (hK _ (hI.odd (by omega) (by omega) hp0 hr rfl cs) (by omega)) (le_refl _)⟩
theorem Qq4{p d:Nat}{f t s:List Nat}(h:Qsk p f d t s):XE p s:=h.1
theorem Qmk{p n:Nat}{t:List Nat}(h:Qd3 p n t):XE p t:=h.1
set_option maxHeartbeats 1000000 in
instance Qyv:TK prog 219 (∀{f:List Nat}{d p:Nat}(_:PrS p)(_:f.length≤1000)(_:EdW p d f)(_:1≤d)(_:p=2∨p^ (d+1)≤9223372036854775808),AC prog 219 [] [raw f,Am.N d,W32 p] fun K=> ∀k c (l:List (List Nat)),Zv p (Gx.zl f) l→l.length+1≤f.length→K [(k,.gro 66 1 (l.map raw) c)] [gh k l.length c]):=by
  refine⟨?_⟩
  intro f
  induction hn:f.length using Nat.strongRecOn generalizing f with
  |ind n IH=>
  intro d p hp hf he hd hb
  refine aEnter func219 rfl ntmps219 rfl fun K C hC hK=> ?_
  have h1:=hp.two
  have h2:=hp.lt
  have hp0:0<p:=by omega
  have hfm:=he.mon
  have hcf:XE p f:=hfm.can
  have hpos:=hfm.pos
  subst hn
  repeat(refine zS ?_;intros)
  have ih:TK prog 219 (∀{f':List Nat}{d p:Nat}(_:PrS p)(_:f'.length<f.length)(_:EdW p d f')(_:1≤d)(_:p=2∨p^ (d+1)≤9223372036854775808),AC prog 219 [] [raw f',Am.N d,W32 p] fun K=> ∀k c (l:List (List Nat)),Zv p (Gx.zl f') l→l.length+1≤f'.length→K [(k,.gro 66 1 (l.map raw) c)] [gh k l.length c]):=⟨fun hp h=>IH _ h rfl hp (by omega)⟩
  refine zB ?_ ?_<;>intro h
  · iterate 3 (refine zS ?_;intros)
    refine alO (aoLitG _ rfl zLv (by kernel_rfl) rfl) zg ?_
    intro g
    repeat(refine zS ?_;intros)
    exact Qpy rfl zv (by exact rfl) (by exact rfl) (by exact rfl) (hK (some g) 1 [f] (.one hfm (he.whole hp.1 hd (by omega))) (by simp;omega))
  obtain⟨N,hN1,hN2⟩:=Qwj hp.1 hd he (by omega)
  have hN3:p=2∧N≤1000∨p≠2∧N+p<9223372036854775808:=by
    rcases hN1 with⟨e,h9⟩| ⟨e,h9⟩
    · exact .inl ⟨e,by omega⟩
    · refine .inr ⟨e,?_⟩
      rcases hb with h8|h8
      · exact absurd h8 e
      · omega
  repeat(refine zS ?_;intros)
  refine aL1 [0,1,2] (fun(i:Nat)=>[(7,I .u64 (i:Int))]) (fun _=>[]) (fun i=>i≤N) (fun i=>N -i) 0 (by omega) (entL (.cons zle .nil) zk (HLe.none _)) fun i hi=> ?_
  repeat(refine zS ?_;intros)
  have hi2:p=2∧i≤1000∨p≠2∧i+p<9223372036854775808:=by omega
  have hd65:d≤65536:=by omega
  repeat(refine zS ?_;intros)
  rename_i t ht htl
  have ct:=Qmk ht
  repeat(refine zS ?_;intros)
  rename_i s hs hsl
  have cs:=Qq4 hs
  repeat(refine zS ?_;intros)
  refine zB ?_ ?_<;>intro h3
  · repeat(refine zS ?_;intros)
    refine zB ?_ ?_<;>intro h4
    · have⟨e1,e2,e3,e4⟩:=Qp7 (q:=(XH p f (XN p s f)).1) (r:=(XH p f (XN p s f)).2) hp.1 he cs rfl (by omega) (by omega) rfl
      have cu:=e1.mon.can
      have cq:=e2.mon.can
      have l1:(XN p s f).length<f.length:=by omega
      repeat(refine zS ?_;intros)
      rename_i k1 c1 L1 o1 n1 k2 c2 L2 o2 n2
      have hs1:(XN p s f).length+(XH p f (XN p s f)).1.length≤f.length+1:=by
        have⟨_,_,_,a4,_,_⟩:=Ym (q:=(XH p f (XN p s f)).1) (r:=(XH p f (XN p s f)).2) hp.1 hcf cu (by omega) rfl
        omega
      refine AL.ent (entFzG hC (s:=54) (by exact rfl) 0 (by exact rfl) (by simp)) ?_
      repeat(refine zS ?_;intros)
      rename_i k3 c3
      exact Qpy rfl zv (by exact rfl) (by simp) (by rw[List.map_append]) (hK k3 c3 (L1++L2) ((o1.app o2).cg e3.symm) (by rw[List.length_append];omega))
    · have hi3:=Qnc hN2 hi ht hs rfl (by omega)
      repeat(refine zS ?_;intros)
      exact ag1 (i+1) hi3 (entL (.cons zle .nil) zk (HLe.none _))
  · have hi3:=Qnc hN2 hi ht hs rfl (by omega)
    repeat(refine zS ?_;intros)
    exact ag1 (i+1) hi3 (entL (.cons zle .nil) zk (HLe.none _))
set_option maxHeartbeats 1000000 in
instance Qyd:TK prog 178 (∀{f:List Nat}{p:Nat}(_:PrS p)(_:f.length≤1000)(_:Mn p f)(_:SqF p f)(_:p=2∨p^ ((f.length -1)/2+1)≤9223372036854775808),AC prog 178 [] [raw f,W32 p] fun K=> ∀k c (l:List (List Nat)),Zv p (Gx.zl f) l→l.length+1≤f.length→K [(k,.gro 66 1 (l.map raw) c)] [gh k l.length c]):=⟨fun {f p} hp hf hm hs hb=>by
  refine aEnter func178 rfl ntmps178 rfl fun K C hC hK=> ?_
  have h1:=hp.two
  have h2:=hp.lt
  have hp0:0<p:=by omega
  have hcf:=hm.can
  have hpos:=hm.pos
  have cx:XE p [0,1]:=⟨fun d hd=>by simp at hd;omega,fun _=>by simp⟩
  have bx:=QaY cx hp
  have lx:[0,1].length=2:=rfl
  have⟨_,b2,b3,_⟩:=QvP hp cx hcf (by omega)
  repeat(refine zS ?_;intros)
  refine AL.ent (entSub (s:=6) (a:=raw [0,1]) (le_refl _)) ?_
  refine AL.ent (entSub (s:=11) (a:=raw [0,1]) (le_refl _)) ?_
  repeat(refine zS ?_;intros)
  refine AW.ent (entGro 66 1) ?_
  refine aLoop [1,6] (fun x:Option Nat×Nat×List (List Nat)×List Nat×List Nat×Nat=>[(0,raw x.2.2.2.1),(5,gh x.1 x.2.2.1.length x.2.1),(7,raw x.2.2.2.2.1),(8,Am.N x.2.2.2.2.2)]) (fun x=>[(x.1,.gro 66 1 (x.2.2.1.map raw) x.2.1)]) (fun x=>BdI p x.2.2.2.2.2 (Gx.zl f) x.2.2.1 x.2.2.2.1 x.2.2.2.2.1∧1≤x.2.2.2.2.2∧x.2.2.2.2.2≤f.length∧x.2.2.2.2.1.length<max 2 x.2.2.2.1.length∧x.2.2.1.length+x.2.2.2.1.length≤f.length) (fun x=>f.length+1 -x.2.2.2.2.2) (none,0,[],f,(XH p [0,1] f).2,1) ⟨BdI.start hm hs b2 (QdT hp0 rfl),by show 1≤1;omega,by show 1≤f.length;omega,by show(XH p [0,1] f).2.length<max 2 f.length;omega,by show 0+f.length≤f.length;omega⟩ (entL (.cons zle (.cons Qas (.cons zle (.cons zle .nil)))) zk (HLe.refl _)) fun⟨k,c,L,g,w,d⟩ ⟨hI,hd1,hd2,hw,hl⟩=> ?_
  dsimp only at hI hd1 hd2 hw hl⊢
  have mg:=hI.mn
  have cg:=mg.can
  have gpos:=mg.pos
  have cw:=hI.can
  repeat(refine zS ?_;intros)
  refine zB ?_ ?_<;>intro h
  · repeat(refine zS ?_;intros)
    rename_i r cr lr hr
    have br:=QaY cr hp
    have s1:=Qds p r [0,1]
    have cs:=QgL hp r [0,1]
    have hu:CgV (p:Int) (Gx.zl (QhQ p r [0,1])) (XD (Gx.zl r) [0,1]):=Qjg hp0 r [0,1]
    obtain⟨u,eu⟩: ∃u,QhQ p r [0,1]=u:=⟨_,rfl⟩
    rw[eu] at cs hu s1
    have v1:=Qjt hp.1 cs cg (by omega)
    have v2:XE p (XN p u g):=Qc6 hp0 _ _ _
    repeat(refine zS ?_;intros)
    rw[eu]
    repeat(refine zS ?_;intros)
    refine zB ?_ ?_<;>intro h3
    · have e1:=hI.ed hp.1 hd1 cs hr hu (by omega)
      have hb2:p=2∨p^ (d+1)≤9223372036854775808:=hb.imp id fun h9=>Nat.le_trans (Nat.pow_le_pow_right hp0 (by omega)) h9
      have⟨z1,z2,z3⟩:=hI.size (q:=(XH p g (XN p u g)).1) (r:=(XH p g (XN p u g)).2) hp.1 cs rfl (by omega) rfl
      have⟨_,y2,y3,_⟩:=QvP hp cr z3 (by omega)
      repeat(refine zS ?_;intros)
      rename_i k2 c2 L2 o2 n2
      refine AL.ent (entFzG hC (s:=43) (by exact rfl) 0 (by exact rfl) (by simp)) ?_
      repeat(refine zS ?_;intros)
      rename_i k3 c3
      exact aAgain (k3,c3,L++L2,(XH p g (XN p u g)).1,(XH p r (XH p g (XN p u g)).1).2,d+1) ⟨hI.yes hp.1 hd1 cs hr hu (by omega) o2 rfl y2 (QdT hp0 rfl),by show 1≤d+1;omega,by show d+1≤f.length;omega,by show(XH p r (XH p g (XN p u g)).1).2.length<max 2 (XH p g (XN p u g)).1.length;omega,by show(L++L2).length+(XH p g (XN p u g)).1.length≤f.length;rw[List.length_append];omega⟩ (by show f.length+1 -(d+1)<f.length+1 -d;omega) (entL (.cons zle (.cons (Qcr (by simp)) (.cons zle (.cons zle .nil)))) zk (.cons (Qa4 (by rw[List.map_append])) .nil))
    · repeat(refine zS ?_;intros)
      exact aAgain (k,c,L,g,r,d+1) ⟨hI.no hp.1 hd1 cr cs hr hu (by omega),by show 1≤d+1;omega,by show d+1≤f.length;omega,by show r.length<max 2 g.length;omega,hl⟩ (by show f.length+1 -(d+1)<f.length+1 -d;omega) (entL (.cons zle (.cons zle (.cons zle (.cons zle .nil)))) zk (HLe.refl _))
  · repeat(refine zS ?_;intros)
    refine zB ?_ ?_<;>intro h3
    · repeat(refine zS ?_;intros)
      rename_i k3 c3
      exact Qpy rfl zv (by exact rfl) (by simp) (by rw[List.map_append];rfl) (hK k3 c3 (L++[g]) (hI.done2 hp.1 (by omega) (by omega)) (by rw[List.length_append];show L.length+1+1≤f.length;omega))
    · repeat(refine zS ?_;intros)
      exact Qpy rfl zv (by exact rfl) rfl rfl (hK k c L (hI.done1 (by omega)) (by omega))⟩
end Go.Proofs.YtjdpemcnlejpfaaGreatDoor
