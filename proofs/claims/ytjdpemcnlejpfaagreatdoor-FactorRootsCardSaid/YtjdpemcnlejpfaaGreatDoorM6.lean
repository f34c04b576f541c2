/-
  M6
-/
import Derived.Test.YtjdpemcnlejpfaaGreatDoorM2
set_option linter.all false
namespace Go.Proofs.YtjdpemcnlejpfaaGreatDoor
open Go.RowKit Go.Gx Go.Am Tryz
theorem Qpy{P:Program}{n:Nat}{C:Ctx}{env:Nat→AV}{H:Hp}{fn:Func}{L:Hp→List AV→Prop}{t z n1 m c:Nat}{k:Option Nat}{el:TypeId}{l l':List AV}(hr:fn.results= #[.tmp t])(h:av n env (.tmp t)=gh k n1 c)(hs:H=[(k,.gro el z l c)])(hn:n1=m)(hl:l=l')(q:L [(k,.gro el z l' c)] [gh k m c]):AX n [] C (bodyPost P fn (Ret (Post C L))) .ret env H:=by
  subst hn;subst hl;subst hs
  exact aRet (rs:=[.tmp t]) hr rfl (List.Sublist.refl _) (arT h (le_refl _) arN) q
theorem Qsw{p:Nat}(hp:PrS p)(f g:List Nat):XE p (Qpr p f g):=XK (by have :=hp.two;omega) _
theorem QvP{p:Nat}{f g:List Nat}(hp:PrS p)(hf:XE p f)(hg:XE p g)(h:0<g.length):XE p (XH p f g).1∧XE p (XH p f g).2∧(XH p f g).2.length<g.length∧(XH p f g).1.length≤f.length:=by
  have⟨a1,a2,a3,a4,_,_⟩:=Ym (q:=(XH p f g).1) (r:=(XH p f g).2) hp.1 hf hg h rfl
  exact⟨a1,a2,a3,by omega⟩
set_option maxHeartbeats 1000000 in
instance QyM:TK prog 243 (∀{t f:List Nat}{d p:Nat}(_:PrS p)(_:t.length≤65536)(_:f.length≤65536)(_:XE p t)(_:XE p f)(_:0<f.length)(_:1≤d)(_:d≤65536),AC prog 243 [] [raw t,raw f,Am.N d,W32 p] fun K=> ∀s,Qsk p f d t s→s.length≤f.length→K [] [raw s]):=⟨fun {t f d p} hp ht hf hct hcf hf0 hd1 hd2=>by
  refine aEnter func243 rfl ntmps243 rfl fun K C hC hK=> ?_
  have h1:=hp.two
  have h2:=hp.lt
  have hp0:0<p:=by omega
  have⟨_,b2,b3,_⟩:=QvP hp hct hcf hf0
  repeat(refine zS ?_;intros)
  refine aL4 [1,3,19] (fun c s q i=>[(9,raw c),(10,raw s),(11,raw q),(20,Am.N i)]) (fun _ _ _ _=>[]) (fun c s q i=>XE p c∧XE p s∧XE p q∧c.length<f.length∧s.length<f.length∧q.length<f.length∧i≤d -1∧Qmv p f t i c s q) (fun _ _ _ i=>d -1 -i) (XH p t f).2 (XH p t f).2 (XH p t f).2 0 ⟨b2,b2,b2,b3,b3,b3,by omega,Qmv.start (QdT hp0 rfl)⟩ (entL (.cons zle (.cons zle (.cons zle (.cons zle .nil)))) zk (HLe.none _)) fun c s q i ⟨cc,cs,cq,lc,ls,lq,hi,hI⟩=> ?_
  have bs:=QaY cs hp
  repeat(refine zS ?_;intros)
  refine zB ?_ ?_<;>intro h
  · repeat(refine zS ?_;intros)
    rename_i c' cc' lc' hc'
    have a1:=Qpz p s c'
    have a2:=Qsw hp s c'
    have bc:=QaY cc' hp
    repeat(refine zS ?_;intros)
    refine zB ?_ ?_<;>intro h3
    · have m1:=(Qa6 p q c').1
      have m2:=QeN hp q c'
      have⟨_,e2,e3,_⟩:=QvP hp m2 hcf hf0
      repeat(refine zS ?_;intros)
      exact ag4 c' (Qpr p s c') (XH p (Qau p q c') f).2 (i+1) ⟨cc',a2,e2,lc',by omega,e3,by omega,hI.next hp0 hc' rfl fun _=>Qip hp0 rfl rfl⟩ (entL (.cons zle (.cons zle (.cons zle (.cons zle .nil)))) zk (HLe.none _))
    · repeat(refine zS ?_;intros)
      exact ag4 c' (Qpr p s c') q (i+1) ⟨cc',a2,cq,lc',by omega,lq,by omega,hI.next hp0 hc' rfl fun h9=>absurd (by omega) h9⟩ (entL (.cons zle (.cons zle (.cons zle (.cons zle .nil)))) zk (HLe.none _))
  · repeat(refine zS ?_;intros)
    refine zB ?_ ?_<;>intro h3
    · repeat(refine zS ?_;intros)
      exact aRet1 rfl zv (hK s (hI.two (by omega) (by omega) cs) (by omega)) (le_refl _)
    · repeat(refine zS ?_;intros)
      rename_i r cr lr hr
      have br:=QaY cr hp
      have bo:=QaY (Qjb hp) hp
      have o1:[1].length≤1048576:=by simp
      have s1:=Qds p r [1]
      have cs:=QgL hp r [1]
      have o2:[1].length=1:=rfl
      refine AL.ent (entSub (s:=53) (a:=raw [1]) (le_refl _)) ?_
      repeat(refine zS ?_;intros)
      exact aRet1 rfl zv (hK _ (hI.odd (by omega) (by omega) hp0 hr rfl cs) (by omega)) (le_refl _)⟩
theorem Qq4{p d:Nat}{f t s:List Nat}(h:Qsk p f d t s):XE p s:=h.1
theorem Qmk{p n:Nat}{t:List Nat}(h:Qd3 p n t):XE p t:=h.1
set_option maxHeartbeats 1000000 in
instance Qyv:TK prog 219 (∀{f:List Nat}{d p:Nat}(_:PrS p)(_:f.length≤1000)(_:EdW p d f)(_:1≤d)(_:p=2∨p^ (d+1)≤9223372036854775808),AC prog 219 [] [raw f,Am.N d,W32 p] fun K=> ∀k c (l:List (List Nat)),Zv p (Gx.zl f) l→l.length+1≤f.length→K [(k,.gro 66 1 (l.map raw) c)] [gh k l.length c]):=by
  refine⟨?_⟩
  intro f
  induction hn:f.length using Nat.strongRecOn generalizing f with
  |ind n IH=>
  intro d p hp hf he hd hb
  refine aEnter func219 rfl ntmps219 rfl fun K C hC hK=> ?_
  have h1:=hp.two
  have h2:=hp.lt
  have hp0:0<p:=by omega
  have hfm:=he.mon
  have hcf:XE p f:=hfm.can
  have hpos:=hfm.pos
  subst hn
  repeat(refine zS ?_;intros)
  have ih:TK prog 219 (∀{f':List Nat}{d p:Nat}(_:PrS p)(_:f'.length<f.length)(_:EdW p d f')(_:1≤d)(_:p=2∨p^ (d+1)≤9223372036854775808),AC prog 219 [] [raw f',Am.N d,W32 p] fun K=> ∀k c (l:List (List Nat)),Zv p (Gx.zl f') l→l.length+1≤f'.length→K [(k,.gro 66 1 (l.map raw) c)] [gh k l.length c]):=⟨fun hp h=>IH _ h rfl hp (by omega)⟩
  refine zB ?_ ?_<;>intro h
  · iterate 3 (refine zS ?_;intros)
    refine alO (aoLitG _ rfl zLv (by kernel_rfl) rfl) zg ?_
    intro g
    repeat(refine zS ?_;intros)
    exact Qpy rfl zv (by exact rfl) (by exact rfl) (by exact rfl) (hK (some g) 1 [f] (.one hfm (he.whole hp.1 hd (by omega))) (by simp;omega))
  obtain⟨N,hN1,hN2⟩:=Qwj hp.1 hd he (by omega)
  have hN3:p=2∧N≤1000∨p≠2∧N+p<9223372036854775808:=by
    rcases hN1 with⟨e,h9⟩| ⟨e,h9⟩
    · exact .inl ⟨e,by omega⟩
    · refine .inr ⟨e,?_⟩
      rcases hb with h8|h8
      · exact absurd h8 e
      · omega
  repeat(refine zS ?_;intros)
  refine aL1 [0,1,2] (fun(i:Nat)=>[(7,I .u64 (i:Int))]) (fun _=>[]) (fun i=>i≤N) (fun i=>N -i) 0 (by omega) (entL (.cons zle .nil) zk (HLe.none _)) fun i hi=> ?_
  repeat(refine zS ?_;intros)
  have hi2:p=2∧i≤1000∨p≠2∧i+p<9223372036854775808:=by omega
  have hd65:d≤65536:=by omega
  repeat(refine zS ?_;intros)
  rename_i t ht htl
  have ct:=Qmk ht
  repeat(refine zS ?_;intros)
  rename_i s hs hsl
  have cs:=Qq4 hs
  repeat(refine zS ?_;intros)
  refine zB ?_ ?_<;>intro h3
  · repeat(refine zS ?_;intros)
    refine zB ?_ ?_<;>intro h4
    · have⟨e1,e2,e3,e4⟩:=Qp7 (q:=(XH p f (XN p s f)).1) (r:=(XH p f (XN p s f)).2) hp.1 he cs rfl (by omega) (by omega) rfl
      have cu:=e1.mon.can
      have cq:=e2.mon.can
      have l1:(XN p s f).length<f.length:=by omega
      repeat(refine zS ?_;intros)
      rename_i k1 c1 L1 o1 n1 k2 c2 L2 o2 n2
      have hs1:(XN p s f).length+(XH p f (XN p s f)).1.length≤f.length+1:=by
        have⟨_,_,_,a4,_,_⟩:=Ym (q:=(XH p f (XN p s f)).1) (r:=(XH p f (XN p s f)).2) hp.1 hcf cu (by omega) rfl
        omega
      refine AL.ent (entFzG hC (s:=54) (by exact rfl) 0 (by exact rfl) (by simp)) ?_
      repeat(refine zS ?_;intros)
      rename_i k3 c3
      exact Qpy rfl zv (by exact rfl) (by simp) (by rw[List.map_append]) (hK k3 c3 (L1++L2) ((o1.app o2).cg e3.symm) (by rw[List.length_append];omega))
    · have hi3:=Qnc hN2 hi ht hs rfl (by omega)
      repeat(refine zS ?_;intros)
      exact ag1 (i+1) hi3 (entL (.cons zle .nil) zk (HLe.none _))
  · have hi3:=Qnc hN2 hi ht hs rfl (by omega)
    repeat(refine zS ?_;intros)
    exact ag1 (i+1) hi3 (entL (.cons zle .nil) zk (HLe.none _))
set_option maxHeartbeats 1000000 in
instance Qyd:TK prog 178 (∀{f:List Nat}{p:Nat}(_:PrS p)(_:f.length≤1000)(_:Mn p f)(_:SqF p f)(_:p=2∨p^ ((f.length -1)/2+1)≤9223372036854775808),AC prog 178 [] [raw f,W32 p] fun K=> ∀k c (l:List (List Nat)),Zv p (Gx.zl f) l→l.length+1≤f.length→K [(k,.gro 66 1 (l.map raw) c)] [gh k l.length c]):=⟨fun {f p} hp hf hm hs hb=>by
  refine aEnter func178 rfl ntmps178 rfl fun K C hC hK=> ?_
  have h1:=hp.two
  have h2:=hp.lt
  have hp0:0<p:=by omega
  have hcf:=hm.can
  have hpos:=hm.pos
  have cx:XE p [0,1]:=⟨fun d hd=>by simp at hd;omega,fun _=>by simp⟩
  have bx:=QaY cx hp
  have lx:[0,1].length=2:=rfl
  have⟨_,b2,b3,_⟩:=QvP hp cx hcf (by omega)
  repeat(refine zS ?_;intros)
  refine AL.ent (entSub (s:=6) (a:=raw [0,1]) (le_refl _)) ?_
  refine AL.ent (entSub (s:=11) (a:=raw [0,1]) (le_refl _)) ?_
  repeat(refine zS ?_;intros)
  refine AW.ent (entGro 66 1) ?_
  refine aLoop [1,6] (fun x:Option Nat×Nat×List (List Nat)×List Nat×List Nat×Nat=>[(0,raw x.2.2.2.1),(5,gh x.1 x.2.2.1.length x.2.1),(7,raw x.2.2.2.2.1),(8,Am.N x.2.2.2.2.2)]) (fun x=>[(x.1,.gro 66 1 (x.2.2.1.map raw) x.2.1)]) (fun x=>BdI p x.2.2.2.2.2 (Gx.zl f) x.2.2.1 x.2.2.2.1 x.2.2.2.2.1∧1≤x.2.2.2.2.2∧x.2.2.2.2.2≤f.length∧x.2.2.2.2.1.length<max 2 x.2.2.2.1.length∧x.2.2.1.length+x.2.2.2.1.length≤f.length) (fun x=>f.length+1 -x.2.2.2.2.2) (none,0,[],f,(XH p [0,1] f).2,1) ⟨BdI.start hm hs b2 (QdT hp0 rfl),by show 1≤1;omega,by show 1≤f.length;omega,by show(XH p [0,1] f).2.length<max 2 f.length;omega,by show 0+f.length≤f.length;omega⟩ (entL (.cons zle (.cons Qas (.cons zle (.cons zle .nil)))) zk (HLe.refl _)) fun⟨k,c,L,g,w,d⟩ ⟨hI,hd1,hd2,hw,hl⟩=> ?_
  dsimp only at hI hd1 hd2 hw hl⊢
  have mg:=hI.mn
  have cg:=mg.can
  have gpos:=mg.pos
  have cw:=hI.can
  repeat(refine zS ?_;intros)
  refine zB ?_ ?_<;>intro h
  · repeat(refine zS ?_;intros)
    rename_i r cr lr hr
    have br:=QaY cr hp
    have s1:=Qds p r [0,1]
    have cs:=QgL hp r [0,1]
    have hu:CgV (p:Int) (Gx.zl (QhQ p r [0,1])) (XD (Gx.zl r) [0,1]):=Qjg hp0 r [0,1]
    obtain⟨u,eu⟩: ∃u,QhQ p r [0,1]=u:=⟨_,rfl⟩
    rw[eu] at cs hu s1
    have v1:=Qjt hp.1 cs cg (by omega)
    have v2:XE p (XN p u g):=Qc6 hp0 _ _ _
    repeat(refine zS ?_;intros)
    rw[eu]
    repeat(refine zS ?_;intros)
    refine zB ?_ ?_<;>intro h3
    · have e1:=hI.ed hp.1 hd1 cs hr hu (by omega)
      have hb2:p=2∨p^ (d+1)≤9223372036854775808:=hb.imp id fun h9=>Nat.le_trans (Nat.pow_le_pow_right hp0 (by omega)) h9
      have⟨z1,z2,z3⟩:=hI.size (q:=(XH p g (XN p u g)).1) (r:=(XH p g (XN p u g)).2) hp.1 cs rfl (by omega) rfl
      have⟨_,y2,y3,_⟩:=QvP hp cr z3 (by omega)
      repeat(refine zS ?_;intros)
      rename_i k2 c2 L2 o2 n2
      refine AL.ent (entFzG hC (s:=43) (by exact rfl) 0 (by exact rfl) (by simp)) ?_
      repeat(refine zS ?_;intros)
      rename_i k3 c3
      exact aAgain (k3,c3,L++L2,(XH p g (XN p u g)).1,(XH p r (XH p g (XN p u g)).1).2,d+1) ⟨hI.yes hp.1 hd1 cs hr hu (by omega) o2 rfl y2 (QdT hp0 rfl),by show 1≤d+1;omega,by show d+1≤f.length;omega,by show(XH p r (XH p g (XN p u g)).1).2.length<max 2 (XH p g (XN p u g)).1.length;omega,by show(L++L2).length+(XH p g (XN p u g)).1.length≤f.length;rw[List.length_append];omega⟩ (by show f.length+1 -(d+1)<f.length+1 -d;omega) (entL (.cons zle (.cons (Qcr (by simp)) (.cons zle (.cons zle .nil)))) zk (.cons (Qa4 (by rw[List.map_append])) .nil))
    · repeat(refine zS ?_;intros)
      exact aAgain (k,c,L,g,r,d+1) ⟨hI.no hp.1 hd1 cr cs hr hu (by omega),by show 1≤d+1;omega,by show d+1≤f.length;omega,by show r.length<max 2 g.length;omega,hl⟩ (by show f.length+1 -(d+1)<f.length+1 -d;omega) (entL (.cons zle (.cons zle (.cons zle (.cons zle .nil)))) zk (HLe.refl _))
  · repeat(refine zS ?_;intros)
    refine zB ?_ ?_<;>intro h3
    · repeat(refine zS ?_;intros)
      rename_i k3 c3
      exact Qpy rfl zv (by exact rfl) (by simp) (by rw[List.map_append];rfl) (hK k3 c3 (L++[g]) (hI.done2 hp.1 (by omega) (by omega)) (by rw[List.length_append];show L.length+1+1≤f.length;omega))
    · repeat(refine zS ?_;intros)
      exact Qpy rfl zv (by exact rfl) rfl rfl (hK k c L (hI.done1 (by omega)) (by omega))⟩
end Go.Proofs.YtjdpemcnlejpfaaGreatDoor
