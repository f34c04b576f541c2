/-
  M2, M3, M4, M5
-/
import Derived.Test.YtjdpemcnlejpfaaGreatDoorW1
import Derived.Test.YtjdpemcnlejpfaaGreatDoorSepMath
import Derived.Test.YtjdpemcnlejpfaaGreatDoorLiftThy5
set_option linter.all false
namespace Go.Proofs.YtjdpemcnlejpfaaGreatDoor
open Go.RowKit Go.Gx Go.Am Tryz
set_option maxHeartbeats 1000000 in
instance QxE:TK prog 123 (∀{f:List Nat}{p:Nat}(_:f.length≤1048576)(_: ∀d∈f,d<BS) (_:1<p) (_:p<4294967296),AC prog 123 [] [raw f,W32 p] fun K=>K [] [raw (XR p (Xn (zl f)))]):=⟨fun {f p} hf hfl h1 h2=>by
  refine aEnter func123 rfl ntmps123 rfl fun K C hC hK=> ?_
  repeat(refine zS ?_;intros)
  refine zB ?_ ?_<;>intro h0
  · rw[←QsD (df:=f) rfl (by omega)] at hK
    repeat(refine zS ?_;intros)
    exact aRet1 rfl zv hK nil_raw
  have hdl:(Xn (zl f)).length=f.length -1:=by simp [Xn,Zl]
  unfold XR at hK
  repeat(refine zS ?_;intros)
  refine aL2 [0,1,5,6,19] (fun k _=>[(20,N k)]) (fun k P=>[.arr 46 1 ((P++List.replicate (f.length -1 -k) 0).map U)]) (fun k P=>k≤f.length -1∧P=(List.range k).map fun i=>md p (co (Xn (zl f)) i)) (fun k _=>f.length -1 -k) 0 [] ⟨by omega,rfl⟩ (entL (.cons zle .nil) zk (.cons (ob_raw (by simp)) .nil)) fun k P ⟨hk,hP⟩=> ?_
  have hP1:P.length=k:=by rw[hP];simp
  repeat(refine zS ?_;intros)
  refine zB ?_ ?_<;>intro h
  · have hm:(k+1) % p<p:=Nat.mod_lt _ (by omega)
    have hd:=dlt (i:=k+1) hfl
    repeat(refine zS ?_;intros)
    exact ag2 (k+1) (P++[f.getD (k+1) 0*((k+1) % p) % p]) ⟨by omega,QjN hP (QpW (by omega) rfl)⟩ (entL (.cons zle .nil) zk (.cons (ob_raw (QfT hP1 (by omega))) .nil))
  · obtain rfl:k=f.length -1:=by omega
    rw[←QqV hdl] at hK
    repeat(refine zS ?_;intros)
    refine AL.ent (entFzS hC (s:=40) (by exact rfl) 0 (by exact rfl) lq (a:=raw ((List.range (f.length -1)).map fun i=>md p (co (Xn (zl f)) i))) (.of_eq (by rw[hP,Nat.sub_self,List.replicate_zero,List.append_nil]))) ?_
    repeat(refine zS ?_;intros)
    exact aRet1 rfl zv hK (le_refl _)⟩
theorem YN(p:Nat)(f:List Nat):(XO p f).length≤f.length:=by
  have :=Zh (f.map (· % p));simpa [XO] using this
set_option maxHeartbeats 2000000 in
instance QxI:TK prog 127 (∀{f g:List Nat}{p:Nat}(_:f.length≤1048576)(_:g.length≤1048576)(_:1<p)(_:p<4294967296),AC prog 127 [] [raw f,raw g,W32 p] fun K=>K [] [raw (Qau p f g)]):=⟨fun {f g p} hf hg h1 h2=>by
  refine aEnter func127 rfl ntmps127 rfl fun K C hC hK=> ?_
  have n1:=YN p f
  have n2:=YN p g
  have k1:=(YX (p:=p) (by omega) f).1
  have k2:=(YX (p:=p) (by omega) g).1
  have hnil:(XO p f).length=0∨(XO p g).length=0→[]=Qau p f g:=Qqx rfl rfl
  have hfin: ∀{i:Nat}{o:List Nat},(∀j,o.getD j 0=md p (Qhi (zl (XO p f)) (zl (XO p g)) i 0 j))→(zl (XO p f)).length≤i→o.length=(zl (XO p f)).length+(zl (XO p g)).length -1→(zl (XO p f)).length≠0→(zl (XO p g)).length≠0→YK o=Qau p f g:=Qqw
  generalize Qau p f g=W at *
  repeat(refine zS ?_;intros)
  generalize XO p f=F at *
  generalize XO p g=G at *
  have e1:=Zl F
  have e2:=Zl G
  refine zB ?_ ?_<;>intro h
  · rw[←hnil (.inl (by omega))] at hK
    repeat(refine zS ?_;intros)
    exact aRet1 rfl zv hK nil_raw
  repeat(refine zS ?_;intros)
  refine zB ?_ ?_<;>intro h'
  · rw[←hnil (.inr (by omega))] at hK
    repeat(refine zS ?_;intros)
    exact aRet1 rfl zv hK nil_raw
  repeat(refine zS ?_;intros)
  refine aL2 [1,7,8,37,38] (fun i _=>[(39,N i)]) (fun i o=>[.arr 46 1 (o.map U)]) (fun i o=>i≤F.length∧o.length=F.length+G.length -1∧(∀d∈o,d<p)∧ ∀j,o.getD j 0=md p (Qhi (zl F) (zl G) i 0 j)) (fun i _=>F.length -i) 0 (List.replicate (F.length+G.length -1) 0) ⟨by omega,by simp,fun d hd=>by rw[List.eq_of_mem_replicate hd];omega,Qn3 _⟩ (entL (.cons zle .nil) zk (.cons (ob_raw rfl) .nil)) fun i o ⟨hi,hl,hlt,ho⟩=> ?_
  repeat(refine zS ?_;intros)
  refine zB ?_ ?_<;>intro h3
  · repeat(refine zS ?_;intros)
    refine aL2 [1,7,8,9,10,37,38,39,44,45] (fun k _=>[(46,N k)]) (fun k q=>[.arr 46 1 (q.map U)]) (fun k q=>k≤G.length∧q.length=F.length+G.length -1∧(∀d∈q,d<p)∧ ∀j,q.getD j 0=md p (Qhi (zl F) (zl G) i k j)) (fun k _=>G.length -k) 0 o ⟨by omega,hl,hlt,ho⟩ (entL (.cons zle .nil) zk (.cons (ob_raw rfl) .nil)) fun k q ⟨hk,hql,hqt,hq⟩=> ?_
    repeat(refine zS ?_;intros)
    refine zB ?_ ?_<;>intro h4
    · have b1:=Quo (i:=i) (by omega) k1
      have b2:=Quo (i:=k) (by omega) k2
      have b3:=Quo (i:=i+k) (by omega) hqt
      have b4:F.getD i 0*G.getD k 0≤4294967295*4294967295:=Nat.mul_le_mul (by omega) (by omega)
      have b5:F.getD i 0*G.getD k 0 % p<p:=Nat.mod_lt _ (by omega)
      have b6:(q.getD (i+k) 0+F.getD i 0*G.getD k 0 % p) % p<p:=Nat.mod_lt _ (by omega)
      repeat(refine zS ?_;intros)
      exact ag2 (k+1) (q.set (i+k) ((q.getD (i+k) 0+F.getD i 0*G.getD k 0 % p) % p)) ⟨by omega,by simp [hql],QnQ hqt b6,Qn1 (by omega) hq (by omega) rfl (ZS _ _) (ZS _ _)⟩ (entL (.cons zle .nil) zk (.cons (ob_raw rfl) .nil))
    · obtain rfl:k=G.length:=by omega
      repeat(refine zS ?_;intros)
      exact ag2 (i+1) q ⟨by omega,hql,hqt,Qn2 (by rw[e2];exact hq)⟩ (entL (.cons zle .nil) zk (.cons (ob_raw rfl) .nil))
  · have hf:=hfin ho (by omega) (by omega) (by omega) (by omega)
    rw[←hf] at hK
    repeat(refine zS ?_;intros)
    refine AL.ent (entFzS hC (s:=76) (by exact rfl) 0 (by exact rfl) (by rw[List.length_map];omega) (a:=raw o) (le_refl _)) ?_
    repeat(refine zS ?_;intros)
    exact aRet1 rfl zv hK (le_refl _)⟩
end Go.Proofs.YtjdpemcnlejpfaaGreatDoor
namespace Go.Proofs.YtjdpemcnlejpfaaGreatDoor
open Go.RowKit Go.Gx Go.Am Tryz
theorem QbU{p:Nat}(hp:PrS p):AC prog 77 [] [W32 p] fun K=>K [] [Bo true]:=by
  have :=c77.k (n:=p) hp.lt
  rwa [(ZZ hp.lt).2 hp.1] at this
theorem QaY{p:Nat}{f:List Nat}(h:XE p f)(hp:PrS p): ∀d∈f,d<BS:=Qtf (by have :=hp.lt;omega) h.1
instance QxJ:TK prog 128 (∀{f:List Nat}{p:Nat}(_:PrS p)(_:f.length≤1048576)(_:XE p f),AC prog 128 [] [raw f,W32 p] fun K=>K [] [raw (XS p f)]):=⟨fun {f p} hp hf hc=>by
  refine aEnter func128 rfl ntmps128 rfl fun K C hC hK=> ?_
  have h1:=hp.two
  have h2:=hp.lt
  unfold XS at hK
  repeat(refine zS ?_;intros)
  refine zB ?_ ?_<;>intro h
  · rw[if_pos (by omega)] at hK
    repeat(refine zS ?_;intros)
    exact aRet1 rfl zv hK nil_raw
  rw[if_neg (by omega)] at hK
  unfold XW at hK
  have hco:=QkH hp.1 hc (by omega)
  have hl:=hc.last (by omega)
  have hi:=Qak hp.1 hl.1 hl.2
  have hb:=QaY hc hp
  repeat(refine zS ?_;intros)
  exact aRet1 rfl zv hK (le_refl _)⟩
instance Qyk:TK prog 186 (∀{f:List Nat}{p:Nat}(_:PrS p)(_:f.length≤1048576),AC prog 186 [] [raw f,W32 p] fun K=>K [] [raw (XS p (XO p f)),I .i64 0]):=⟨fun {f p} hp hf=>by
  refine aEnter func186 rfl ntmps186 rfl fun K C hC hK=> ?_
  have h1:=hp.two
  have h2:=hp.lt
  have hip:=QbU hp
  have hn:=YN p f
  have hc:=YX (p:=p) (by omega) f
  repeat(refine zS ?_;intros)
  exact aRet2 rfl zv zv hK (le_refl _) (le_refl _)⟩
set_option maxHeartbeats 4000000 in
instance QxH:TK prog 126 (∀{f g:List Nat}{p:Nat}(_:PrS p)(_:f.length≤1048576)(_:g.length≤1048576)(_:XE p f)(_:XE p g)(_:0<g.length),AC prog 126 [] [raw f,raw g,W32 p] fun K=>K [] [raw (XH p f g).1,raw (XH p f g).2]):=⟨fun {f g p} hp hf hg hcf hcg hg0=>by
  refine aEnter func126 rfl ntmps126 rfl fun K C hC hK=> ?_
  have h1:=hp.two
  have h2:=hp.lt
  have hco:=QkH hp.1 hcg hg0
  have hl:=hcg.last hg0
  have hi:=Qak hp.1 hl.1 hl.2
  have hb:=QaY hcg hp
  repeat(refine zS ?_;intros)
  refine zB ?_ ?_<;>intro h
  · have e:XH p f g=([],f):=by unfold XH;rw[if_pos (by omega)]
    rw[e] at hK
    repeat(refine zS ?_;intros)
    refine AX.ent (entFzS hC (s:=7) (by exact rfl) 0 (by exact rfl) lq (a:=raw f) (.of_eq (by simp))) ?_
    exact aRet2 rfl zv zv hK nil_raw (le_refl _)
  obtain⟨d,hd⟩: ∃d,g.length=d+1:=⟨g.length -1,by omega⟩
  refine AW.ent (entSub (s:=8) (a:=Am.N d) leI) ?_
  have hd1:g.length -1=d:=by omega
  rw[hd1] at hco hl hi
  obtain⟨inv,hinv⟩: ∃inv,ZL p (g.getD d 0)=inv:=⟨_,rfl⟩
  obtain⟨m,hm⟩: ∃m,f.length -d=m:=⟨_,rfl⟩
  rw[hinv] at hi
  repeat(refine zS ?_;intros)
  rw[hinv,hm]
  refine aL3 [1,2,6,7,8,9,46] (fun k _ _=>[(47,Am.N k)]) (fun _ Q R=>[.arr 46 1 (Q.map U),.arr 46 1 (R.map U)]) (fun k Q R=>k≤m∧Q.length=m∧R.length=f.length∧(∀d∈Q,d<p)∧(∀d∈R,d<p)∧Ze p inv g (m -k) (Q,R)=Ze p inv g m (List.replicate m 0,f)) (fun k _ _=>m -k) 0 (List.replicate m 0) f ⟨by omega,by simp,rfl,fun d hd=>by rw[List.eq_of_mem_replicate hd];omega,hcf.1,rfl⟩ (entL (.cons zle .nil) zk (.cons (ob_raw (by simp)) (.cons (ob_raw (by simp)) .nil))) fun k Q R ⟨hk,hQ,hR,hQt,hRt,hI⟩=> ?_
  repeat(refine zS ?_;intros)
  refine zB ?_ ?_<;>intro h3
  · obtain⟨low,hlow⟩: ∃low,m -k=low+1:=⟨m -k -1,by omega⟩
    iterate 20 (refine zS ?_;intros)
    refine AW.ent (entSub (s:=12) (a:=Am.N low) leI) ?_
    have b1:=Quo (i:=low+d) (by omega) hRt
    obtain⟨c,hc⟩: ∃c,R.getD (low+d) 0*inv % p=c:=⟨_,rfl⟩
    have hcp:c<p:=by rw[←hc];exact Nat.mod_lt _ (by omega)
    have hc':c=R.getD (low+(g.length -1)) 0*inv % p:=by rw[hd1,hc]
    iterate 11 (refine zS ?_;intros)
    rw[hc]
    repeat(refine zS ?_;intros)
    refine zB ?_ ?_<;>intro h4
    · have hz:=Qp3 hI hlow hc' (by omega)
      repeat(refine zS ?_;intros)
      exact ag3 (k+1) (Q.set low c) R ⟨by omega,by simp [hQ],hR,QnQ hQt hcp,hRt,by rw[show m -(k+1)=low by omega];exact hz⟩ (entL (.cons zle .nil) zk (.cons (ob_raw rfl) (.cons (ob_raw rfl) .nil)))
    repeat(refine zS ?_;intros)
    refine aL1 [1,2,6,7,8,9,12,14,46,47,74,75] (fun j=>[(76,Am.N j)]) (fun j=>[.arr 46 1 ((Q.set low c).map U),.arr 46 1 ((Qa9 p g low (p -c) j R).map U)]) (fun j=>j≤g.length) (fun j=>g.length -j) 0 (by omega) (entL (.cons zle .nil) zk (.cons (ob_raw rfl) (.cons (ob_raw (by rw[Qly])) .nil))) fun j hj=> ?_
    have hA:=QgI (p:=p) (g:=g) (n:=low) (c:=p -c) (k:=j) hRt (by omega)
    have hAl:(Qa9 p g low (p -c) j R).length=f.length:=YS.trans hR
    repeat(refine zS ?_;intros)
    refine zB ?_ ?_<;>intro h5
    · have b2:=Quo (i:=j) (by omega) hcg.1
      have b3:=Quo (i:=low+j) (by omega) hA
      have b4:(p -c)*g.getD j 0≤4294967295*4294967295:=Nat.mul_le_mul (by omega) (by omega)
      have b5:(p -c)*g.getD j 0 % p<p:=Nat.mod_lt _ (by omega)
      have b6:((Qa9 p g low (p -c) j R).getD (low+j) 0+(p -c)*g.getD j 0 % p) % p<p:=Nat.mod_lt _ (by omega)
      repeat(refine zS ?_;intros)
      exact ag1 (j+1) (by omega) (entL (.cons zle .nil) zk (.cons (ob_raw rfl) (.cons (ob_raw (Qlx (by omega) rfl)) .nil)))
    · obtain rfl:j=g.length:=by omega
      have hz:=QsI hI hlow hc' (by omega) rfl
      repeat(refine zS ?_;intros)
      exact ag3 (k+1) (Q.set low c) (Qa9 p g low (p -c) g.length R) ⟨by omega,by simp [hQ],hAl,QnQ hQt hcp,hA,by rw[show m -(k+1)=low by omega];exact hz⟩ (entL (.cons zle .nil) zk (.cons (ob_raw rfl) (.cons (ob_raw rfl) .nil)))
  · obtain rfl:k=m:=by omega
    rw[QsJ (by omega) (by rw[hd1,hinv]) hI (by omega) (by omega) rfl rfl] at hK
    repeat(refine zS ?_;intros)
    refine AL.ent (entFzS hC (s:=107) (by exact rfl) 0 (by exact rfl) (by rw[List.length_map];exact hQ) (a:=raw Q) (le_refl _)) ?_
    repeat(refine zS ?_;intros)
    refine AL.ent (entFzS hC (s:=109) (by exact rfl) 0 (by exact rfl) (by rw[List.length_map];exact hR) (a:=raw R) (le_refl _)) ?_
    repeat(refine zS ?_;intros)
    exact aRet2 rfl zv zv hK (le_refl _) (le_refl _)⟩
end Go.Proofs.YtjdpemcnlejpfaaGreatDoor
namespace Go.Proofs.YtjdpemcnlejpfaaGreatDoor
open Go.RowKit Go.Gx Go.Am Tryz
theorem Qa6(p:Nat)(f g:List Nat):(Qau p f g).length≤f.length+g.length -1∧(f.length=0∨g.length=0→(Qau p f g).length=0):=by
  have h1:=YN p f
  have h2:=YN p g
  have h3:=Zh ((Xg (zl (XO p f)) (zl (XO p g))).map (md p))
  have h4:(Xg (zl (XO p f)) (zl (XO p g))).length≤(XO p f).length+(XO p g).length -1∧((XO p f).length=0∨(XO p g).length=0→(Xg (zl (XO p f)) (zl (XO p g))).length=0):=by
    unfold Xg
    split
    · simp
    · rename_i h;simp [Zl] at h⊢;simp [h]
  have e:(Qau p f g).length≤(Xg (zl (XO p f)) (zl (XO p g))).length:=by unfold Qau XR;simpa using h3
  constructor
  · omega
  · intro h;have :=h4.2 (by omega);omega
theorem QeN{p:Nat}(hp:PrS p)(f g:List Nat):XE p (Qau p f g):=XK (by have :=hp.two;omega) _
theorem QgL{p:Nat}(hp:PrS p)(f g:List Nat):XE p (QhQ p f g):=XK (by have :=hp.two;omega) _
theorem Qds(p:Nat)(f g:List Nat):(QhQ p f g).length≤max f.length g.length:=by
  have h3:=Zh ((XD (zl f) (zl g)).map (md p))
  unfold QhQ XR
  simpa [XD,Zl] using h3
theorem Qpz(p:Nat)(f g:List Nat):(Qpr p f g).length≤max f.length g.length:=by
  have h3:=Zh ((Xx (zl f) (zl g)).map (md p))
  unfold Qpr XR
  simpa [Xx,Zl] using h3
theorem Qjb{p:Nat}(hp:PrS p):XE p [1]:=⟨fun d hd=>by have :=hp.two;simp at hd;omega,fun _=>by simp⟩
instance c85:TK prog 85 (∀{f g:List Nat}{p:Nat}(_:PrS p)(_:f.length≤1048576)(_:g.length≤1048576)(_:XE p f)(_:XE p g)(_:0<g.length),AC prog 85 [] [raw f,raw g,W32 p] fun K=>K [] [raw (XH p f g).2]):=⟨fun {f g p} hp hf hg hcf hcg hg0=>by
  refine aEnter func85 rfl ntmps85 rfl fun K C hC hK=> ?_
  repeat(refine zS ?_;intros)
  exact aRet1 rfl zv hK (le_refl _)⟩
instance Qyz:TK prog 224 (∀{f g:List Nat}{p:Nat}(_:PrS p)(_:f.length≤1048576)(_:g.length≤1048576)(_:0<(XO p g).length),AC prog 224 [] [raw f,raw g,W32 p] fun K=>K [] [raw (XH p (XO p f) (XO p g)).1,raw (XH p (XO p f) (XO p g)).2,I .i64 0]):=⟨fun {f g p} hp hf hg hg0=>by
  refine aEnter func224 rfl ntmps224 rfl fun K C hC hK=> ?_
  have h1:=hp.two
  have h2:=hp.lt
  have hip:=QbU hp
  have n1:=YN p f
  have n2:=YN p g
  have k1:=YX (p:=p) (by omega) f
  have k2:=YX (p:=p) (by omega) g
  repeat(refine zS ?_;intros)
  exact aRet3 rfl zv zv zv hK (le_refl _) (le_refl _) (le_refl _)⟩
instance c87:TK prog 87 (∀{f g:List Nat}{p:Nat}(_:PrS p)(_:f.length≤1048576)(_:g.length≤1048576)(_:XE p f)(_:XE p g),AC prog 87 [] [raw f,raw g,W32 p] fun K=>K [] [raw (XN p f g)]):=⟨fun {f g p} hp hf hg hcf hcg=>by
  refine aEnter func87 rfl ntmps87 rfl fun K C hC hK=> ?_
  have h1:=hp.two
  have h2:=hp.lt
  repeat(refine zS ?_;intros)
  refine aL2 [2] (fun a b=>[(0,raw a),(1,raw b)]) (fun _ _=>[]) (fun a b=>XE p a∧XE p b∧a.length≤1048576∧b.length≤1048576∧XN p a b=XN p f g) (fun _ b=>b.length) f g ⟨hcf,hcg,hf,hg,rfl⟩ (entL (.cons zle (.cons zle .nil)) zk (HLe.none _)) fun a b ⟨ca,cb,la,lb,hI⟩=> ?_
  repeat(refine zS ?_;intros)
  refine zB ?_ ?_<;>intro h
  · have⟨_,k2,k3,_,k5,_⟩:=Ym (q:=(XH p a b).1) (r:=(XH p a b).2) hp.1 ca cb (by omega) rfl
    repeat(refine zS ?_;intros)
    exact ag2 b (XH p a b).2 ⟨cb,k2,lb,by omega,by rw[←Qql hp.1 ca cb (by omega)];exact hI⟩ (entL (.cons zle (.cons zle .nil)) zk (HLe.none _))
  · rw[←hI,Qnt (by omega)] at hK
    repeat(refine zS ?_;intros)
    exact aRet1 rfl zv hK (le_refl _)⟩
instance Qyy:TK prog 223 (∀{f g:List Nat}{p:Nat}(_:PrS p)(_:f.length≤1048576)(_:g.length≤1048576),AC prog 223 [] [raw f,raw g,W32 p] fun K=>K [] [raw (XN p (XO p f) (XO p g)),I .i64 0]):=⟨fun {f g p} hp hf hg=>by
  refine aEnter func223 rfl ntmps223 rfl fun K C hC hK=> ?_
  have h1:=hp.two
  have h2:=hp.lt
  have hip:=QbU hp
  have n1:=YN p f
  have n2:=YN p g
  have k1:=YX (p:=p) (by omega) f
  have k2:=YX (p:=p) (by omega) g
  repeat(refine zS ?_;intros)
  exact aRet2 rfl zv zv hK (le_refl _) (le_refl _)⟩
set_option maxHeartbeats 1000000 in
instance c86:TK prog 86 (∀{f g:List Nat}{m p:Nat}(_:PrS p)(_:f.length≤65536)(_:g.length≤65536)(_:XE p f)(_:XE p g)(_:0<g.length)(_:m<18446744073709551616),AC prog 86 [] [raw f,I .u64 (m:Int),raw g,W32 p] fun K=> ∀r,XE p r→r.length<g.length→EqF p (zl g) (zl r) (Yx (zl f) m)→K [] [raw r]):=⟨fun {f g m p} hp hf hg hcf hcg hg0 hm=>by
  refine aEnter func86 rfl ntmps86 rfl fun K C hC hK=> ?_
  have h1:=hp.two
  have h2:=hp.lt
  have hp0:0<p:=by omega
  have ho:=Qjb hp
  have ho1:[1].length≤1048576:=by simp
  have⟨_,a2,a3,_,_,_⟩:=Ym (q:=(XH p [1] g).1) (r:=(XH p [1] g).2) hp.1 ho hcg hg0 rfl
  have⟨_,b2,b3,_,_,_⟩:=Ym (q:=(XH p f g).1) (r:=(XH p f g).2) hp.1 hcf hcg hg0 rfl
  repeat(refine zS ?_;intros)
  refine AL.ent (entSub (s:=11) (a:=raw [1]) (le_refl _)) ?_
  repeat(refine zS ?_;intros)
  refine aL3 [2,3] (fun(n:Nat) R S=>[(1,I .u64 (n:Int)),(9,raw R),(10,raw S)]) (fun _ _ _=>[]) (fun n R S=>n≤m∧XE p R∧XE p S∧R.length<g.length∧S.length<g.length∧PwI p g f m R S n) (fun n _ _=>n) m (XH p [1] g).2 (XH p f g).2 ⟨Nat.le_refl _,a2,b2,a3,b3,PwI.start (QdT hp0 rfl) (QdT hp0 rfl)⟩ (entL (.cons zle (.cons zle (.cons zle .nil))) zk (HLe.none _)) fun n R S ⟨hn,hR,hS,lR,lS,hI⟩=> ?_
  have m1:=(Qa6 p R S).1
  have m2:=(Qa6 p S S).1
  have c1:=QeN hp R S
  have c2:=QeN hp S S
  have⟨_,d2,d3,_,_,_⟩:=Ym (q:=(XH p (Qau p R S) g).1) (r:=(XH p (Qau p R S) g).2) hp.1 c1 hcg hg0 rfl
  have⟨_,e2,e3,_,_,_⟩:=Ym (q:=(XH p (Qau p S S) g).1) (r:=(XH p (Qau p S S) g).2) hp.1 c2 hcg hg0 rfl
  repeat(refine zS ?_;intros)
  refine zB ?_ ?_<;>intro h
  · repeat(refine zS ?_;intros)
    refine zB ?_ ?_<;>intro h3
    · repeat(refine zS ?_;intros)
      refine zB ?_ ?_<;>intro h4<;>repeat(refine zS ?_;intros)
      · exact ag3 (n/2) (XH p (Qau p R S) g).2 (XH p (Qau p S S) g).2 ⟨by omega,d2,e2,d3,e3,hI.odd1 (by omega) (Qip hp0 rfl rfl) (Qip hp0 rfl rfl)⟩ (entL (.cons zle (.cons zle (.cons zle .nil))) zk (HLe.none _)) (by omega)
      · exact ag3 (n/2) (XH p (Qau p R S) g).2 S ⟨by omega,d2,hS,d3,lS,hI.odd0 (by omega) (by omega) (Qip hp0 rfl rfl)⟩ (entL (.cons zle (.cons zle (.cons zle .nil))) zk (HLe.none _)) (by omega)
    · repeat(refine zS ?_;intros)
      exact ag3 (n/2) R (XH p (Qau p S S) g).2 ⟨by omega,hR,e2,lR,e3,hI.even1 (by omega) (Qip hp0 rfl rfl)⟩ (entL (.cons zle (.cons zle (.cons zle .nil))) zk (HLe.none _)) (by omega)
  · repeat(refine zS ?_;intros)
    exact aRet1 rfl zv (hK R hR lR (hI.done (by omega))) (le_refl _)⟩
instance c78:TK prog 78 (∀{f:List Nat}{p:Nat}(_:PrS p)(_:f.length≤1048576)(_:XE p f),AC prog 78 [] [raw f,W32 p] fun K=>K [] [Bo (decide ((XN p f (XR p (Xn (zl f)))).length=1))]):=⟨fun {f p} hp hf hc=>by
  refine aEnter func78 rfl ntmps78 rfl fun K C hC hK=> ?_
  have h1:=hp.two
  have h2:=hp.lt
  have hb:=QaY hc hp
  have hc2:=XK (p:=p) (by omega) (Xn (zl f))
  have hl:(XR p (Xn (zl f))).length≤1048576:=by
    have h3:=Zh ((Xn (zl f)).map (md p))
    unfold XR;simp [Xn,Zl] at h3⊢;omega
  repeat(refine zS ?_;intros)
  exact aRet1 rfl zv hK (leB (by omega))⟩
instance c35:TK prog 35 (∀{f:List Nat}{p:Nat}(_:PrS p)(_:f.length≤1048576),AC prog 35 [] [raw f,W32 p] fun K=>K [] [Bo (decide ((XN p (XO p f) (XR p (Xn (zl (XO p f))))).length=1)),I .i64 0]):=⟨fun {f p} hp hf=>by
  refine aEnter func35 rfl ntmps35 rfl fun K C hC hK=> ?_
  have h1:=hp.two
  have h2:=hp.lt
  have hip:=QbU hp
  have n1:=YN p f
  have k1:=YX (p:=p) (by omega) f
  repeat(refine zS ?_;intros)
  exact aRet2 rfl zv zv hK (le_refl _) (le_refl _)⟩
end Go.Proofs.YtjdpemcnlejpfaaGreatDoor
namespace Go.Proofs.YtjdpemcnlejpfaaGreatDoor
open Go.RowKit Go.Gx Go.Am Tryz
theorem Qhf{p:Nat}{f:List Nat}(hp:PrS p)(hf:XE p f)(h:0<f.length):XW f<4294967296∧Nat.gcd (XW f) p=1:=by
  have h1:=hf.last h
  have h2:=hp.lt
  unfold XW
  exact⟨by omega,hp.1.2 _ h1.1 h1.2⟩
theorem Qvg{p a:Nat}(hp:PrS p):ZL p a<4294967296:=by
  have h1:=hp.two
  have h2:=hp.lt
  have :ZL p a<p:=by
    unfold ZL
    cases h:(List.range p).find? fun x=>a*x % p==1 % p with
    |none=>simp;omega
    |some x=>exact List.mem_range.1 (List.mem_of_find?_eq_some h)
  omega
instance QyP:TK prog 254 (∀{f g:List Nat}{p:Nat}(_:PrS p)(_:f.length≤262144)(_:g.length≤262144)(_:XE p f)(_:XE p g)(_:0<f.length+g.length),AC prog 254 [] [raw f,raw g,W32 p] fun K=>K [] [raw (QmO p f g)]):=⟨fun {f g p} hp hf hg hcf hcg h0=>by
  refine aEnter func254 rfl ntmps254 rfl fun K C hC hK=> ?_
  have h1:=hp.two
  have h2:=hp.lt
  have hp0:0<p:=by omega
  repeat(refine zS ?_;intros)
  refine aL4 [2] (fun a b u v=>[(0,raw a),(1,raw b),(7,raw u),(8,raw v)]) (fun _ _ _ _=>[]) (fun a b u v=>XE p a∧XE p b∧XE p u∧XE p v∧0<a.length+b.length∧u.length+b.length≤f.length+g.length+1∧v.length+a.length≤f.length+g.length+1∧(b.length≤a.length∨v.length=0)∧Qbg p b.length a b u v=QmO p f g) (fun _ b _ _=>b.length) f g [1] [] ⟨hcf,hcg,Qjb hp,XE.nil,h0,by simp;omega,by simp;omega,.inr rfl,rfl⟩ (entL (.cons zle (.cons zle (.cons (le_refl (raw [1])) (.cons nil_raw .nil)))) zk (HLe.none _)) fun a b u v ⟨ca,cb,cu,cv,l0,lu,lv,lo,hI⟩=> ?_
  repeat(refine zS ?_;intros)
  refine zB ?_ ?_<;>intro h
  · have⟨k1,k2,k3,k4,k5,_⟩:=Ym (q:=(XH p a b).1) (r:=(XH p a b).2) hp.1 ca cb (by omega) rfl
    have m1:=Qa6 p (XH p a b).1 v
    have s1:=Qds p u (Qau p (XH p a b).1 v)
    have bu:=QaY cu hp
    have bm:=QaY (QeN hp (XH p a b).1 v) hp
    have cs:=QgL hp u (Qau p (XH p a b).1 v)
    repeat(refine zS ?_;intros)
    exact ag4 b (XH p a b).2 v (QhQ p u (Qau p (XH p a b).1 v)) ⟨cb,k2,cv,cs,by omega,by omega,by omega,.inl (by omega),by rw[←QpL hp.1 ca cb (by omega)];exact hI⟩ (entL (.cons zle (.cons zle (.cons zle (.cons zle .nil)))) zk (HLe.none _))
  · rw[←hI,Qsz (by omega)] at hK
    have⟨b1,b2⟩:=Qhf hp ca (by omega)
    have b3:=Qvg (p:=p) (a:=XW a) hp
    have bu:=QaY cu hp
    unfold XW at b1 b2 b3 hK
    repeat(refine zS ?_;intros)
    exact aRet1 rfl zv hK (le_refl _)⟩
theorem Qpx{P:Program}{n:Nat}{C:Ctx}{env:Nat→AV}{H:Hp}{fn:Func}{L:Hp→List AV→Prop}{t t' t'' u:Nat}{a b a' b' a'' b'' c d:AV}(hr:fn.results= #[.tmp t,.tmp t',.tmp t'',.tmp u])(h:av n env (.tmp t)=b)(h':av n env (.tmp t')=b')(h'':av n env (.tmp t'')=b'')(h3:av n env (.tmp u)=d)(k:L [] [a,a',a'',c])(hb:b.le a)(hb':b'.le a')(hb'':b''.le a'')(hd:d.le c):AX n [] C (bodyPost P fn (Ret (Post C L))) .ret env H:=aRet (rs:=[.tmp t,.tmp t',.tmp t'',.tmp u]) hr rfl (List.nil_sublist _) (arT h hb (arT h' hb' (arT h'' hb'' (arT h3 hd arN)))) k
theorem Qqk{p:Nat}{f g:List Nat}(hp:PrS p)(hf:XE p f)(hg:XE p g):(XN p f g).length≤max f.length g.length:=by
  rcases Nat.eq_zero_or_pos g.length with h|h
  · rw[Qnt h,Qam hp.1 hf];omega
  · have :=Qjt hp.1 hf hg h;omega
theorem Qkj{p:Nat}(hp:PrS p)(M:Nat): ∀(n:Nat)(a b u v:List Nat),XE p a→XE p b→u.length+b.length≤M→v.length+a.length≤M→b.length≤a.length∨v.length=0→(Qbg p n a b u v).length≤M
  |0,a,b,u,v,_,_,lu,_,_=>by
    rw[Qbg]
    have :=Zh (u.map fun x=>x*ZL p (XW a) % p)
    have :(Qbp p u (ZL p (XW a))).length≤u.length:=by unfold Qbp;simpa using this
    omega
  |n+1,a,b,u,v,ca,cb,lu,lv,lo=>by
    rw[Qbg]
    split
    · have :=Zh (u.map fun x=>x*ZL p (XW a) % p)
      have :(Qbp p u (ZL p (XW a))).length≤u.length:=by unfold Qbp;simpa using this
      omega
    · have⟨k1,k2,k3,k4,k5,_⟩:=Ym (q:=(XH p a b).1) (r:=(XH p a b).2) hp.1 ca cb (by omega) rfl
      have m1:=Qa6 p (XH p a b).1 v
      have s1:=Qds p u (Qau p (XH p a b).1 v)
      exact Qkj hp M n _ _ _ _ cb k2 (by omega) (by omega) (.inl (by omega))
set_option maxHeartbeats 1000000 in
instance QyA:TK prog 225 (∀{f g:List Nat}{p:Nat}(_:PrS p)(_:f.length≤65536)(_:g.length≤65536),AC prog 225 [] [raw f,raw g,W32 p] fun K=>K [] [raw (Qb9 p (XO p f) (XO p g)).1,raw (Qb9 p (XO p f) (XO p g)).2.1,raw (Qb9 p (XO p f) (XO p g)).2.2,I .i64 0]):=⟨fun {f g p} hp hf hg=>by
  refine aEnter func225 rfl ntmps225 rfl fun K C hC hK=> ?_
  have h1:=hp.two
  have h2:=hp.lt
  have hip:=QbU hp
  have n1:=YN p f
  have n2:=YN p g
  have k1:=YX (p:=p) (by omega) f
  have k2:=YX (p:=p) (by omega) g
  obtain⟨F,hF⟩: ∃F,XO p f=F:=⟨_,rfl⟩
  obtain⟨G,hG⟩: ∃G,XO p g=G:=⟨_,rfl⟩
  repeat(refine zS ?_;intros)
  rw[hF] at n1 k1 hK
  rw[hG] at n2 k2 hK
  rw[hF,hG]
  have hd:(XN p F G).length≤65536:=by
    have :=Qqk hp k1 k2;omega
  refine zB ?_ ?_<;>intro h
  · repeat(refine zS ?_;intros)
    refine zB ?_ ?_<;>intro h3
    · rw[xg1 (by omega) (by omega)] at hK
      repeat(refine zS ?_;intros)
      exact Qpx rfl zv zv zv zv hK nil_raw nil_raw nil_raw (le_refl _)
    · rw[xg2 (by omega) (by omega)] at hK
      have⟨b1,b2⟩:=Qhf hp k1 (by omega)
      unfold XW at b1 b2 hK
      repeat(refine zS ?_;intros)
      exact Qpx rfl zv zv zv zv hK (le_refl _) zle nil_raw (le_refl _)
  · repeat(refine zS ?_;intros)
    refine zB ?_ ?_<;>intro h3
    · rw[xg3 (by omega) (by omega)] at hK
      have⟨b1,b2⟩:=Qhf hp k2 (by omega)
      unfold XW at b1 b2 hK
      repeat(refine zS ?_;intros)
      exact Qpx rfl zv zv zv zv hK (le_refl _) nil_raw zle (le_refl _)
    · rw[xg4 (p:=p) (F:=F) (G:=G) (q1:=(XH p G (XN p F G)).1) (r1:=(XH p G (XN p F G)).2) (q6:=(XH p (QhQ p (XN p F G) (Qau p (XH p (QmO p F G) (XH p G (XN p F G)).1).2 F)) G).1) (r6:=(XH p (QhQ p (XN p F G) (Qau p (XH p (QmO p F G) (XH p G (XN p F G)).1).2 F)) G).2) (by omega) (by omega) rfl rfl rfl rfl rfl rfl] at hK
      have g1:=Qc6 (by omega:0<p) G.length F G
      have g2:=QrK hp.1 k1 k2 (by omega)
      have g3:=Qjt hp.1 k1 k2 (by omega)
      change XE p (XN p F G) at g1
      obtain⟨d,hd9⟩: ∃d,XN p F G=d:=⟨_,rfl⟩
      rw[hd9] at hd g1 g2 g3 hK
      have⟨y1,y2,y3,y4,y5,y6⟩:=Ym (q:=(XH p G d).1) (r:=(XH p G d).2) hp.1 k2 g1 g2 rfl
      have c1:(QmO p F G).length≤F.length+G.length+1:=Qkj hp _ _ _ _ _ _ k1 k2 (by simp;omega) (by simp;omega) (.inr rfl)
      have c2:XE p (QmO p F G):=Qc1 (by omega) _ _ _ _ _
      obtain⟨c,hc9⟩: ∃c,QmO p F G=c:=⟨_,rfl⟩
      rw[hc9] at c1 c2 hK
      have⟨u1,u2,u3,u4,u5,u6⟩:=Ym (q:=(XH p c (XH p G d).1).1) (r:=(XH p c (XH p G d).1).2) hp.1 c2 y1 (by omega) rfl
      have m1:=Qa6 p (XH p c (XH p G d).1).2 F
      have m2:=QaY (QeN hp (XH p c (XH p G d).1).2 F) hp
      have s1:=Qds p d (Qau p (XH p c (XH p G d).1).2 F)
      have s2:=QgL hp d (Qau p (XH p c (XH p G d).1).2 F)
      have bd:=QaY g1 hp
      rw[hd9]
      repeat(refine zS ?_;intros)
      rw[hc9]
      repeat(refine zS ?_;intros)
      exact Qpx rfl zv zv zv zv hK (le_refl _) (le_refl _) (le_refl _) (le_refl _)⟩
theorem Qcr{k:Option Nat}{n m c:Nat}(h:n=m):(gh k n c).le (gh k m c):=h▸le_refl _
theorem Qa4{t:TypeId}{z c:Nat}{l l':List AV}(h:l=l'):(Ob.gro t z l c).le (.gro t z l' c):=h▸ob_refl _
theorem Qas:nilS.le (gh none 0 0):= .of_eq (by unfold nilS gh;rfl)
instance QyN:TK prog 244 (∀{n p:Nat}(_:PrS p)(_:p=2∧n≤1000∨p≠2∧n+p<9223372036854775808),AC prog 244 [] [I .u64 (n:Int),W32 p] fun K=> ∀t,Qd3 p n t→t.length≤65536→K [] [raw t]):=⟨fun {n p} hp hn=>by
  refine aEnter func244 rfl ntmps244 rfl fun K C hC hK=> ?_
  have h1:=hp.two
  have h2:=hp.lt
  repeat(refine zS ?_;intros)
  refine zB ?_ ?_<;>intro h
  · repeat(refine zS ?_;intros)
    refine AX.ent (entFzS hC (s:=4) (by exact rfl) 0 (by exact rfl) (by simp) (a:=raw ((List.replicate (2*n+2) 0).set (2*n+1) 1)) (.of_eq (by unfold raw;simp))) ?_
    exact aRet1 rfl zv (hK _ (Qug (by omega)) (by simp;omega)) (le_refl _)
  repeat(refine zS ?_;intros)
  refine AW.ent (entGro 46 1) ?_
  refine aLoop [1] (fun x:Option Nat×Nat×List Nat×Nat=>[(6,gh x.1 x.2.2.1.length x.2.1),(7,I .u64 (x.2.2.2:Int))]) (fun x=>[(x.1,.gro 46 1 (x.2.2.1.map U) x.2.1)]) (fun x=>TrI p n x.2.2.1 x.2.2.1.length x.2.2.2∧x.2.2.2≤n+p∧x.2.2.1.length≤64) (fun x=>x.2.2.2) (none,0,[],n+p) ⟨TrI.start (by omega),Nat.le_refl _,by simp⟩ (entL (.cons Qas (.cons zle .nil)) zk (HLe.refl _)) fun⟨k,c,L,r⟩ ⟨hI,hr,hl⟩=> ?_
  dsimp only at hI hr hl⊢
  repeat(refine zS ?_;intros)
  refine zB ?_ ?_<;>intro h3
  · have hb:=hI.bound (by omega) (by omega) (by omega)
    repeat(refine zS ?_;intros)
    repeat(refine zS ?_;intros)
    rename_i k' c'
    have h4:r/p<r:=Nat.div_lt_self (by omega) (by omega)
    have h5:r % p<p:=Nat.mod_lt _ (by omega)
    exact aAgain (k',c',L++[r % p],r/p) ⟨by rw[List.length_append];exact hI.step (by omega) rfl (by omega) rfl,by show r/p≤n+p;omega,by simp;omega⟩ h4 (entL (.cons (Qcr (by simp)) (.cons zle .nil)) zk (.cons (Qa4 (by rw[List.map_append,Nat.mod_eq_of_lt (show r % p<4294967296 by omega)];rfl)) .nil))
  · repeat(refine zS ?_;intros)
    refine AX.ent (entFzG hC (s:=4) (by exact rfl) 0 (by exact rfl) (by simp)) ?_
    exact aRet1 rfl zv (hK _ (hI.done (by omega) (by omega)) (by omega)) (le_refl _)⟩
end Go.Proofs.YtjdpemcnlejpfaaGreatDoor
