/-
  F8, F9
-/
import Derived.Test.YtjdpemcnlejpfaaGreatDoorF5
import Derived.Test.YtjdpemcnlejpfaaGreatDoorKnown2
import Derived.Test.YtjdpemcnlejpfaaGreatDoorN3
import Derived.Test.YtjdpemcnlejpfaaGreatDoorAscThy
set_option linter.all false
namespace Go.Proofs.YtjdpemcnlejpfaaGreatDoor
open Go.RowKit Go.Gx Go.Am Tryz
instance c76:TK prog 76 (∀{M p:Nat}{f:List Int}(_:PrS p)(_:M≤65536)(_:f.length≤1048576),AC prog 76 [] [pv M f,W32 p] fun K=>K [] [Bo (decide (Qbx p f))]):=⟨fun {M p f} hp hM hf=>by
  refine aEnter func76 rfl ntmps76 rfl fun K C hC hK=> ?_
  have h1:=hp.two
  have h2:=hp.lt
  have hp0:0<p:=by omega
  have hn:XO p (XR p f)=XR p f:=(XK hp0 f).nrm
  have hl:=QeC hp0 f
  have ht:=Xe f
  repeat(refine zS ?_;intros)
  refine zB ?_ ?_<;>intro h3
  · rw[decide_eq_false fun h9:Qbx p f=>h9.1 (by omega)] at hK
    repeat(refine zS ?_;intros)
    exact aRet1 rfl zv hK (le_refl _)
  · have e:decide (Qbx p f)=decide ((XN p (XR p f) (XR p (Xn (Gx.zl (XR p f))))).length=1):=decide_eq_decide.2 ⟨fun h=>h.2,fun h=>⟨by omega,h⟩⟩
    rw[e] at hK
    repeat(refine zS ?_;intros)
    rw[hn]
    exact aRet1 rfl zv hK (le_refl _)⟩
def dsF(φ:Nat→Bool)(d j:Nat)(q:Nat):Bool:=if j<q∧d≤q then φ q||φ (q -d) else φ q
def Qap(size:Nat)(φ:Nat→Bool):List Bool:=(List.range size).map φ
theorem Qd4{size:Nat}{φ:Nat→Bool}:(Qap size φ).length=size:=by simp [Qap]
theorem QcV{size:Nat}{φ ψ:Nat→Bool}(h: ∀q,q<size→φ q=ψ q):Qap size φ=Qap size ψ:=List.map_congr_left fun q hq=>h q (List.mem_range.1 hq)
theorem QsL{φ:Nat→Bool}{d j size q:Nat}(h:j<d∨j+1=size∧size≤d)(hq:q<size):dsF φ d j q=if d≤q then φ q||φ (q -d) else φ q:=by
  unfold dsF
  by_cases hq2:d≤q
  · rw[if_pos ⟨by omega,hq2⟩,if_pos hq2]
  · rw[if_neg fun h=>hq2 h.2,if_neg hq2]
theorem Qsv(size:Nat):(List.replicate size false).set 0 true=Qap size fun j=>decide (j=0):=by
  unfold Qap
  refine List.ext_getElem? fun i=> ?_
  rw[List.getElem?_set]
  simp only[List.getElem?_replicate,List.getElem?_map,List.length_replicate]
  by_cases hi:i<size
  · rw[List.getElem?_range hi]
    by_cases h0:0=i
    · subst h0;simp [hi]
    · simp [hi,h0];omega
  · rw[List.getElem?_eq_none (by simpa using hi)]
    by_cases h0:0=i
    · subst h0;simp [hi]
    · simp [hi,h0]
theorem QdB{size i:Nat}{φ:Nat→Bool}(h:i<size):(Qap size φ).getD i false=φ i:=by simp [Qap,List.getD,h]
theorem QuG{size j d:Nat}{φ:Nat→Bool}{b:Bool}(h:j<size)(hd:d≤j)(hb:b=(φ j||φ (j -d)))(h1:1≤d)(hj:1≤j):(Qap size (dsF φ d j)).set j b=Qap size (dsF φ d (j -1)):=by
  unfold Qap
  refine List.ext_getElem? fun i=> ?_
  rw[List.getElem?_set]
  simp only[List.getElem?_map,List.length_map,List.length_range]
  by_cases hi:i<size
  · rw[List.getElem?_range hi]
    by_cases h0:j=i
    · subst h0;rw[if_pos rfl,if_pos h,hb];simp only[Option.map_some];congr 1;unfold dsF;rw[if_pos ⟨by omega,hd⟩]
    · rw[if_neg h0];simp only[Option.map_some];congr 1;unfold dsF
      by_cases h2:j<i∧d≤i
      · rw[if_pos h2,if_pos ⟨by omega,h2.2⟩]
      · rw[if_neg h2,if_neg (by omega)]
  · rw[List.getElem?_eq_none (by simpa using hi)]
    by_cases h0:j=i
    · omega
    · rw[if_neg h0];rfl
set_option maxHeartbeats 1000000 in
instance QxO:TK prog 133 (∀{p size:Nat}{l:List (List Nat)}(_:PrS p)(_:1≤size∧size≤1024)(_:l.length≤1000)(_: ∀d∈l,Zw p d) (_: ∀d∈l,d.length≤1000),AC prog 133 [] [Qi7 l,N size,W32 p] fun K=> ∀φ,QgH (l.map fun d=>d.length -1) φ→K [] [sl 1 ((Qap size φ).map Bo)]):=⟨fun {p size l} hp hs hl hm hd=>by
  refine aEnter func133 rfl ntmps133 rfl fun K C hC hK=> ?_
  have h1:=hp.two
  have h2:=hp.lt
  repeat(refine zS ?_;intros)
  refine aL2 [1,2,7,16,17] (fun k (_:Nat→Bool)=>[(18,N k)]) (fun _ φ=>[.arr 4 1 ((Qap size φ).map Bo)]) (fun k φ=>k≤l.length∧QgH ((l.take k).map fun d=>d.length -1) φ) (fun k _=>l.length -k) 0 (fun j=>decide (j=0)) ⟨by omega,QgH.nil rfl⟩ (entL (.cons zle .nil) zk (.cons (ob_eq (by rw[Qsv])) (HLe.none _))) fun k φ ⟨hk,hφ⟩=> ?_
  repeat(refine zS ?_;intros)
  refine zB ?_ ?_<;>intro h3
  · have hm1:=hm _ (Yr (l:=l) (i:=k) (by omega))
    have hd1:=hd _ (Yr (l:=l) (i:=k) (by omega))
    have hnx:(l.take (k+1)).map (fun d=>d.length -1)=(l.take k).map (fun d=>d.length -1)++[(l.getD k []).length -1]:=by rw[List.take_add_one,QaQ (show k<l.length by omega),List.map_append];rfl
    obtain⟨g,eg⟩: ∃g,l.getD k []=g:=⟨_,rfl⟩
    rw[eg] at hm1 hd1 hnx
    have hpos:=hm1.pos
    obtain⟨d,hdd⟩: ∃d,g.length=d+1:=⟨g.length -1,by omega⟩
    repeat(refine zS ?_;intros)
    rw[eg]
    repeat(refine zS ?_;intros)
    rw[hm1.can.nrm,show((g.length:Int) -1)=((d:Nat):Int) by omega]
    repeat(refine zS ?_;intros)
    refine aL1 [1,2,7,10,16,17,18] (fun j=>[(11,N j)]) (fun j=>[.arr 4 1 ((Qap size (dsF φ d j)).map Bo)]) (fun j=>j<size∧(d≤j+1∨j+1=size)) (fun j=>j) (size -1) ⟨by omega,.inr (by omega)⟩ (entL (.cons zle .nil) zk (.cons (ob_eq (by rw[QcV (φ:=dsF φ d (size -1)) (ψ:=φ) fun q hq=>by unfold dsF;rw[if_neg (by omega)]])) (HLe.none _))) fun j ⟨hj,hj2⟩=> ?_
    repeat(refine zS ?_;intros)
    have hlk:(Qap size (dsF φ d j)).length=size:=Qd4
    refine zB ?_ ?_<;>intro h4
    · have e1:(Qap size (dsF φ d j)).getD j false=φ j:=by rw[QdB hj];unfold dsF;rw[if_neg (by omega)]
      have e2:(Qap size (dsF φ d j)).getD (j -d) false=φ (j -d):=by rw[QdB (by omega)];unfold dsF;rw[if_neg (by omega)]
      have hset: ∀b,b=(φ j||φ (j -d))→(Qap size (dsF φ d j)).set j b=Qap size (dsF φ d (j -1)):=fun b hb=>QuG hj (by omega) hb (by omega) (by omega)
      repeat(refine zS ?_;intros)
      rw[e1]
      cases hφj:φ j
      · rw[hφj,Bool.false_or] at hset
        repeat(refine zS ?_;intros)
        rw[e2]
        repeat(refine zS ?_;intros)
        exact ag1 (j -1) ⟨by omega,.inl (by omega)⟩ (entL (.cons zle .nil) zk (.cons (ob_eq (by rw[hset _ rfl])) (HLe.none _)))
      · rw[hφj,Bool.true_or] at hset
        repeat(refine zS ?_;intros)
        exact ag1 (j -1) ⟨by omega,.inl (by omega)⟩ (entL (.cons zle .nil) zk (.cons (ob_eq (by rw[hset _ rfl])) (HLe.none _)))
    · repeat(refine zS ?_;intros)
      exact ag2 (k+1) (fun q=>if d≤q then φ q||φ (q -d) else φ q) ⟨by omega,by rw[hnx];exact hφ.next fun q=>by rw[show g.length -1=d by omega]⟩ (entL (.cons zle .nil) zk (.cons (ob_eq (by rw[QcV (φ:=dsF φ d j) fun q hq=>QsL (by omega) hq])) (HLe.none _)))
  · obtain rfl:k=l.length:=by omega
    rw[List.take_length] at hφ
    refine AW.ent (entFzS hC (s:=7) (by exact rfl) 0 (by exact rfl) (by rw[List.length_map];exact Qd4) (a:=sl 1 ((Qap size φ).map Bo)) (le_refl _)) ?_
    repeat(refine zS ?_;intros)
    exact aRet1 rfl zv (hK φ hφ) (le_refl _)⟩
theorem Qqe{p k B:Nat}(hp:2≤p)(hp2:p<4096)(h:Quv p B k)(hB:2*B<2^560):k≤600∧p^k<BS^18:=by
  obtain⟨h1,h2,h3⟩:=h
  rcases Nat.lt_or_ge k 2 with hk|hk
  · obtain rfl:k=1:=by omega
    exact⟨by omega,by rw[Nat.pow_one];exact Nat.lt_trans hp2 (by decide+kernel)⟩
  · obtain⟨X,hX⟩: ∃X,X=2^560:=⟨_,rfl⟩
    rw[←hX] at hB
    have h4:=h3 (k -1) (by omega) (by omega)
    have h5:2^ (k -1)≤p^ (k -1):=Nat.pow_le_pow_left hp _
    have h6:k -1<560:=(Nat.pow_lt_pow_iff_right (by decide:1<2)).1 (by rw[←hX];omega)
    have e:p^k=p^ (k -1)*p:=by rw[←Nat.pow_succ];congr 1;omega
    refine⟨by omega,?_⟩
    rw[e]
    have h7:p^ (k -1)*p≤X*4096:=Nat.mul_le_mul (by omega) (by omega)
    exact Nat.lt_of_le_of_lt h7 (by rw[hX];decide+kernel)
instance c97:TK prog 97 (∀{p:Nat}{f:List Int}{l:List (List Nat)}(_:PrS p)(_:f.length≤17)(_:Nrm f)(_:Qlv p f l)(_:l.length≤17)(_: ∀d∈l,d.length≤32) (_:HB f (2*(ldP f*QmA f).natAbs+1)) (_:2*(ldP f*QmA f).natAbs<2^560),AC prog 97 [] [pv 17 f,Qi7 l,W32 p] fun K=> ∀(Z:LZs)(k:Nat),QeK p k Z f→Z.length=l.length→(∀z∈Z,z.1.length≤32)→p^k<BS^18→K [] [pcs 18 (Z.map Prod.fst),it 18 ((p^k:Nat):Int)]):=⟨fun {p f l} hp hf hn hF hl hd hb h5=>by
  refine aEnter func97 rfl ntmps97 rfl fun K C hC hK=> ?_
  have h1:=hp.two
  have h2:=hp.lt
  have h3:1≤(Xa f).length:=by obtain⟨n,e⟩:=Qa5 (G:=f) (by have :=hn.s;omega);omega
  repeat(refine zS ?_;intros)
  rename_i g7 g8 k hk1 hk2
  have⟨hk6,hpk⟩:=Qqe h1 h2 hk1 h5
  have hk:1≤k∧k≤600:=⟨hk1.1,hk6⟩
  have hmon:=hF.mon
  have hcoa:=hF.coa
  have hgood:=hF.good
  have hMm:2≤18∧18≤4096:=by decide
  have hq:k*k≤600*600:=Nat.mul_le_mul hk6 hk6
  have hz: ∀z∈[(p:Int)],-9223372036854775808≤z∧z≤9223372036854775807:=fun z hz=>by rw[List.mem_singleton.1 hz];omega
  have hl1:[(p:Int)].length≤1099511627776:=by simp
  have hL:(Xa (Xa [(p:Int)])).length≤0+1:=by rw[XV];exact Xe _
  have hL2:(Xa [(p:Int)]).length≤1:=Xe _
  have e:ldP (Xa (Zk (Xa [(p:Int)]) k))=((p^k:Nat):Int):=by rw[Qhp,QjA rfl];simp
  have hl3:(Xa (Zk (Xa [(p:Int)]) k)).length≤1:=by rw[Qhp];exact Qfq _ _
  have hlift:AC prog 136 [] [pv 17 f,Qi7 l,W32 p,Am.N k] fun K=> ∀L0 L1 e,LReach p k f (Qae p l) (Qae p (Qaq p l)) L0 L1 e→(e=k∨QfU f L0)→L0.length=l.length→(∀u∈L0,u.length≤32)→K [] [pcs 18 L0,I .i64 0]:=Qxb.k hp (by omega) hMm hpk hk (by omega) (by omega) hmon hd hcoa hgood
  repeat(refine zS ?_;intros)
  rename_i L0 L1 e0 hR hx hl0 hlen _
  have⟨hrec,hfst,_⟩:=hF.start hn hk.1 (hb.mono (by have :=hk1.2.1;omega)) hR hx
  have hfin:=hK (L0.zip l) k hrec (by rw[List.length_zip];omega) (fun z hz=>hlen _ (List.of_mem_zip hz).1) hpk
  rw[hfst] at hfin
  exact aRet (rs:=[_,_]) rfl rfl (List.nil_sublist _) (arT zv (le_refl _) (arW0 zv 2 rfl rfl (by kernel_rfl) (Qvn e (by rw[Int.natAbs_natCast];exact hpk)) arN)) hfin⟩
end Go.Proofs.YtjdpemcnlejpfaaGreatDoor
namespace Go.Proofs.YtjdpemcnlejpfaaGreatDoor
open Go.RowKit Go.Gx Go.Am Tryz
instance QyL:TK prog 240 (∀{c:List Nat}{x:Nat}(_:c.length≤1000000),AC prog 240 [] [sl 1 (c.map Am.N),Am.N x] fun K=> ∀r:Int,(0≤r↔x∈c)→K [] [I .i64 r]):=⟨fun {c x} hc=>by
  refine aEnter func240 rfl ntmps240 rfl fun K C hC hK=> ?_
  repeat(refine zS ?_;intros)
  refine aL1 [0,1,7] (fun k=>[(8,Am.N k)]) (fun _=>[]) (fun k=>k≤c.length∧x∉c.take k) (fun k=>c.length -k) 0 ⟨by omega,by simp⟩ (entL (.cons zle .nil) zk (HLe.none _)) fun k ⟨hk,hI⟩=> ?_
  repeat(refine zS ?_;intros)
  refine zB ?_ ?_<;>intro h
  · have hg:c[k]? =some (c.getD k 0):=by simp [List.getD,show k<c.length by omega]
    have hm:c.getD k 0∈c:=List.mem_of_getElem? hg
    obtain⟨y,ey⟩: ∃y,c.getD k 0=y:=⟨_,rfl⟩
    rw[ey] at hg hm
    repeat(refine zS ?_;intros)
    rw[ey]
    repeat(refine zS ?_;intros)
    refine zB ?_ ?_<;>intro h2<;>repeat(refine zS ?_;intros)
    · exact aRet1 rfl zv (hK (k:Int) ⟨fun _=>(show x=y by omega)▸hm,fun _=>by omega⟩) (le_refl _)
    · exact ag1 (k+1) ⟨by omega,by rw[List.take_add_one,hg];simp [hI];omega⟩ (entL (.cons zle .nil) zk (HLe.none _))
  · obtain rfl:k=c.length:=by omega
    rw[List.take_length] at hI
    repeat(refine zS ?_;intros)
    exact aRet1 rfl zv (hK (-1) ⟨fun h9=>absurd h9 (by omega),fun h9=>absurd h9 hI⟩) (le_refl _)⟩
instance Qxh:TK prog 209 (∀{c:List Nat}{x:Nat}(_:c.length≤1000000),AC prog 209 [] [sl 1 (c.map Am.N),Am.N x] fun K=>K [] [Bo (decide (x∈c))]):=⟨fun {c x} hc=>by
  refine aEnter func209 rfl ntmps209 rfl fun K C hC hK=> ?_
  repeat(refine zS ?_;intros)
  rename_i r hr
  repeat(refine zS ?_;intros)
  exact aRet1 rfl zv hK (leB hr)⟩
instance Qx1:TK prog 149 (∀{g n cp:Nat}{c:List Nat}(_:Asc n 0 c)(_:1≤c.length)(_:n≤1000)(_:c.length≤n),AC prog 149 [(some g,.arr 3 1 (c.map Am.N))] [lsl 1 g 0 c.length cp,Am.N n] fun K=>(∀c1,Nx n c c1→K [(some g,.arr 3 1 (c1.map Am.N))] [Bo true])∧(Qsg n c→K [(some g,.arr 3 1 (c.map Am.N))] [Bo false])):=⟨fun {g n cp c} hc h1 hn hcn=>by
  refine aEnterF func149 rfl ntmps149 rfl fun K C hC hK=> ?_
  repeat(refine zS ?_;intros)
  refine aL1 [0,1] (fun(k:Nat)=>[(5,I .i64 ((k:Int) -1))]) (fun _=>[.arr 3 1 (c.map Am.N)]) (fun k=>k≤c.length∧c.drop k=List.range' (n -(c.length -k)) (c.length -k)) (fun k=>k) c.length ⟨Nat.le_refl _,by simp⟩ (entL (.cons (leI (by omega)) .nil) zk (.cons (ob_refl _) (HLe.none _))) fun k ⟨hk,hI⟩=> ?_
  repeat(refine zS ?_;intros)
  refine zB ?_ ?_<;>intro h
  · obtain⟨i,rfl⟩: ∃i,k=i+1:=⟨k -1,by omega⟩
    rw[show(((i+1:Nat):Int) -1)=((i:Nat):Int) by omega]
    have hm:=hc.mem (c.getD i 0) (by simp only[List.getD,List.getElem?_eq_getElem (show i<c.length by omega),Option.getD_some];exact List.getElem_mem _)
    obtain⟨x,ex⟩: ∃x,c.getD i 0=x:=⟨_,rfl⟩
    rw[ex] at hm
    repeat(refine zS ?_;intros)
    rw[ex]
    repeat(refine zS ?_;intros)
    refine zB ?_ ?_<;>intro h2
    · repeat(refine zS ?_;intros)
      exact ag1 i ⟨by omega,QpG (by omega) (by omega) hcn hI⟩ (entL (.cons (leI (by omega)) .nil) zk (.cons (ob_refl _) (HLe.none _)))
    · repeat(refine zS ?_;intros)
      refine aL1 [0] (fun j=>[(6,Am.N j)]) (fun j=>[.arr 3 1 ((Qmr c i x j).map Am.N)]) (fun j=>i<j∧j≤c.length) (fun j=>c.length -j) (i+1) ⟨by omega,by omega⟩ (entL (.cons zle .nil) zk (.cons (ob_eq (by rw[←QlB (x:=x) (show i<c.length by omega),ex])) (HLe.none _))) fun j ⟨hj1,hj2⟩=> ?_
      have hal:=QpC (x:=x) hj1 hj2
      repeat(refine zS ?_;intros)
      refine zB ?_ ?_<;>intro h3
      · have hget:=QpB (x:=x) hj1 hj2
        have hset:=QpD (x:=x) hj1 (show j<c.length by omega)
        repeat(refine zS ?_;intros)
        rw[hget]
        repeat(refine zS ?_;intros)
        exact ag1 (j+1) ⟨by omega,by omega⟩ (entL (.cons zle .nil) zk (.cons (ob_eq (by rw[←hset])) (HLe.none _)))
      · obtain rfl:j=c.length:=by omega
        have hnx:=QpF hc (show i<c.length by omega) hI (by omega)
        rw[ex,←QpA (by omega)] at hnx
        repeat(refine zS ?_;intros)
        exact aRet (rs:=[_]) rfl rfl (.refl _) zr (hK.1 _ hnx)
  · obtain rfl:k=0:=by omega
    repeat(refine zS ?_;intros)
    exact aRet (rs:=[_]) rfl rfl (.refl _) zr (hK.2 (QpE (by simpa using hI)))⟩
end Go.Proofs.YtjdpemcnlejpfaaGreatDoor
