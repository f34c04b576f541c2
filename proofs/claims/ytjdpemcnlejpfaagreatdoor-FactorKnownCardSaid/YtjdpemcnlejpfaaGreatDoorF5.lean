/-
  F5, F6, F7, H7, H8
-/
import Derived.Test.YtjdpemcnlejpfaaGreatDoorH6
import Derived.Test.YtjdpemcnlejpfaaGreatDoorKnown2
import Derived.Test.YtjdpemcnlejpfaaGreatDoorDecP
set_option linter.all false
namespace Go.Proofs.YtjdpemcnlejpfaaGreatDoor
open Go.RowKit Go.Gx Go.Am Tryz
def Qmf(f:List Int)(e n k:Nat):List Int:=(List.range n).map fun j=>if j % e=0∧j/e<k then co f (j/e) else 0
theorem Qrf(f:List Int)(e n:Nat):List.replicate n 0=Qmf f e n 0:=by
  unfold Qmf
  refine List.ext_getElem (by simp) fun i h1 h2=> ?_
  simp
theorem Qre{f:List Int}{e n k:Nat}(he:0<e)(hk:k*e<n):(Qmf f e n k).set (k*e) (co f k)=Qmf f e n (k+1):=by
  refine List.ext_getElem (by simp [Qmf]) fun i h1 h2=> ?_
  rw[List.getElem_set]
  simp only[Qmf,List.getElem_map,List.getElem_range]
  split
  · rename_i h;subst h
    rw[Nat.mul_mod_left,Nat.mul_div_cancel _ he,if_pos ⟨rfl,by omega⟩]
  · rename_i h
    by_cases hm:i % e=0
    · have h3:i/e≠k:=fun h4=>h (by rw[←h4];exact Nat.div_mul_cancel (Nat.dvd_of_mod_eq_zero hm))
      by_cases h5:i/e<k
      · rw[if_pos ⟨hm,h5⟩,if_pos ⟨hm,by omega⟩]
      · rw[if_neg fun h6=>h5 h6.2,if_neg fun h6=>h3 (by omega)]
    · rw[if_neg fun h6=>hm h6.1,if_neg fun h6=>hm h6.1]
def QvW(f:List Int)(e:Nat):List Int:=if f.length=0 then [] else Qmf f e ((f.length -1)*e+1) f.length
set_option maxHeartbeats 1000000 in
instance c91:TK prog 91 (∀{M e:Nat}{F:List Int}(_:M≤1048576)(_:F.length≤64)(_:1≤e)(_:e≤64),AC prog 91 [] [pv M F,N e] fun K=>K [] [pc M (Xa (QvW (Xa F) e))]):=⟨fun {M e F} hM hF he he2=>by
  refine aEnter func91 rfl ntmps91 rfl fun K C hC hK=> ?_
  have hT:=Xe F
  obtain⟨f,ef⟩: ∃f,Xa F=f:=⟨_,rfl⟩
  rw[ef] at hK hT
  have hq:(f.length -1)*e≤64*64:=Nat.mul_le_mul (by omega) he2
  repeat(refine zS ?_;intros)
  rw[ef]
  refine zB ?_ ?_<;>intro h
  · rw[show QvW f e=[] by unfold QvW;rw[if_pos (by omega)]] at hK
    repeat(refine zS ?_;intros)
    exact aRet1 rfl zv hK le_p0
  repeat(refine zS ?_;intros)
  obtain⟨n,hn⟩: ∃n,(f.length -1)*e+1=n:=⟨_,rfl⟩
  rw[hn]
  refine aL1 [1,5,20,21] (fun k=>[(22,N k)]) (fun k=>[.arr 25 2 ((Qmf f e n k).map (it M))]) (fun k=>k≤f.length) (fun k=>f.length -k) 0 (by omega) (entL (.cons zle .nil) zk (.cons (ob_it (Qrf f e n) (by omega)) (HLe.none _))) fun k hk=> ?_
  have hl:(Qmf f e n k).length=n:=by simp [Qmf]
  repeat(refine zS ?_;intros)
  refine zB ?_ ?_<;>intro h2
  · have hkn:k*e≤(f.length -1)*e:=Nat.mul_le_mul_right e (by omega)
    have hst:=Qre (f:=f) (e:=e) (n:=n) (k:=k) (by omega) (by omega)
    repeat(refine zS ?_;intros)
    exact ag1 (k+1) (by omega) (entL (.cons zle .nil) zk (.drop (.cons (ob_it hst (by omega)) (HLe.none _))))
  · obtain rfl:k=f.length:=by omega
    rw[show QvW f e=Qmf f e n f.length by unfold QvW;rw[if_neg (by omega),hn]] at hK
    repeat(refine zS ?_;intros)
    refine AL.ent (entFzS hC (s:=34) (by exact rfl) 0 (by exact rfl) (by simp [Qmf]) (a:=pc M (Qmf f e n f.length)) (le_refl _)) ?_
    repeat(refine zS ?_;intros)
    exact aRet1 rfl zv hK (le_refl _)⟩
end Go.Proofs.YtjdpemcnlejpfaaGreatDoor
namespace Go.Proofs.YtjdpemcnlejpfaaGreatDoor
open Go.RowKit Go.Gx Go.Am Tryz
theorem Qfr(l:List Int): ∀n,(Zk l n).length≤n*l.length+1
  |0=>by simp [Zk]
  |n+1=>by
    have h1:=Qfr l n
    have h2:=Yo (Zk l n) l
    have h3:=Yo l (Zk l n)
    have h4:(n+1)*l.length=n*l.length+l.length:=Nat.succ_mul n _
    unfold Zk
    omega
def Qqu(u:Int)(fs:List (List Int×Nat)):List Int:=fs.foldl (fun a x=>Xa (Xg a (Xa (Zk x.1 x.2)))) (Xa [u])
set_option maxHeartbeats 1000000 in
instance c89:TK prog 89 (∀{M D:Nat}{u:Int}{fs:List (List Int×Nat)}(_:M≤65536)(_:D≤64)(_:fs.length≤32)(_:u≠0)(_: ∀x∈fs,1≤(Xa x.1).length∧x.1.length≤32∧x.2≤32),AC prog 89 [] [iv M u,sl 2 (fs.map (fv D))] fun K=>K [] [pc (M+fs.length*120000) (Qqu u fs)]):=⟨fun {M D u fs} hM hD hl hu hx=>by
  refine aEnter func89 rfl ntmps89 rfl fun K C hC hK=> ?_
  repeat(refine zS ?_;intros)
  refine aL1 [1,2,13,14] (fun k=>[(15,N k)]) (fun _=>[.arr 25 2 [iv M u]]) (fun k=>k≤fs.length) (fun k=>fs.length -k) 0 (by omega) (entL (.cons zle .nil) zk (.cons (ob_refl _) (HLe.none _))) fun k hk=> ?_
  repeat(refine zS ?_;intros)
  refine zB ?_ ?_<;>intro h
  · obtain⟨y,ey⟩: ∃y,fs.getD k ([],0)=y:=⟨_,rfl⟩
    have hm:y∈fs:=by
      rw[←ey];simp only[List.getD,List.getElem?_eq_getElem (show k<fs.length by omega),Option.getD_some];exact List.getElem_mem _
    have⟨a1,a2,a3⟩:=hx y hm
    repeat(refine zS ?_;intros)
    rw[ey]
    repeat(refine zS ?_;intros)
    refine zB ?_ ?_<;>intro h3<;>repeat(refine zS ?_;intros)
    · exact ag1 (k+1) (by omega) (entL (.cons zle .nil) zk (.drop (.cons (ob_refl _) (HLe.none _))))
    · exact ag1 (k+1) (by omega) (entL (.cons zle .nil) zk (.drop (.cons (ob_refl _) (HLe.none _))))
  repeat(refine zS ?_;intros)
  have hl1:[u].length≤1099511627776:=by simp
  refine AL.ent (entSub (s:=30) (a:=pv M [u]) (le_refl _)) ?_
  repeat(refine zS ?_;intros)
  refine aL2 [32,33] (fun k X=>[(7,pc (M+k*120000) X),(34,N k)]) (fun _ _=>[]) (fun k X=>k≤fs.length∧X.length≤1025*k+1∧(fs.drop k).foldl (fun a x=>Xa (Xg a (Xa (Zk x.1 x.2)))) X=Qqu u fs) (fun k _=>fs.length -k) 0 (Xa [u]) ⟨by omega,by have :=Xe [u];simpa using this,rfl⟩ (entL (.cons (le_pcc (by omega)) (.cons zle .nil)) zk (HLe.none _)) fun k X ⟨hk,hX,hI⟩=> ?_
  repeat(refine zS ?_;intros)
  refine zB ?_ ?_<;>intro h
  · obtain⟨y,ey⟩: ∃y,fs.getD k ([],0)=y:=⟨_,rfl⟩
    have hm:y∈fs:=by
      rw[←ey];simp only[List.getD,List.getElem?_eq_getElem (show k<fs.length by omega),Option.getD_some];exact List.getElem_mem _
    have⟨a1,a2,a3⟩:=hx y hm
    have hL:(Xa y.1).length≤31+1:=by have :=Xe y.1;omega
    have w1:y.2*D≤32*64:=Nat.mul_le_mul a3 hD
    have w2:y.2*y.2*(31+2)≤32*32*(31+2):=Nat.mul_le_mul (Nat.mul_le_mul a3 a3) (Nat.le_refl _)
    have w3:y.2*y.1.length≤32*32:=Nat.mul_le_mul a3 a2
    obtain⟨z,ez⟩: ∃z,Xa (Zk y.1 y.2)=z:=⟨_,rfl⟩
    have w4:z.length≤1025:=by have h8:=Nat.le_trans (Xe (Zk y.1 y.2)) (Qfr y.1 y.2);rw[ez] at h8;omega
    have w5:=Nat.le_trans (Xe (Xg X z)) (Yo X z)
    have hst:(fs.drop k).foldl (fun a x=>Xa (Xg a (Xa (Zk x.1 x.2)))) X=(fs.drop (k+1)).foldl (fun a x=>Xa (Xg a (Xa (Zk x.1 x.2)))) (Xa (Xg X z)):=by
      rw[List.drop_eq_getElem_cons (by omega),List.foldl_cons,←ez,←ey]
      simp [List.getD,show k<fs.length by omega]
    rw[hst] at hI
    have e9:(k+1)*120000=k*120000+120000:=Nat.succ_mul _ _
    repeat(refine zS ?_;intros)
    rw[ey]
    repeat(refine zS ?_;intros)
    rw[ez]
    repeat(refine zS ?_;intros)
    exact ag2 (k+1) (Xa (Xg X z)) ⟨by omega,by omega,hI⟩ (entL (.cons (le_pcc (by omega)) (.cons zle .nil)) zk (HLe.none _))
  · obtain rfl:k=fs.length:=by omega
    rw[List.drop_length] at hI
    change X=_ at hI
    rw[←hI] at hK
    repeat(refine zS ?_;intros)
    exact aRet1 rfl zv hK (le_refl _)⟩
end Go.Proofs.YtjdpemcnlejpfaaGreatDoor
namespace Go.Proofs.YtjdpemcnlejpfaaGreatDoor
open Go.RowKit Go.Gx Go.Am Tryz
theorem Qs6{D:Nat}{w:World}{S:Nat→Prop}:(fv D (([],0):List Int×Nat)).rep w S (.agg #[.slice none 0 0,.int .i64 0]):=by
  unfold fv agg
  exact⟨[.slice none 0 0,.int .i64 0],rfl,⟨le_p0 w S _ Qn8,(by unfold N I lit;rfl),trivial⟩,by intro c hc;simp at hc;rcases hc with rfl|rfl<;>rfl⟩
instance:ZV (.agg #[.slice none 0 0,.int .i64 0]) 2 (fv 17) (([],0):List Int×Nat):=⟨fun _ _=>Qs6,by kernel_rfl⟩
instance c41:TK prog 41 (∀{M:Nat}{u:Int}{fs:List (List Int×Nat)}(_:M≤65536)(_:fs.length≤32)(_:u≠0)(_: ∀x∈fs,1≤(Xa x.1).length∧x.1.length≤32∧x.2≤32),AC prog 41 [] [iv M u,sl 2 (fs.map (fv 17))] fun K=>K [] [pc (M+fs.length*120000) (Qqu u fs)]):=⟨fun {M u fs} hM hl hu hx=>by
  refine aEnter func41 rfl ntmps41 rfl fun K C hC hK=> ?_
  repeat(refine zS ?_;intros)
  refine aL1 [2,5,11,12] (fun k=>[(13,N k)]) (fun k=>[.arr 101 2 ((fs.take k++List.replicate (fs.length -k) ([],0)).map (fv 17)),.arr 25 2 [iv M u]]) (fun k=>k≤fs.length) (fun k=>fs.length -k) 0 (by omega) (entL (.cons zle .nil) zk (.cons (ob_eq (by simp)) (.cons (ob_refl _) (HLe.none _)))) fun k hk=> ?_
  have hlk:(fs.take k++List.replicate (fs.length -k) (([],0):List Int×Nat)).length=fs.length:=by simp;omega
  repeat(refine zS ?_;intros)
  refine zB ?_ ?_<;>intro h
  · have hset:(fs.take k++List.replicate (fs.length -k) (([],0):List Int×Nat)).set k (fs.getD k ([],0))=fs.take (k+1)++List.replicate (fs.length -(k+1)) ([],0):=by
      have h1:(fs.take k).length=k:=by rw[List.length_take];omega
      rw[show fs.length -k=(fs.length -(k+1))+1 by omega,List.replicate_succ,List.set_append_right _ _ (by omega),h1,Nat.sub_self,List.set_cons_zero,List.take_add_one,List.getElem?_eq_getElem (show k<fs.length by omega),List.append_assoc]
      simp [List.getD,show k<fs.length by omega]
    repeat(refine zS ?_;intros)
    exact ag1 (k+1) (by omega) (entL (.cons zle .nil) zk (.drop (.cons (ob_eq (by rw[←hset])) (.cons (ob_refl _) (HLe.none _)))))
  · obtain rfl:k=fs.length:=by omega
    repeat(refine zS ?_;intros)
    refine AL.ent (entFzS hC (s:=28) (by exact rfl) 0 (by exact rfl) (by rw[List.length_map];exact hlk) (a:=sl 2 (fs.map (fv 17))) (.of_eq (by rw[List.take_length,Nat.sub_self,List.replicate_zero,List.append_nil]))) ?_
    repeat(refine zS ?_;intros)
    exact aRet1 rfl zv hK (le_refl _)⟩
end Go.Proofs.YtjdpemcnlejpfaaGreatDoor
namespace Go.Proofs.YtjdpemcnlejpfaaGreatDoor
open Go.RowKit Go.Gx Go.Am Tryz
theorem QpK{p i:Nat}(hp:Xk p){l:List (List Nat)}{g:List Nat}(hl: ∀d∈l,Zw p d)(hi:l[i]? =some g):XE p (Qji p l i):=by
  have hp0:0<p:=by have :=hp.1;omega
  have hg:=hl g (List.mem_of_getElem? hi)
  have hgp:=hg.pos
  have hgd:l.getD i []=g:=by rw[List.getD,hi];rfl
  unfold Qji Qb9
  rw[hgd,hg.can.nrm]
  dsimp only
  rw[if_neg (by omega)]
  split
  · exact⟨fun d hd=>(by cases hd),fun h=>absurd rfl h⟩
  · exact(QaB hp0 (Qc1 hp0 _ _ _ _ _)).2
theorem QpM{p:Nat}(hp:PrS p){l:List (List Nat)}(hm: ∀d∈l,Zw p d)(hc:CoA p l)(h32: ∀d∈l,d.length≤32):(Qaq p l).length=l.length∧ ∀s∈Qaq p l,s.length≤32∧ ∀d∈s,d<p:=by
  refine⟨by simp [Qaq],fun s hs=> ?_⟩
  obtain⟨i,hi⟩:=List.getElem?_of_mem hs
  obtain⟨h1,rfl⟩:=QeY hi
  have h2:=(Qjj hp.1 hm (QaQ h1) (Qrx hp.1 hm hc)).1
  have h3:=h32 _ (Yr h1)
  refine⟨by omega,?_⟩
  exact(QpK hp.1 hm (QaQ h1)).1
theorem QqF{m:Nat}{ex s g:List Int}(h:s.length≤32)(hg:g.length≤32):(QkN m ex s g).length≤32:=by
  unfold QkN
  have h1:=Zu m (Xa (XD s (QfL m (Xa (Xg s ex)) g)))
  have h2:=Xe (XD s (QfL m (Xa (Xg s ex)) g))
  have h3:=QeD m (Xa (Xg s ex)) g
  have h4:=Xe g
  have h5:(XD s (QfL m (Xa (Xg s ex)) g)).length=max s.length (QfL m (Xa (Xg s ex)) g).length:=by simp [XD]
  omega
theorem Qt4{m:Nat}{x:Int}{f:List Int}{gs ss:List (List Int)}(hg: ∀f∈gs,f.length≤32)(hs: ∀f∈ss,f.length≤32): ∀u∈step1 m x f gs ss,u.length≤32:=fun u hu=>by
  unfold step1 at hu
  obtain⟨p,hp,rfl⟩:=List.mem_map.1 hu
  exact QqF (hs _ (List.of_mem_zip hp).1) (QjZ hg _ (List.of_mem_zip hp).2)
theorem Qo9{p:Nat}{l:List (List Nat)}(h: ∀d∈l,d.length≤32): ∀u∈Qae p l,u.length≤32:=fun u hu=>by
  unfold Qae at hu
  obtain⟨d,hd,rfl⟩:=List.mem_map.1 hu
  have :=Xe (d.map (QdX p))
  rw[List.length_map] at this
  have :=h d hd
  omega
theorem Qlk{p i:Nat}{l:List (List Nat)}(h:i<l.length):Qae p (l.take (i+1))=Qae p (l.take i)++[Xa ((l.getD i []).map (QdX p))]:=by
  unfold Qae
  rw[List.take_add_one,QaQ h,List.map_append];rfl
theorem QnL{M M':Nat}{l:List (List Int)}(h:M≤M'):(pcs M l).le (pcs M' l):=le_map l (fun _=>le_pcc h) fun _=>QvF
theorem Qvn{M M':Nat}{z z':Int}(hz:z=z')(h:z'.natAbs<BS^M'):(it M z).le (it M' z'):=by subst hz;exact it_lt h
theorem QwK{t:TypeId}{M M':Nat}{z z':Int}(hz:z=z')(h:z'.natAbs<BS^M'):(Ob.arr t 1 (itl M z)).le (.arr t 1 (itl M' z')):=by subst hz;exact ob_il h
set_option maxHeartbeats 4000000 in
instance Qxb:TK prog 136 (∀{Mf Mm p k:Nat}{f:List Int}{l:List (List Nat)}(_:PrS p)(_:Mf≤4096)(_:2≤Mm∧Mm≤4096)(_:p^k<BS^Mm)(_:1≤k∧k≤600)(_:f.length≤1024)(_:l.length≤32)(_: ∀d∈l,Zw p d) (_: ∀d∈l,d.length≤32) (_:CoA p l) (_: ¬Qut p f l),AC prog 136 [] [pv Mf f,Qi7 l,W32 p,N k] fun K=> ∀L0 L1 e,LReach p k f (Qae p l) (Qae p (Qaq p l)) L0 L1 e→(e=k∨QfU f L0)→L0.length=l.length→(∀u∈L0,u.length≤32)→K [] [pcs Mm L0,I .i64 0]):=⟨fun {Mf Mm p k f l} hp hMf hMm hpk hk hf hl hm hd hc hb=>by
  refine aEnter func136 rfl ntmps136 rfl fun K C hC hK=> ?_
  have h1:=hp.two
  have h2:=hp.lt
  have hp0:0<p:=by omega
  have hip:=QbU hp
  have em:=QbW h1 hm
  have hlead:md p (ldP f)≠0:=fun h=>hb (.inl h)
  have hmdl:=Qej hp0 (ldP f)
  have hsame:XO p (QcM p [md p (ldP f)] l)=XO p (XR p f):=Classical.not_not.1 fun h=>hb (.inr h)
  have⟨cl,ch⟩:=QpM hp hm hc hd
  repeat(refine zS ?_;intros)
  refine aL1 [0,1,2,3,10,35,36] (fun i=>[(37,N i)]) (fun i=>[.arr 66 1 ((l.take i++List.replicate (l.length -i) []).map raw)]) (fun i=>i≤l.length) (fun i=>l.length -i) 0 (by omega) (entL (.cons zle .nil) zk (.cons (ob_eq (by simp)) (HLe.none _))) fun i hi=> ?_
  have hlk:(l.take i++List.replicate (l.length -i) ([]:List Nat)).length=l.length:=by simp;omega
  repeat(refine zS ?_;intros)
  refine zB ?_ ?_<;>intro h3
  · have a1:=hd _ (Yr (l:=l) (i:=i) (by omega))
    have a2:=Qgq h1 (hm _ (Yr (l:=l) (i:=i) (by omega)))
    have hset:(l.take i++List.replicate (l.length -i) ([]:List Nat)).set i (l.getD i [])=l.take (i+1)++List.replicate (l.length -(i+1)) []:=by
      have h9:(l.take i).length=i:=by rw[List.length_take];omega
      rw[show l.length -i=(l.length -(i+1))+1 by omega,List.replicate_succ,List.set_append_right _ _ (by omega),h9,Nat.sub_self,List.set_cons_zero,List.take_add_one,QaQ (show i<l.length by omega),List.append_assoc]
      rfl
    obtain⟨g,eg⟩: ∃g,l.getD i []=g:=⟨_,rfl⟩
    rw[eg] at a1 a2 hset
    repeat(refine zS ?_;intros)
    rw[eg]
    repeat(refine zS ?_;intros)
    rw[a2]
    repeat(refine zS ?_;intros)
    exact ag1 (i+1) (by omega) (entL (.cons zle .nil) zk (.cons (ob_eq (by rw[←hset])) (HLe.none _)))
  obtain rfl:i=l.length:=by omega
  refine AW.ent (entFzS hC (s:=10) (by exact rfl) 0 (by exact rfl) (by simp) (a:=Qi7 l) (.of_eq (by rw[List.take_length,Nat.sub_self,List.replicate_zero,List.append_nil]))) ?_
  have hdeg: ∀f∈l,2≤(XO p f).length:=fun f hf=>by have :=hm f hf;rw[this.can.nrm];exact this.pos
  have hd64: ∀f∈l,f.length≤64:=fun f hf=>by have :=hd f hf;omega
  repeat(refine zS ?_;intros)
  refine aL2 [0,1,2,3,10,13,15,67,68] (fun j X=>[(16,raw X),(69,N j)]) (fun _ _=>[]) (fun j X=>j≤l.length∧X.length≤64*j+1∧(l.drop j).foldl (Qau p) X=QcM p [md p (ldP f)] l) (fun j _=>l.length -j) 0 [md p (ldP f)] ⟨by omega,by simp,rfl⟩ (entL (.cons (by exact le_refl (raw [md p (ldP f)])) (.cons zle .nil)) zk (HLe.none _)) fun j X ⟨hj,hX,hI⟩=> ?_
  repeat(refine zS ?_;intros)
  refine zB ?_ ?_<;>intro h4
  · have a1:=hd _ (Yr (l:=l) (i:=j) (by omega))
    have hst:(l.drop j).foldl (Qau p) X=(l.drop (j+1)).foldl (Qau p) (Qau p X (l.getD j [])):=by
      rw[List.drop_eq_getElem_cons (by omega),List.foldl_cons]
      simp [List.getD,show j<l.length by omega]
    rw[hst] at hI
    obtain⟨g,eg⟩: ∃g,l.getD j []=g:=⟨_,rfl⟩
    rw[eg] at a1 hI
    have m1:=(Qa6 p X g).1
    repeat(refine zS ?_;intros)
    rw[eg]
    repeat(refine zS ?_;intros)
    exact ag2 (j+1) (Qau p X g) ⟨by omega,by omega,hI⟩ (entL (.cons zle (.cons zle .nil)) zk (HLe.none _))
  obtain rfl:j=l.length:=by omega
  rw[List.drop_length] at hI
  change X=_ at hI
  rw[←hI] at hsame
  have hsm:AC prog 188 [] [raw X,raw (XR p f),W32 p] fun K=>K [] [Bo true]:=by
    have h9:=QeC hp0 f
    have h8:=Xe f
    have h7:AC prog 188 [] [raw X,raw (XR p f),W32 p] fun K=>K [] [Bo (decide (XO p X=XO p (XR p f)))]:=Qxe.k (by omega) (by omega) (by omega) (by omega)
    rwa [decide_eq_true hsame] at h7
  repeat(refine zS ?_;intros)
  rename_i g19 _
  refine AW.ent (entGro 30 1) ?_
  refine AW.ent (entGro 30 1) ?_
  refine aLoop [0,2,3,13,19,89,90] (fun x:(Option Nat×Nat)× (Option Nat×Nat)×Nat=>[(91,N x.2.2)]) (fun x=>[(x.1.1,.gro 30 1 ((Qae p (l.take x.2.2)).map (pc 2)) x.1.2),(x.2.1.1,.gro 30 1 ((Qae p ((Qaq p l).take x.2.2)).map (pc 2)) x.2.1.2),(some g19,.arr 214 1 [gh x.1.1 x.2.2 x.1.2,gh x.2.1.1 x.2.2 x.2.1.2])]) (fun x=>x.2.2≤l.length) (fun x=>l.length -x.2.2) ((none,0),(none,0),0) (by show 0≤l.length;omega) (entL (.cons zle .nil) zk (by refine .cons (ob_refl _) (.cons (ob_refl _) (.cons (ob_arr (.cons Qas (.cons Qas .nil)) (QsN gh_sh gh_sh)) (HLe.none _))))) fun⟨⟨k0,c0⟩,⟨k1,c1⟩,i⟩ hi'=> ?_
  dsimp only at hi'⊢
  repeat(refine zS ?_;intros)
  refine zB ?_ ?_<;>intro h5
  · have n1:=Qlk (p:=p) (l:=l) (i:=i) (by omega)
    have n2:=Qlk (p:=p) (l:=Qaq p l) (i:=i) (by omega)
    have a1:=hd _ (Yr (l:=l) (i:=i) (by omega))
    have a2:=(hm _ (Yr (l:=l) (i:=i) (by omega))).can.1
    have⟨a3,a4⟩:=ch _ (Yr (l:=Qaq p l) (i:=i) (by omega))
    have q1:(Qae p (l.take i)).length=i:=by simp [Qae];omega
    have q2:(Qae p ((Qaq p l).take i)).length=i:=by simp [Qae];omega
    obtain⟨g,eg⟩: ∃g,l.getD i []=g:=⟨_,rfl⟩
    obtain⟨s,es⟩: ∃s,(Qaq p l).getD i []=s:=⟨_,rfl⟩
    rw[eg] at a1 a2 n1
    rw[es] at a3 a4 n2
    repeat(refine zS ?_;intros)
    rw[eg]
    repeat(refine zS ?_;intros)
    rename_i k0' c0'
    rw[es]
    repeat(refine zS ?_;intros)
    rename_i k1' c1'
    exact aAgain ((k0',c0'),(k1',c1'),i+1) (by show i+1≤l.length;omega) (by show l.length -(i+1)<l.length -i;omega) (entL (.cons zle .nil) zk (.cons (Qa4 (by rw[n1,List.map_append];rfl)) (.cons (Qa4 (by rw[n2,List.map_append];rfl)) (.cons (ob_arr (.cons (Qcr (by simp [q1])) (.cons (Qcr (by simp [q2])) .nil)) (QsN gh_sh gh_sh)) (HLe.none _)))))
  obtain rfl:i=l.length:=by omega
  rw[List.take_length,List.take_of_length_le (show(Qaq p l).length≤l.length by omega)]
  have q1:(Qae p l).length=l.length:=by simp [Qae]
  have q2:(Qae p (Qaq p l)).length=l.length:=by simp [Qae,cl]
  refine AW.ent (entFzO hC (m:=l.length) 0 (by exact rfl) (by rw[List.length_map];exact q1) 1 (by exact rfl) 0 (by exact rfl)) ?_
  refine AW.ent (entFzO hC (m:=l.length) 0 (by exact rfl) (by rw[List.length_map];exact q2) 0 (by exact rfl) 1 (by exact rfl)) ?_
  have hok:=Qte (k:=k) hp.1 hm (by rw[em];exact hc) (by rw[em];exact hb)
  rw[em] at hok
  repeat(refine zS ?_;intros)
  rename_i g22
  refine aLoop [0,2,3,19,22] (fun x:List (List Int)×List (List Int)×Nat=>[(23,N x.2.2)]) (fun x=>[(some g22,.arr 25 1 (itl Mm ((p^x.2.2:Nat):Int))),(some g19,.arr 214 1 [pcs Mm x.1,pcs Mm x.2.1])]) (fun x=>LReach p k f (Qae p l) (Qae p (Qaq p l)) x.1 x.2.1 x.2.2∧1≤x.2.2∧x.2.2≤k∧x.1.length=l.length∧x.2.1.length=l.length∧(∀u∈x.1,u.length≤32)∧ ∀u∈x.2.1,u.length≤32) (fun x=>k -x.2.2) (Qae p l,Qae p (Qaq p l),1) ⟨.start,Nat.le_refl _,hk.1,q1,q2,Qo9 hd,Qo9 fun s hs=>(ch s hs).1⟩ (entL (.cons zle .nil) zk (.cons (ob_i (by rw[Nat.pow_one]) hMm.1) (.cons (ob_arr (.cons (QnL hMm.1) (.cons (QnL hMm.1) .nil)) (QsN sl_sh sl_sh)) (HLe.none _)))) fun⟨L0,L1,e⟩ ⟨hR,he1,hek,hl0,hl1,h0,hl32⟩=> ?_
  dsimp only at hR he1 hek hl0 hl1 h0 hl32⊢
  have hisf:AC prog 190 [] [pv Mf f,pcs Mm L0] fun K=>K [] [Bo (decide (Xa f=Xa (Qba [ldP f] L0)))]:=AC.les (Qxf.k (by omega:Mm≤65536) (by omega) (by omega) hf h0) (.cons (le_refl _) (.cons (Qhe (Nat.le_refl _)) .nil))
  repeat(refine zS ?_;intros)
  refine zB ?_ ?_<;>intro h6
  · obtain rfl:e=k:=by omega
    repeat(refine zS ?_;intros)
    exact aRet2 rfl zv zv (hK L0 L1 e hR (.inl rfl) hl0 h0) (le_refl _) (le_refl _)
  repeat(refine zS ?_;intros)
  refine zB ?_ ?_<;>intro h7
  · repeat(refine zS ?_;intros)
    exact aRet2 rfl zv zv (hK L0 L1 e hR (.inr h7) hl0 h0) (le_refl _) (le_refl _)
  obtain⟨n,hn⟩: ∃n,min e (k -e)=n:=⟨_,rfl⟩
  have hn6:n≤600:=by omega
  have hnn:n*n≤600*600:=Nat.mul_le_mul hn6 hn6
  have hen:e+n≤k:=by omega
  have hpe:p^ (e+n)<BS^Mm:=Nat.lt_of_le_of_lt (Nat.pow_le_pow_right hp0 hen) hpk
  have hstep:AC prog 192 [] [pv Mf f,agg [pcs Mm L0,pcs Mm L1],it Mm ((p^ (e+n):Nat):Int)] fun K=> ∀x:Int,(∃k':Int,x*ldP f=1+((p^ (e+n):Nat):Int)*k')→x=YY (p^ (e+n)) x→K [] [agg [pcs Mm (step0 (p^ (e+n)) x f L0 L1),pcs Mm (step1 (p^ (e+n)) x f L0 L1)]]:=
    AC.les (Qxg.k (M:=Mm) hMm.2 hMf hMm.2 hMm.1 (Nat.pow_pos hp0) (QgU hp.1 hlead) hf (by omega) (by omega) h0 hl32 (hok L0 L1 e hR) fun x ⟨k',hx⟩ hs=>hok _ _ _ (by have h9:=LReach.next hR (by omega) h7 (by rw[hn];exact hx) (by rw[hn];exact hs);rwa [hn] at h9)) (.cons (le_refl _) (.cons (le_agg (.cons (Qhe (Nat.le_refl _)) (.cons (Qhe (Nat.le_refl _)) .nil))) (.cons le_it0 .nil)))
  repeat(refine zS ?_;intros)
  show AD _ _ _ _ _ _ _ _ _ _ _
  rw[hn]
  repeat(refine zS ?_;intros)
  refine AL.ent (entH (.cons (QwK (z':=((p^ (e+n):Nat):Int)) (by rw[Nat.pow_add,Int.natCast_mul]) (by rw[Int.natAbs_natCast];exact hpe)) (HLe.refl _))) ?_
  refine AL.ent (entSub (s:=143) (a:=it Mm ((p^ (e+n):Nat):Int)) (Qvn (by rw[Nat.pow_add,Int.natCast_mul]) (by rw[Int.natAbs_natCast];exact hpe))) ?_
  repeat(refine zS ?_;intros)
  rename_i x hx hxs
  have hnx:LReach p k f (Qae p l) (Qae p (Qaq p l)) (step0 (p^ (e+n)) x f L0 L1) (step1 (p^ (e+n)) x f L0 L1) (e+n):=by
    obtain⟨k',hx⟩:=hx
    have h9:=LReach.next hR (by omega) h7 (by rw[hn];exact hx) (by rw[hn];exact hxs)
    rwa [hn] at h9
  have s0l:(step0 (p^ (e+n)) x f L0 L1).length=l.length:=by unfold step0;rw[List.length_map,List.length_zip];omega
  have s1l:(step1 (p^ (e+n)) x f L0 L1).length=l.length:=by unfold step1;rw[List.length_map,List.length_zip];omega
  exact aAgain (step0 (p^ (e+n)) x f L0 L1,step1 (p^ (e+n)) x f L0 L1,e+n) ⟨hnx,by show 1≤e+n;omega,hen,s0l,s1l,QjZ h0,Qt4 h0 hl32⟩ (by show k -(e+n)<k -e;omega) (entL (.cons zle .nil) zk (HLe.refl _))⟩
end Go.Proofs.YtjdpemcnlejpfaaGreatDoor
namespace Go.Proofs.YtjdpemcnlejpfaaGreatDoor
open Go.RowKit Go.Gx Go.Am Tryz
set_option maxHeartbeats 1000000 in
instance QxP:TK prog 134 (∀{M:Nat}{f:List Int}(_:M≤65536)(_:f.length≤17)(_:1≤(Xa f).length),AC prog 134 [] [pv M f] fun K=>K [] [it (M+4) (QmA f)]):=⟨fun {M f} hM hf h1=>by
  refine aEnter func134 rfl ntmps134 rfl fun K C hC hK=> ?_
  have hT:=Xe f
  obtain⟨n,hn⟩: ∃n,(Xa f).length=n+1:=⟨(Xa f).length -1,by omega⟩
  repeat(refine zS ?_;intros)
  rw[show(((Xa f).length:Int) -1)=((n:Nat):Int) by omega]
  repeat(refine zS ?_;intros)
  rename_i g2 r r1 r2 z g4 g5
  have hr:=QwN r1 r2 (by omega)
  refine aDr1 [0,1,2,3,4,5] ?_
  repeat' (first | (refine zR ?_;intros)| (refine adO1 (by exact rfl) (zst ?_);intros)| (refine adO2 (by exact rfl) (zst ?_) (zst ?_)<;>intros)| (refine adO3 (by exact rfl) (zst ?_) (zst ?_) (zst ?_)<;>intros))
  all_goals repeat(refine zS ?_;intros)
  all_goals rename_i g7
  all_goals refine aLoop [2,7] (fun _:Unit=>[(3,Am.N n)]) (fun _=>[(some g7,.arr 25 1 (itl (M+3) (((rtN (n+1):Nat):Int)*(hgt f:Int)))),(some g2,.arr 25 1 [Bo false,nilS])]) (fun _=>True) (fun _=>0) () trivial (entL (.cons zle .nil) zk (.cons (ob_i (by rw[←hr];rfl) (by omega)) (.drop (.drop (.cons (ob_refl _) (HLe.none _)))))) fun _ _=> ?_
  all_goals repeat(refine zS ?_;intros)
  all_goals rw[show((rtN (n+1):Nat):Int)*(hgt f:Int)*2^n=QmA f by rw[QmA,if_neg (fun e=>by rw[e] at hn;simp at hn),hn,Nat.add_sub_cancel];push_cast;rfl]
  all_goals repeat(refine zS ?_;intros)
  all_goals exact aRZ (rs:=[_]) rfl hK⟩
end Go.Proofs.YtjdpemcnlejpfaaGreatDoor
