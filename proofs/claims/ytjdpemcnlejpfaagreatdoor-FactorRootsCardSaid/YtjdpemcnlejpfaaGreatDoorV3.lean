/-
  V3, V4, V5, V6, V7
-/
import Derived.Test.YtjdpemcnlejpfaaGreatDoorU4
import Derived.Test.YtjdpemcnlejpfaaGreatDoorDivMath2
import Derived.Test.YtjdpemcnlejpfaaGreatDoorGcdMath
set_option linter.all false
namespace Go.Proofs.YtjdpemcnlejpfaaGreatDoor
open Go.RowKit Go.Gx Go.Am Tryz
theorem Qnm(m:Nat)(x:Rat):evQ (List.replicate m (0:Int)) x=0:=(YI x (g:=[]) fun i=>by simp [co,List.getD,List.getElem?_replicate];split<;>rfl).trans rfl
theorem Qu2{E K s:Nat}(h:s+1≤K):E*(K -(s+1))+E=E*(K -s):=by rw[←Nat.mul_succ];congr 1;omega
set_option maxHeartbeats 4000000 in
instance c90:TK prog 90 (∀{M Mg:Nat}{F G:List Int}(_:F.length≤4096)(_:G.length≤4096)(_:M≤1099511627)(_:Mg≤1048576)(_:ldP G≠0),AC prog 90 [] [pv M F,pv Mg G] fun K=>(∀Q,(∀x:Rat,evQ F x=evQ Q x*evQ G x)→Q.length=(Xa F).length -((Xa G).length -1)→K [] [pc (M+(Mg+G.length+4)*F.length) Q,I .i64 0])∧(QrJ F G→K [] [pc 0 [],I .i64 3])):=⟨fun {M Mg F G} hF hG hM hMg hg0=>by
  refine aEnter func90 rfl ntmps90 rfl fun K C hC hK=> ?_
  obtain⟨d,hd⟩:=Qa5 hg0
  have⟨hdL,hdz,_⟩:=Zj hd
  have hF1:=Xe F
  have hG1:=Xe G
  have own:=QaG (M:=M) (l:=F) (by omega) (by omega)
  have hdeg:AC prog 19 [] [pv Mg G] fun K=>K [] [N d]:=by
    have :=c19.k (M:=Mg) (l:=G) (by omega)
    rw[show((Xa G).length:Int) -1=(d:Int) by omega] at this
    exact this
  have hEB:(Mg+G.length+4)*F.length≤1056676*4096:=Nat.mul_le_mul (by omega) (by omega)
  repeat(refine zS ?_;intros)
  rename_i g7 gR gQ
  generalize hk':((((Xa F).length:Nat):Int) -(d:Int)).toNat=k0 at *
  have hk0:k0=(Xa F).length -d:=by omega
  have hbud: ∀s,(Mg+d+4)*s≤(Mg+G.length+4)*F.length∨F.length<s:=fun s=>by
    rcases Nat.lt_or_ge F.length s with h|h
    · exact .inr h
    · exact .inl (Nat.mul_le_mul (by omega) h)
  refine aL3 [1,6,7,8,9] (fun(s:Nat) _ _=>[(10,I .i64 ((s:Int) -1))]) (fun s LR LQ=>[.arr 25 2 (LQ.map (it (M+(Mg+d+4)*(k0 -s)))),.arr 25 2 (LR.map (it (M+(Mg+d+4)*(k0 -s)))),.arr 25 1 (itl Mg (ldP G))]) (fun s LR LQ=>s≤k0∧LR.length=(Xa F).length∧LQ.length=k0∧(∀i,i<s→co LQ i=0)∧(∀i,s+d≤i→co LR i=0)∧ ∀x:Rat,evQ F x=evQ LQ x*evQ G x+evQ LR x) (fun s _ _=>s) k0 (Xa F) (List.replicate k0 0) ⟨by omega,rfl,by simp,fun i _=>by simp [co,List.getD,List.getElem?_replicate];split<;>rfl,fun i hi=>QcS (n:=(Xa F).length) (Nat.le_refl _) i (by omega),fun x=>by rw[Qnm,Zt];grind⟩ (entL (.cons zle .nil) zk (.cons (ob_it rfl (by omega)) (.cons (ob_it rfl (by omega)) (.cons (ob_refl _) (HLe.none _))))) fun s LR LQ ⟨hs,hLR,hLQ,hq0,hR0,hI⟩=> ?_
  repeat(refine zS ?_;intros)
  refine zB ?_ ?_<;>intro h
  · obtain⟨low,rfl⟩: ∃low,s=low+1:=⟨s -1,by omega⟩
    refine AW.ent (entSub (s:=10) (a:=N low) leI) ?_
    have hb1:=hbud (k0 -(low+1))
    have hb2:=Qu2 (E:=Mg+d+4) (K:=k0) (s:=low) (by omega)
    have hb3:=hbud (k0 -low)
    repeat(refine zS ?_;intros)
    by_cases hdv:(LR.getD (low+d) 0).tmod (ldP G)=0
    · have hmul:co LR (low+d)=ldP G*(LR.getD (low+d) 0).tdiv (ldP G):=by
        have :=Int.tmod_add_mul_tdiv (LR.getD (low+d) 0) (ldP G)
        rw[hdv,Int.zero_add] at this;exact this.symm
      obtain⟨f,hf⟩: ∃f,(LR.getD (low+d) 0).tdiv (ldP G)=f:=⟨_,rfl⟩
      rw[hf] at hmul
      refine aJ1 [1,6,7,8,9,10] (fun g11=>[(11,lpt 1 g11 0),(12,I .i64 0)]) (fun g11=>[(some g11,.arr 25 1 (itl (M+(Mg+d+4)*(k0 -(low+1))) f)),(some gQ,.arr 25 2 (LQ.map (it (M+(Mg+d+4)*(k0 -(low+1)))))),(some gR,.arr 25 2 (LR.map (it (M+(Mg+d+4)*(k0 -(low+1)))))),(some g7,.arr 25 1 (itl Mg (ldP G)))]) (fun _=>True) ?_ ?_
      · refine aDr1 [11,0,1,2,3,4,5,6,7,8,9,10,12,13] ?_
        repeat' (first | (refine zR ?_;intros)| (refine zC ?_;intros)| (refine adO1 (by exact rfl) (zst ?_);intros)| (refine adO2 (by exact rfl) (zst ?_) (zst ?_)<;>intros))
        all_goals rename_i ga
        all_goals exact jd1 ga trivial (entL (.cons zle (.cons zle .nil)) zk (.cons (ob_i hf (Nat.le_refl _)) (HLe.refl _)))
      rintro g11 -
      repeat(refine zS ?_;intros)
      refine aL2 [1,6,7,8,9,10,11] (fun j _=>[(13,N j)]) (fun j L2=>[.arr 25 1 (itl (M+(Mg+d+4)*(k0 -(low+1))) f),.arr 25 2 ((LQ.set low f).map (it (M+(Mg+d+4)*(k0 -(low+1))))),.arr 25 2 (L2.map (it ((M+(Mg+d+4)*(k0 -(low+1)))+Mg+1+j))),.arr 25 1 (itl Mg (ldP G))]) (fun j L2=>j≤d+1∧L2.length=(Xa F).length∧ ∀i,co L2 i=if i<low+j then co LR i -f*cs G low i else co LR i) (fun j _=>d+1 -j) 0 LR ⟨by omega,hLR,Qmn⟩ (entL (.cons zle .nil) zk (.cons (ob_refl _) (.cons (ob_refl _) (.cons (ob_it rfl (by omega)) (.cons (ob_refl _) .nil))))) fun j L2 ⟨hj,hL2,hz2⟩=> ?_
      repeat(refine zS ?_;intros)
      refine zB ?_ ?_<;>intro h2
      · have hlt:low+j<L2.length:=by omega
        repeat(refine zS ?_;intros)
        exact ag2 (j+1) (L2.set (low+j) (L2.getD (low+j) 0 -f*G.getD j 0)) ⟨by omega,by rw[List.length_set];exact hL2,Qpo hz2 hlt rfl⟩ (entL (.cons zle .nil) zk (.cons (ob_refl _) (.cons (ob_refl _) (.cons (ob_it rfl (by omega)) (.cons (ob_refl _) .nil)))))
      · have hall:=Qrn hz2 (show j=d+1 by omega) hdz
        repeat(refine zS ?_;intros)
        exact ag3 low L2 (LQ.set low f) ⟨by omega,hL2,by rw[List.length_set];exact hLQ,fun i hi=>by rw[QcB (by omega),if_neg (by omega)];exact hq0 i (by omega),Qro hall rfl hR0 hdL hdz hmul,QlQ hI (hq0 low (by omega)) (QcB (by omega)) hall⟩ (entL (.cons zle .nil) zk (.drop (.cons (ob_it rfl (by omega)) (.cons (ob_it rfl (by omega)) (.cons (ob_refl _) .nil)))))
    · refine aJ1 [1,6,7,8,9,10] (fun _=>[(12,I .i64 3)]) (fun _=>[]) (fun _:Unit=>True) ?_ ?_
      · refine aDr1 [11,0,1,2,3,4,5,6,7,8,9,10,12,13] ?_
        repeat' (first | (refine zR ?_;intros)| (refine zC ?_;intros)| (refine adO1 (by exact rfl) (zst ?_);intros)| (refine adO2 (by exact rfl) (zst ?_) (zst ?_)<;>intros))
        all_goals exact jd1 () trivial (entL (.cons zle .nil) zk (HLe.none _))
      rintro - -
      repeat(refine zS ?_;intros)
      exact aRet2 rfl zv zv (hK.2 ⟨LQ,LR,low+1,hI,fun i hi=>hR0 i (by omega),.inl ⟨by omega,fun hdvd=>hdv (by rw[hd,show low+1 -1+(d+1 -1)=low+d by omega] at hdvd;exact Int.tmod_eq_zero_of_dvd hdvd)⟩⟩) le_p0 zle
  · obtain rfl:s=0:=by omega
    repeat(refine zS ?_;intros)
    refine AL.ent (entFzS hC (s:=75) (by exact rfl) 1 (by exact rfl) (by rw[List.length_map];exact hLR) (a:=pc (M+(Mg+d+4)*(k0 -0)) LR) (le_refl _)) ?_
    have hz1:=Xe LR
    repeat(refine zS ?_;intros)
    refine zB ?_ ?_<;>intro h2<;>repeat(refine zS ?_;intros)
    · exact aRet2 rfl zv zv (hK.2 ⟨LQ,LR,0,hI,fun i hi=>hR0 i (by omega),.inr ⟨rfl,QpJ (by omega)⟩⟩) le_p0 zle
    · refine AX.ent (entFzS hC (s:=4) (by exact rfl) 0 (by exact rfl) (by rw[List.length_map];exact hLQ) (a:=pc (M+(Mg+d+4)*(k0 -0)) LQ) (le_refl _)) ?_
      have hb1:=hbud (k0 -0)
      exact aRet2 rfl zv zv (hK.1 LQ (fun x=>by rw[hI x,QlP (R:=LR) (by omega)];grind) (by omega)) (le_pcc (by omega)) zle⟩
end Go.Proofs.YtjdpemcnlejpfaaGreatDoor
namespace Go.Proofs.YtjdpemcnlejpfaaGreatDoor
open Go.RowKit Go.Gx Go.Am Tryz
theorem QvQ(m i:Nat):co (List.replicate m (0:Int)) i=0:=by simp [co,List.getD,List.getElem?_replicate];split<;>rfl
set_option maxHeartbeats 4000000 in
instance QxS:TK prog 138 (∀{M Mg:Nat}{F G:List Int}(_:F.length≤128)(_:G.length≤128)(_:M≤4194304)(_:Mg≤1048576)(_:ldP G≠0),AC prog 138 [] [pv M F,pv Mg G] fun K=> ∀Q R:List Int,(∀x:Rat,evQ F x*((ldP G:Int):Rat)^ ((Xa F).length -((Xa G).length -1))=evQ Q x*evQ G x+evQ R x)→R.length+1≤(Xa G).length→Xa R=R→Q.length≤F.length→R.length≤F.length→K [] [pc (M+F.length*(F.length*(Mg+1))) Q,pc (M+F.length*(F.length*(Mg+1))) R,I .i64 0]):=⟨fun {M Mg F G} hF hG hM hMg hg0=>by
  refine aEnter func138 rfl ntmps138 rfl fun K C hC hK=> ?_
  obtain⟨d,hd⟩:=Qa5 hg0
  have⟨hdL,hdz,_⟩:=Zj hd
  have hF1:=Xe F
  have hG1:=Xe G
  have own:=QaG (M:=M) (l:=F) (by omega) (by omega)
  have hdeg:AC prog 19 [] [pv Mg G] fun K=>K [] [N d]:=by
    have :=c19.k (M:=Mg) (l:=G) (by omega)
    rw[show((Xa G).length:Int) -1=(d:Int) by omega] at this
    exact this
  repeat(refine zS ?_;intros)
  refine zB ?_ ?_<;>intro h0
  · repeat(refine zS ?_;intros)
    refine AX.ent (entFzS hC (s:=5) (by exact rfl) 0 (by exact rfl) (by rw[List.length_map]) (a:=pc M (Xa F)) (le_refl _)) ?_
    have e0:(Xa F).length -((Xa G).length -1)=0:=by omega
    exact aRet3 rfl zv zv zv (hK [] (Xa F) (fun x=>by rw[e0,Zt];simp [evQ];grind) (by omega) (Xs ZM F) (by simp) hF1) le_p0 (le_pcc (by omega)) zle
  repeat(refine zS ?_;intros)
  rename_i gR g8 gQ
  obtain⟨n,hn⟩: ∃n,(Xa F).length=n:=⟨_,rfl⟩
  have hE: ∀s,s≤F.length→s*(F.length*(Mg+1))≤F.length*(F.length*(Mg+1)):=fun s h=>Nat.mul_le_mul_right _ h
  have hE2:F.length*(F.length*(Mg+1))≤128*(128*1048577):=Nat.mul_le_mul hF (Nat.mul_le_mul hF (by omega))
  have hE3: ∀s,s≤F.length→s*(Mg+1)≤F.length*(Mg+1):=fun s h=>Nat.mul_le_mul_right _ h
  refine aL3 [1,4,7,8] (fun(t:Nat) _ _=>[(5,lsl 2 gR 0 t (Xa F).length),(9,I .i64 ((t:Int) -1))]) (fun t LR LQ=>[.arr 25 2 (LQ.map (it (M+((Xa F).length -t)*(F.length*(Mg+1))))),.arr 25 1 (itl Mg (ldP G)),.arr 25 2 (LR.map (it (M+((Xa F).length -t)*(F.length*(Mg+1)))))]) (fun t LR LQ=>d≤t∧t≤(Xa F).length∧LR.length=(Xa F).length∧LQ.length=(Xa F).length -d∧(∀i,i<t -d→co LQ i=0)∧ ∀x:Rat,evQ F x*((ldP G:Int):Rat)^ ((Xa F).length -t)=evQ LQ x*evQ G x+evQ (LR.take t) x) (fun t _ _=>t) (Xa F).length (Xa F) (List.replicate ((Xa F).length -d) 0) ⟨by omega,by omega,rfl,by simp,fun i _=>QvQ _ i,fun x=>by rw[Nat.sub_self,Qnm,List.take_length,Zt];simp;grind⟩ (entL (.cons zle (.cons zle .nil)) zk (.cons (ob_it rfl (by omega)) (.cons (ob_refl _) (.cons (ob_it rfl (by omega)) (HLe.none _))))) fun t LR LQ ⟨hdt,htn,hLR,hLQ,hq0,hI⟩=> ?_
  repeat(refine zS ?_;intros)
  refine zB ?_ ?_<;>intro h
  · obtain⟨low,rfl⟩: ∃low,t=low+d+1:=⟨t -1 -d,by omega⟩
    refine AW.ent (entSub (s:=9) (a:=N (low+d)) leI) ?_
    have hb1:=hE ((Xa F).length -(low+d+1)) (by omega)
    have hb2:((Xa F).length -(low+d+1))*(F.length*(Mg+1))+F.length*(Mg+1)=((Xa F).length -(low+d))*(F.length*(Mg+1)):=by rw[←Nat.succ_mul];congr 1;omega
    obtain⟨f,hf⟩: ∃f,LR.getD (low+d) 0=f:=⟨_,rfl⟩
    obtain⟨B,hB⟩: ∃B,(M+((Xa F).length -(low+d+1))*(F.length*(Mg+1)))=B:=⟨_,rfl⟩
    rw[hB]
    repeat(refine zS ?_;intros)
    rw[Nat.add_sub_cancel,hf]
    refine aL2 [1,4,5,7,8,9,10,11] (fun j _=>[(12,N j)]) (fun j L1=>[.arr 25 1 (itl B f),.arr 25 2 (L1.map (it (B+(j -(low+1))*Mg))),.arr 25 1 (itl Mg (ldP G)),.arr 25 2 (LR.map (it B))]) (fun j L1=>low+1≤j∧j≤(Xa F).length -d∧L1.length=(Xa F).length -d∧ ∀i,co L1 i=if i<j then co LQ i*ldP G else co LQ i) (fun j _=>(Xa F).length -d -j) (low+1) LQ ⟨by omega,by omega,hLQ,Ql3 fun i hi=>hq0 i (by omega)⟩ (entL (.cons zle .nil) zk (.cons (ob_refl _) (.cons (ob_it rfl (by omega)) (.cons (ob_refl _) (.cons (ob_refl _) .nil))))) fun j L1 ⟨hj1,hj2,hL1,hz1⟩=> ?_
    repeat(refine zS ?_;intros)
    refine zB ?_ ?_<;>intro h1
    · have he:(j+1 -(low+1))*Mg=(j -(low+1))*Mg+Mg:=by rw[←Nat.succ_mul];congr 1;omega
      have hm:(j -(low+1))*Mg≤128*1048576:=Nat.mul_le_mul (by omega) hMg
      repeat(refine zS ?_;intros)
      exact ag2 (j+1) (L1.set j (L1.getD j 0*ldP G)) ⟨by omega,by omega,by rw[List.length_set];exact hL1,Qn5 hz1 (by omega) rfl⟩ (entL (.cons zle .nil) zk (.cons (ob_refl _) (.cons (ob_it rfl (by omega)) (.cons (ob_refl _) (.cons (ob_refl _) .nil)))))
    have hpq:=pq2 (f:=f) hz1 (show LQ.length≤j by omega) (show low<L1.length by omega)
    have hmj:(j -(low+1))*Mg≤F.length*(Mg+1):=Nat.mul_le_mul (by omega) (by omega)
    repeat(refine zS ?_;intros)
    refine aL2 [1,4,5,7,8,9,10,11,72] (fun k _=>[(73,N k)]) (fun k L2=>[.arr 25 1 (itl B f),.arr 25 2 ((L1.set low f).map (it (B+(j -(low+1))*Mg))),.arr 25 1 (itl Mg (ldP G)),.arr 25 2 (L2.map (it (B+k*(Mg+1))))]) (fun k L2=>k≤low+d∧L2.length=(Xa F).length∧ ∀i,co L2 i=if i<k then co LR i*ldP G -f*cs G low i else co LR i) (fun k _=>low+d -k) 0 LR ⟨by omega,hLR,fun i=>by rw[if_neg (by omega)]⟩ (entL (.cons zle .nil) zk (.cons (ob_refl _) (.cons (ob_refl _) (.cons (ob_refl _) (.cons (ob_it rfl (by omega)) .nil))))) fun k L2 ⟨hk,hL2,hz2⟩=> ?_
    repeat(refine zS ?_;intros)
    refine zB ?_ ?_<;>intro h2
    · have he:(k+1)*(Mg+1)=k*(Mg+1)+(Mg+1):=Nat.succ_mul ..
      have hm:k*(Mg+1)≤128*1048577:=Nat.mul_le_mul (by omega) (by omega)
      have hlt:k<L2.length:=by omega
      repeat(refine zS ?_;intros)
      refine adO (by exact rfl) (aoStI zv zv 3 (by exact rfl) lq) zg (by kernel_rfl) zwr ?_
      repeat(refine zS ?_;intros)
      have hg2:(L2.set k (L2.getD k 0*ldP G)).getD k 0=L2.getD k 0*ldP G:=by simp [List.getD,List.getElem?_set_self hlt]
      refine zB ?_ ?_<;>intro h3
      · have hcs:cs G low k=G.getD (k -low) 0:=by unfold cs;rw[if_pos (by omega)]
        have hlt2:k<(L2.set k (L2.getD k 0*ldP G)).length:=by rw[List.length_set];exact hlt
        have hst:=Qk4 (v:=L2.getD k 0*ldP G -f*G.getD (k -low) 0) hz2 hlt (by rw[hcs])
        repeat(refine zS ?_;intros)
        refine adO (by exact rfl) (aoStI zv zv 3 (by exact rfl) lq) zg (by kernel_rfl) zwr ?_
        repeat(refine zS ?_;intros)
        exact ag2 (k+1) (L2.set k (L2.getD k 0*ldP G -f*G.getD (k -low) 0)) ⟨by omega,by rw[List.length_set];exact hL2,hst⟩ (entL (.cons zle .nil) zk (.cons (ob_refl _) (.cons (ob_refl _) (.cons (ob_refl _) (.cons (ob_it (by rw[List.set_set,hg2]) (by omega)) .nil)))))
      · have hcs:cs G low k=0:=by unfold cs;rw[if_neg (by omega)]
        have hst:=Qk4 (v:=L2.getD k 0*ldP G) hz2 hlt (by rw[hcs,Int.mul_zero,Int.sub_zero])
        repeat(refine zS ?_;intros)
        exact ag2 (k+1) (L2.set k (L2.getD k 0*ldP G)) ⟨by omega,by rw[List.length_set];exact hL2,hst⟩ (entL (.cons zle .nil) zk (.cons (ob_refl _) (.cons (ob_refl _) (.cons (ob_refl _) (.cons (ob_it rfl (by omega)) .nil)))))
    · obtain rfl:k=low+d:=by omega
      repeat(refine zS ?_;intros)
      have hkm:(low+d)*(Mg+1)≤F.length*(Mg+1):=hE3 _ (by omega)
      have hps:=QjM (t:=low+d+1) hI (hq0 low (by omega)) hpq (R1:=L2) (fun i hi=>by rw[hz2 i,if_pos (by omega)]) (by rw[show low+d+1 -1=low+d by omega];exact hf.symm) hdL hdz rfl
      rw[show(Xa F).length -(low+d+1)+1=(Xa F).length -(low+d) by omega,show low+d+1 -1=low+d by omega] at hps
      exact ag3 (low+d) L2 (L1.set low f) ⟨by omega,by omega,hL2,by rw[List.length_set];exact hL1,fun i hi=>by rw[hpq i,if_neg (by omega),hq0 i (by omega),Int.zero_mul],hps⟩ (entL (.cons zle (.cons zle .nil)) zk (.drop (.cons (ob_it rfl (by omega)) (.cons (ob_refl _) (.cons (ob_it rfl (by omega)) .nil)))))
  · obtain rfl:t=d:=by omega
    have htk:(LR.take t).length=t:=by rw[List.length_take];omega
    have hb3:=hE ((Xa F).length -t) (by omega)
    repeat(refine zS ?_;intros)
    refine AL.ent (entFzS hC (s:=105) (by exact rfl) 0 (by exact rfl) (by rw[List.length_map];exact hLQ) (a:=pc (M+((Xa F).length -t)*(F.length*(Mg+1))) LQ) (le_refl _)) ?_
    repeat(refine zS ?_;intros)
    refine AL.ent (entFz hC (s:=107) (by exact rfl) 1 (by exact rfl) (by rw[List.length_map];omega)) ?_
    refine AL.ent (entSub (s:=107) (a:=pc (M+((Xa F).length -t)*(F.length*(Mg+1))) (LR.take t)) (by rw[List.drop_zero,←List.map_take];exact le_refl _)) ?_
    repeat(refine zS ?_;intros)
    have hz1:=Xe LQ
    have hz2:=Xe (LR.take t)
    exact aRet3 rfl zv zv zv (hK (Xa LQ) (Xa (LR.take t)) (fun x=>by rw[Zt,Zt,show(Xa F).length -((Xa G).length -1)=(Xa F).length -t by omega];exact hI x) (by omega) (Xs ZM _) (by omega) (by omega)) (le_pcc (by omega)) (le_pcc (by omega)) zle⟩
end Go.Proofs.YtjdpemcnlejpfaaGreatDoor
namespace Go.Proofs.YtjdpemcnlejpfaaGreatDoor
open Go.RowKit Go.Gx Go.Am Tryz
theorem QbI(l:List Int):P l=0↔(Xa l).length=0:=by rw[←Yj l];exact Ya.symm
theorem Qmb{F G Q R:List Int}{n:Nat}(hg:ldP G≠0)(h: ∀x:Rat,evQ F x*((ldP G:Int):Rat)^n=evQ Q x*evQ G x+evQ R x)(hR:R.length+1≤(Xa G).length)(hT:Xa R=R):R.length=0↔P G∣P F:=by
  have hk:((ldP G:Int):Rat)^n≠0:=Qiw (XC hg) n
  have e:K (((ldP G:Int):Rat)^n)*P F=P Q*P G+P R:=QP.eq fun x=>by simp only[Zy,Xq,v_K,v_P];rw[←h x];grind
  constructor
  · intro h0
    have hz:P R=0:=(QbI R).2 (by rw[hT];exact h0)
    refine⟨K ((((ldP G:Int):Rat)^n)⁻¹)*P Q,QP.eq fun x=> ?_⟩
    have hx:=qat e x
    have hr:=qat hz x
    simp only[Zy,Xq,v_K,v_P,v_0] at hx hr⊢
    grind
  · rintro⟨q,hq⟩
    have hd:P G∣P R:=⟨K (((ldP G:Int):Rat)^n)*q -P Q,QP.eq fun x=>by
      have hx:=qat e x
      have hr:=qat hq x
      simp only[Zy,Qcs,Xq,v_K,v_P] at hx hr⊢
      grind⟩
    have :=Qe5 hd (by rw[Yj,Yj,hT];omega)
    rw[QbI,hT] at this
    exact this
set_option maxHeartbeats 4000000 in
instance c99:TK prog 99 (∀{M Mg:Nat}{F G:List Int}(_:F.length≤128)(_:G.length≤128)(_:M≤4194304)(_:Mg≤1048576),AC prog 99 [] [pv Mg G,pv M F] fun K=> ∀b:Bool,(b=true↔P G∣P F)→K [] [Bo b]):=⟨fun {M Mg F G} hF hG hM hMg=>by
  refine aEnter func99 rfl ntmps99 rfl fun K C hC hK=> ?_
  have hF1:=Xe F
  have hG1:=Xe G
  repeat(refine zS ?_;intros)
  refine zB ?_ ?_<;>intro h
  · repeat(refine zS ?_;intros)
    have hz:P G=0:=(QbI G).2 (by omega)
    exact aRet1 rfl zv (hK _ (by
      rw[hz,decide_eq_true_iff]
      constructor
      · intro h1
        exact⟨0,by rw[(QbI F).2 (by omega)];exact QP.eq fun x=>by simp only[Xq,v_0];grind⟩
      · rintro⟨q,hq⟩
        have h0:P F=0:=by rw[hq];exact QP.eq fun x=>by simp only[Xq,v_0];grind
        have :=(QbI F).1 h0
        omega)) (le_refl _)
  · have hg0:ldP G≠0:=fun e=>by rw[QjC e] at h;simp at h
    repeat(refine zS ?_;intros)
    rename_i Q R hx hl ht hq hr _
    exact aRet1 rfl zv (hK _ (by
      rw[decide_eq_true_iff,←Qmb hg0 hx hl ht]
      exact⟨fun h=>by omega,fun h=>by omega⟩)) (le_refl _)⟩
end Go.Proofs.YtjdpemcnlejpfaaGreatDoor
namespace Go.Proofs.YtjdpemcnlejpfaaGreatDoor
open Go.RowKit Go.Gx Go.Am Tryz
theorem Qfq(z:Int)(n:Nat):(Xa (Zk [z] n)).length≤1:=by
  refine Nat.le_of_not_lt fun h=> ?_
  have :=(XA (Zk [z] n)).2
  rw[QgS,if_neg (by omega)] at this
  omega
instance Qys:TK prog 206 (∀{M n:Nat}{z:Int}(_:2*(n*M)+4*(n*n*2)+3≤10995116)(_:n≤1099511)(_:M≤1099511),AC prog 206 [] [iv M z,N n] fun K=>K [] [it (n*M+n*n*2+3) (z^n)]):=⟨fun {M n z} h hn hM=>by
  refine aEnter func206 rfl ntmps206 rfl fun K C hC hK=> ?_
  have hL:(Xa [z]).length≤0+1:=Xe _
  have h1:=Qfq z n
  have hl1:[z].length≤1099511:=by simp
  have e:ldP (Xa (Zk [z] n))=z^n:=QjA rfl
  repeat(refine zS ?_;intros)
  rw[e]
  exact aRZ (rs:=[_]) rfl hK⟩
end Go.Proofs.YtjdpemcnlejpfaaGreatDoor
namespace Go.Proofs.YtjdpemcnlejpfaaGreatDoor
open Go.RowKit Go.Gx Go.Am Tryz
theorem Qvp{M M':Nat}{z:Int}(h:z.natAbs<BS^M'):(it M z).le (it M' z):=le_agg (.cons (le_refl _) (.cons (cn_lt h) .nil))
theorem QcI{M M':Nat}{l:List Int}(h: ∀i,(co l i).natAbs<BS^M'):(pc M l).le (pc M' l):=le_sl (Les.map l fun x hx=>by
  obtain⟨i,hi,e⟩:=List.getElem_of_mem hx
  have :=h i
  rw[show co l i=x by rw[←e];simp [co,List.getD,List.getElem?_eq_getElem hi]] at this
  exact Qvp this) (els_map (fun _=>it_el) l)
theorem Qpf{l:List Int}(h:(Xa l).length=l.length):Xa l=l:=by
  have :=QdZ ZM l
  change Xa l=l.take (Xa l).length at this
  rw[h,List.take_length] at this
  exact this
def rZ:Nat:=68035
set_option exponentiation.threshold 100000 in
theorem Qr5:(34*BS^2000)^34<BS^rZ:=by
  have h1:34*BS^2000≤BS^2001:=by rw[Nat.pow_succ,Nat.mul_comm];exact Nat.mul_le_mul_left _ (by decide)
  refine Nat.lt_of_le_of_lt (Nat.pow_le_pow_left h1 34) ?_
  rw[←Nat.pow_mul]
  exact Nat.pow_lt_pow_right (by decide) (by decide)
set_option exponentiation.threshold 100000 in
theorem QmL{l:List Int}{M:Nat}(h: ∀i,(co l i).natAbs<BS^M)(hM:M≤2000)(i:Nat):(co l i).natAbs≤BS^2000:=Nat.le_trans (Nat.le_of_lt (h i)) (Nat.pow_le_pow_right (by decide) hM)
set_option exponentiation.threshold 100000 in
theorem QoJ{a0 b0 a b q R r:List Int}{l s D:Int}(h:QcU a0 b0 a b l s D)(p:Psd a b q R)(hr:r=(Xa R).map fun x=>x.tdiv D)(ha: ∀i,(co a0 i).natAbs≤BS^2000)(hb: ∀i,(co b0 i).natAbs≤BS^2000)(hN:(Xa a0).length+(Xa b0).length≤34)(h0:(Xa b).length≤(Xa b0).length)(h00:(Xa b0).length≤(Xa a0).length)(j:Nat):(co r j).natAbs<BS^rZ:=
  Nat.lt_of_le_of_lt (h.size p hr ha hb (Qo4 2000) hN h0 h00 j) Qr5
set_option exponentiation.threshold 100000 in
theorem Qmd{a0 b0 a b:List Int}{l s D s':Int}(h:QcU a0 b0 a b l s D)(hlt:(Xa b).length<(Xa a).length)(hs:s'=((-ldP b)^ ((Xa a).length -(Xa b).length)).tdiv (s^ ((Xa a).length -(Xa b).length -1)))(ha: ∀i,(co a0 i).natAbs≤BS^2000)(hb: ∀i,(co b0 i).natAbs≤BS^2000)(hN:(Xa a0).length+(Xa b0).length≤34)(h0:(Xa b).length≤(Xa b0).length)(h00:(Xa b).length<(Xa a0).length)(h01:1≤(Xa b0).length):s'.natAbs<BS^rZ:=
  Nat.lt_of_le_of_lt (h.sizeS hlt hs ha hb (Qo4 2000) hN h0 h00 h01) Qr5
set_option exponentiation.threshold 100000 in
set_option maxHeartbeats 4000000 in
theorem QnF{lp:Nat}{w1:World}{S1:Nat→Prop}{M:Nat}{F G:List Int}(c0:Code)(LO:Option Code→List Int→Hp)(hM:M≤2000)(hF:F.length≤17)(hG:G.length≤17)(hle:(Xa G).length≤(Xa F).length)(hg1:1≤(Xa G).length)(cF: ∀i,(co F i).natAbs<BS^M)(cG: ∀i,(co G i).natAbs<BS^M)
    (hY: ∀s l,1≤l.length→l.length≤17→Xa l=l→YC prog lp w1 S1 (LO none s) [pc rZ l] fun K=>(l.length≠1→K (LO none l) [Bo true])∧(l.length=1→K (LO (some c0) l) [Bo false]))(s0:List Int):
    AC prog 205 (LO none s0) [yv lp w1 S1,ep (pv M F),ep (pv M G)] (fun K=> ∀l j,(j=none∨j=some c0)→Qcv (P F) (P G) (P l)→P l≠0→l.length≤17→K (LO j l) []):=by
  refine aEnterF func205 rfl ntmps205 rfl fun K C hC hK=> ?_
  have hrZ:rZ=68035:=rfl
  obtain⟨A,hA⟩: ∃A,Xa F=A:=⟨_,rfl⟩
  obtain⟨B,hB⟩: ∃B,Xa G=B:=⟨_,rfl⟩
  have hA1:A.length≤17:=by rw[←hA];exact Nat.le_trans (Xe F) hF
  have hB1:B.length≤17:=by rw[←hB];exact Nat.le_trans (Xe G) hG
  have⟨tA1,tA2,pA⟩:=QiX hA.symm
  have⟨tB1,tB2,pB⟩:=QiX hB.symm
  have tA:Xa A=A:=by rw[←hA,XV]
  have tB:Xa B=B:=by rw[←hB,XV]
  have cA: ∀i,(co A i).natAbs≤BS^2000:=fun i=>by rw[←hA,Xo];exact QmL cF hM i
  have cB: ∀i,(co B i).natAbs≤BS^2000:=fun i=>by rw[←hB,Xo];exact QmL cG hM i
  rw[hA] at hle
  rw[hB] at hle hg1
  repeat(refine zS ?_;intros)
  rw[hA,hB]
  refine alYield zv (R:=[]) rfl (hY s0 A (by omega) hA1 tA) zas rfl zg ⟨fun h1=> ?_,fun h1=> ?_⟩
  · repeat(refine zS ?_;intros)
    refine alYield zv (R:=[]) rfl (hY A B (by omega) hB1 tB) zas rfl zg ⟨fun h2=> ?_,fun h2=> ?_⟩
    · obtain⟨e0,he0⟩: ∃e,A.length -B.length=e:=⟨_,rfl⟩
      have hq0:(e0+1)*(e0+1)≤17*17:=Nat.mul_le_mul (by omega) (by omega)
      repeat(refine zS ?_;intros)
      rw[he0]
      repeat(refine zS ?_;intros)
      rename_i g7 g8
      refine aLoop [0,7,8] (fun x:List Int×List Int×Int×Int=>[(4,pc rZ x.1),(5,pc rZ x.2.1),(6,N (x.1.length -x.2.1.length))]) (fun x=>[(some g8,.arr 25 1 (itl 5000000 x.2.2.2)),(some g7,.arr 25 1 (itl rZ x.2.2.1))]++LO none x.2.1) (fun x=>Xa x.1=x.1∧Xa x.2.1=x.2.1∧2≤x.2.1.length∧x.2.1.length≤x.1.length∧x.1.length≤A.length∧x.2.1.length≤B.length∧ ∃lz,QcU A B x.1 x.2.1 lz x.2.2.1 x.2.2.2) (fun x=>x.2.1.length) (A,B,-1,(-1)^ (e0+1)) ⟨tA,tB,by show 2≤B.length;omega,hle,Nat.le_refl _,Nat.le_refl _,1,QcU.start (by omega) (by omega) (by rw[tA1,tB1,he0])⟩ (entL (.cons zle (.cons zle (.cons (leI (by show((e0:Nat):Int)=((A.length -B.length:Nat):Int);omega)) .nil))) zk (by refine HLe.cons ?_ (HLe.cons ?_ (HLe.refl _));exact ob_i rfl (by omega);exact ob_i rfl (by omega))) fun⟨X,Y,s,D⟩ ⟨tX,tY,hY2,hXY,hXA,hYB,lz,hR⟩=> ?_
      dsimp only at tX tY hY2 hXY hXA hYB hR⊢
      have hg0:=hR.ldb.2
      have hD0:=hR.D0
      have hs0:=hR.sub.s0
      have hps:X.length*(X.length*(rZ+1))≤17*(17*68036):=Nat.mul_le_mul (by omega) (Nat.mul_le_mul (by omega) (by omega))
      have tX1:(Xa X).length=X.length:=by rw[tX]
      have tY1:(Xa Y).length=Y.length:=by rw[tY]
      repeat(refine zS ?_;intros)
      rename_i Q R hx hl ht hq hr hz9
      have psd:Psd X Y Q R:=⟨hx,hl,ht⟩
      repeat(refine zS ?_;intros)
      refine zB ?_ ?_<;>intro h3
      · have hd:=Qev pA pB (hR.done psd (by omega))
        repeat(refine zS ?_;intros)
        exact aRet (rs:=[]) rfl rfl (by exact List.sublist_append_right [_,_] _) zr (hK Y none (.inl rfl) hd (QaA (by omega)) (by omega))
      · obtain⟨r,hr9⟩: ∃r,(Xa R).map (fun x=>x.tdiv D)=r:=⟨_,rfl⟩
        have⟨q1',q2',q3',q4'⟩:=hR.quo psd hr9.symm
        have hsm:=QoJ hR psd hr9.symm cA cB (by omega) (by omega) (by omega)
        have tr:Xa r=r:=Qpf (by omega)
        repeat(refine zS ?_;intros)
        rw[hr9]
        repeat(refine zS ?_;intros)
        refine AL.ent (entSub (s:=10) (a:=pc rZ r) (QcI hsm)) ?_
        refine AL.ent (entSub (s:=51) (a:=pc rZ r) (QcI hsm)) ?_
        refine alYield zv (R:=[_,_]) rfl (hY Y r (by omega) (by omega) tr) zas rfl zg ⟨fun h4=> ?_,fun h4=> ?_⟩
        · repeat(refine zS ?_;intros)
          rename_i g12
          obtain⟨e,he⟩: ∃e,X.length -Y.length=e:=⟨_,rfl⟩
          rw[he]
          have hq5:e*e≤15*15:=Nat.mul_le_mul (by omega) (by omega)
          have hq6:e*rZ≤15*68035:=Nat.mul_le_mul (by omega) (by omega)
          have hq7:(e -1)*(e -1)≤17*17:=Nat.mul_le_mul (by omega) (by omega)
          have hq8:(e -1)*rZ≤17*68035:=Nat.mul_le_mul (by omega) (by omega)
          have hp0:s^ (e -1)≠0:=Int.pow_ne_zero hs0
          obtain⟨u,hu⟩: ∃u,Y.length -r.length=u:=⟨_,rfl⟩
          have hq9:u*u≤15*15:=Nat.mul_le_mul (by omega) (by omega)
          have hq10:u*rZ≤15*68035:=Nat.mul_le_mul (by omega) (by omega)
          have hq12:u*e≤64:=by
            have h9:u≤16 -e:=by omega
            have h8: ∀e,e<17→(16 -e)*e≤64:=by decide
            exact Nat.le_trans (Nat.mul_le_mul_right e h9) (h8 e (by omega))
          have hq11:u*(e*rZ+e*e*2+3)≤64*68035+17*(17*17*2+3):=by
            have h9:u*(e*rZ+e*e*2+3)=u*e*rZ+u*(e*e*2+3):=by rw[Nat.add_assoc,Nat.mul_add,←Nat.mul_assoc]
            rw[h9]
            exact Nat.add_le_add (Nat.mul_le_mul hq12 (by omega)) (Nat.mul_le_mul (by omega) (by omega))
          refine zB ?_ ?_<;>intro h5
          · obtain⟨s2,hs2⟩: ∃s2,((-ldP Y)^e).tdiv (s^ (e -1))=s2:=⟨_,rfl⟩
            repeat(refine zS ?_;intros)
            rw[hu,hs2]
            repeat(refine zS ?_;intros)
            have hs3:s2.natAbs<BS^rZ:=Qmd hR (by omega) (by rw[tX1,tY1,he,hs2]) cA cB (by omega) (by omega) (by omega) (by omega)
            have hN:=hR.next (s':=s2) (D':= -ldP Y*s2^u) psd hr9.symm (by omega) (.inr ⟨by omega,by rw[tX1,tY1,he,hs2]⟩) (by rw[tY1,tr,hu])
            exact aAgain (Y,r,s2,-ldP Y*s2^u) ⟨tY,tr,by show 2≤r.length;omega,by show r.length≤Y.length;omega,by show Y.length≤A.length;omega,by show r.length≤B.length;omega,_,hN⟩ (by show r.length<Y.length;omega) (entL (.cons zle (.cons zle (.cons (leI (by show((u:Nat):Int)=((Y.length -r.length:Nat):Int);omega)) .nil))) zk (by refine HLe.drop (HLe.cons ?_ (HLe.cons ?_ (HLe.refl _)));exact ob_i rfl (by omega);exact ob_il hs3))
          · repeat(refine zS ?_;intros)
            rw[hu]
            repeat(refine zS ?_;intros)
            have hN:=hR.next (s':=s) (D':= -ldP Y*s^u) psd hr9.symm (by omega) (.inl ⟨by omega,rfl⟩) (by rw[tY1,tr,hu])
            exact aAgain (Y,r,s,-ldP Y*s^u) ⟨tY,tr,by show 2≤r.length;omega,by show r.length≤Y.length;omega,by show Y.length≤A.length;omega,by show r.length≤B.length;omega,_,hN⟩ (by show r.length<Y.length;omega) (entL (.cons zle (.cons zle (.cons (leI (by show((u:Nat):Int)=((Y.length -r.length:Nat):Int);omega)) .nil))) zk (by refine HLe.drop (HLe.cons ?_ (HLe.cons ?_ (HLe.refl _)));exact ob_i rfl (by omega);exact ob_i rfl (by omega)))
        · have hd:=Qfg (F:=P A) (G:=P B) (l:=r) (by omega) (hR.inr psd hr9.symm)
          repeat(refine zS ?_;intros)
          exact aRet (rs:=[]) rfl rfl (by exact List.sublist_append_right [_,_] _) zr (hK r (some c0) (.inr rfl) (Qev pA pB hd) (QaA (by omega)) (by omega))
    · have hd:Qcv (P F) (P G) (P B):=Qev pA pB (Qfg (by omega) (InI.right _ _))
      repeat(refine zS ?_;intros)
      exact aRet (rs:=[]) rfl rfl (.refl _) zr (hK B (some c0) (.inr rfl) hd (QaA (by omega)) hB1)
  · have hd:Qcv (P F) (P G) (P A):=Qev pA pB (Qfg (by omega) (InI.left _ _))
    repeat(refine zS ?_;intros)
    exact aRet (rs:=[]) rfl rfl (.refl _) zr (hK A (some c0) (.inr rfl) hd (QaA (by omega)) hA1)
end Go.Proofs.YtjdpemcnlejpfaaGreatDoor
