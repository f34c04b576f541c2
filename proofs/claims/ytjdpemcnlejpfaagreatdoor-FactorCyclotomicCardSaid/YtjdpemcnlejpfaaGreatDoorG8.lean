/-
  G8, R27
-/
import Derived.Test.YtjdpemcnlejpfaaGreatDoorF14
import Derived.Test.YtjdpemcnlejpfaaGreatDoorCycThy
import Derived.Test.YtjdpemcnlejpfaaGreatDoorAmRow2
set_option linter.all false
namespace Go.Proofs.YtjdpemcnlejpfaaGreatDoor
open Go.RowKit Go.Gx Go.Am Tryz
theorem QDk{k M:Nat}{g:List Int}(h1:1≤k)(h2:k≤16)(hM:M≤64)(h:DvX k g):FcF g M where
  M:=hM
  len:=by have :=h.len h1 h2;omega
  m:=⟨434,by
    rw[h.prim]
    intro a b e i
    have :=Nat.le_trans (QkK a i) (h.nrm_le h1 h2 e)
    rw[h.ld h1 h2,Int.one_mul]
    omega,by decide+kernel⟩
  sp:=fun _ a ha hd hs=>by
    have h':=h.sub ha hd
    have :=h'.len h1 h2
    exact⟨ha,hs,by omega,fun _=>h'.five h1 h2,h'.hb h1 h2,h'.b5 h1 h2⟩
def prK(k:Nat):Nat→List Int
  |0=>[1]
  |d+1=>if k % (d+1)=0 then Xa (Xg (prK k d) (cy (d+1))) else prK k d
theorem QDt: ∀k,k<17→1≤k→prK k k=xk k∧ ∀d,d<k+1→nrm (prK k d)≤1000∧(prK k d).length≤17:=by decide+kernel
theorem QDs: ∀d,d<16→((Xa (cy (d+1))).length:Int) -1=(Qtu (d+1) (d+1+1):Nat)∧Qtu (d+1) (d+1+1)≤16∧nrm (cy (d+1))≤1000:=by decide+kernel
theorem QDD: ∀d,d<17→(Xa (Zk [0,1] d)).length≤1000:=by decide+kernel
theorem QDC(d:Nat)(h:d<17):(Xa (Zk [0,1] d)).length≤1000:=QDD d h
theorem QCX{m:Nat}{l:List Int}(h:nrm l≤1000):(pc m l).le (pc 1 l):=QcI fun i=>Nat.lt_of_le_of_lt (Nat.le_trans (QkK l i) h) (by decide+kernel)
theorem QC7{k:Nat}(h1:1≤k)(h2:k≤16):nrm (xk k)≤1000:=Nat.le_trans (QDn h1 h2 (b:=[1]) (by rw[Qcw,QaE])) (by decide)
set_option maxHeartbeats 8000000 in
instance c11:TK prog 11 (∀{n:Nat}{z:Int}(_:n<256),AC prog 11 [] [I .u8 (n:Int),I .i64 z] fun K=>K [] [Bo true]):=⟨fun {n z} hn=>by
  refine aEnter func11 rfl ntmps11 rfl fun K C hC hK=> ?_
  iterate 16 (refine zS ?_;intros)
  refine aJ1 [0] (fun(_:Unit)=>[]) (fun _=>[]) (fun _=>True) ?_ ?_
  · rcases(by omega:z<1∨1000<z∨1≤z∧z≤1000) with hz|hz|hz
    all_goals first | have hR:=QC1 (.inl hz)| have hR:=QC1 (.inr hz)| (have hR:=QDa hz.1 hz.2;have hz1:=hz.1;have hz2:=hz.2)
    all_goals repeat(refine zS ?_;intros)
    all_goals try(refine zB (fun h0=> ?_) fun _=> ?_;exact absurd rfl h0)
    all_goals repeat(refine zS ?_;intros)
    all_goals exact jd1 () trivial (entL .nil zk (HLe.none _))
  intro _ _
  repeat(refine zS ?_;intros)
  have o1:AC prog 16 [] [sl 1 [I .i64 1]] fun K=>K [] [pc 2 [1]]:=c16.k (l:=[1]) (by decide) (by decide)
  repeat(refine zS ?_;intros)
  obtain⟨k,hk⟩: ∃k:Nat,(1:Int)+((n % 16:Nat):Int)=(k:Int):=⟨1+n % 16,by omega⟩
  have h1:1≤k:=by omega
  have h2:k≤16:=by omega
  rw[hk]
  clear hk hn
  have⟨hp,ht⟩:=QDt k (by omega) h1
  refine aL1 [7] (fun d=>[(8,pc 1 (prK k d)),(9,N (d+1))]) (fun _=>[]) (fun d=>d≤k) (fun d=>k -d) 0 (Nat.zero_le _) (entL (.cons (by exact QCX (m:=2) (l:=[1]) (by decide)) (.cons (leI (by simp)) .nil)) zk (HLe.none _)) fun d hd=> ?_
  repeat(refine zS ?_;intros)
  refine zB ?_ ?_<;>intro h3
  · by_cases h4:k % (d+1)=0
    · have hcy:AC prog 42 [] [N (d+1)] fun K=>K [] [pc 1 (cy (d+1)),I .i64 0]:=c42.k (by omega) (by omega)
      have hN:=QCP (d+1) (by omega) (by omega)
      have⟨y1,y2,y3⟩:=QDs d (by omega)
      have hpr:prK k (d+1)=Xa (Xg (prK k d) (cy (d+1))):=if_pos h4
      have⟨t1,_⟩:=ht (d+1) (by omega)
      have⟨_,t2⟩:=ht d (by omega)
      have hcl:(cy (d+1)).length≤1048576:=by have :=hN.t;rw[this] at y1;omega
      have hNm:AC prog 44 [] [pc 1 (cy (d+1))] fun K=>K [] [Bo true]:=AC.les (AC.imp (c44.k (M:=1) (F:=cy (d+1)) (by decide) hcl) fun K hk b hb=>by
        rw[hb.2 ⟨by rw[hN.t],hN.s,hN.c⟩];exact hk) (.cons le_pcv0 .nil)
      clear ht hp o1
      generalize cy (d+1)=y at *
      repeat(refine zS ?_;intros)
      exact ag1 (d+1) (by omega) (entL (.cons (by rw[hpr];exact QCX (by rw[←hpr];exact t1)) (.cons zle .nil)) zk (HLe.none _))
    · have hpr:prK k (d+1)=prK k d:=if_neg h4
      clear ht hp o1
      repeat(refine zS ?_;intros)
      exact ag1 (d+1) (by omega) (entL (.cons (by rw[hpr];exact le_refl _) (.cons zle .nil)) zk (HLe.none _))
  obtain rfl:d=k:=by omega
  clear ht
  have hcy:AC prog 42 [] [N d] fun K=>K [] [pc 1 (cy d),I .i64 0]:=c42.k h1 h2
  have o2:AC prog 16 [] [sl 1 [I .i64 0,I .i64 1]] fun K=>K [] [pc 2 [0,1]]:=c16.k (l:=[0,1]) (by decide) (by decide)
  have hkk:d*d≤256:=Nat.mul_le_mul h2 h2
  have hPw:AC prog 40 [] [pv 2 [0,1],N d] fun K=>K [] [pc (d*2+d*d*(1+2)+3) (Xa (Zk [0,1] d))]:=c40.k (by decide) (by omega) (by omega) (by decide) (by decide)
  have xl:=(QCB d (by omega) h1).2.2.2.2.2.1
  have hpl:(Xa (Zk [0,1] d)).length≤1000:=QDC d (by omega)
  have hSb:AC prog 45 [] [pc (d*2+d*d*(1+2)+3) (Xa (Zk [0,1] d)),pc 2 [1]] fun K=>K [] [pc (max (d*2+d*d*(1+2)+3) 2+1) (xk d)]:=by
    have z:AC prog 45 [] [pv (d*2+d*d*(1+2)+3) (Xa (Zk [0,1] d)),pv 2 [1]] fun K=>K [] [pc (max (d*2+d*d*(1+2)+3) 2+1) (Xa (XD (Xa (Zk [0,1] d)) [1]))]:=c45.k (by omega) (by decide) (by omega) (by decide)
    exact AC.les z (.cons le_pcv0 (.cons le_pcv0 .nil))
  have hx1:=QC7 h1 h2
  have hF:=QDk (M:=1) h1 h2 (by decide) (DvX.xk h1 h2)
  have hX0:=(QCY h1 h2).ne
  have hFc:AC prog 20 [] [pc 1 (xk d)] fun K=> ∀fs,Qbb (xk d) fs→fs.length≤289→K [] [it 2 (Yc (xk d)),sl 2 (fs.map (fv 17))]:=AC.les (AC.imp (c20.k hF) fun K h fs hfs=>h fs (hfs.fac hX0).1 (hfs.fac hX0).2) (.cons le_pcv0 .nil)
  have hSm:AC prog 30 [] [pc 1 (prK d d),pc 1 (xk d)] fun K=>K [] [Bo true]:=by
    rw[hp]
    have z:AC prog 30 [] [pv 1 (xk d),pv 1 (xk d)] fun K=>K [] [Bo (decide (Xa (xk d)=Xa (xk d)))]:=c30.k (by omega) (by omega)
    rw[decide_eq_true rfl] at z
    exact AC.les z (.cons le_pcv0 (.cons le_pcv0 .nil))
  have hDc:=DvX.cy h1 h2 h1 (Nat.mod_self d)
  have hI:AC prog 24 [] [pc 1 (cy d)] fun K=>K [] [Bo true]:=AC.les (AC.imp (c24.k (QDk (M:=1) h1 h2 (by decide) hDc)) fun K hk b hb=>by
    rw[hb.2 (QCU d h1 h2)];exact hk) (.cons le_pcv0 .nil)
  have hcl:=hDc.len h1 h2
  have hva:=QDF h1 h2
  have hci:=QCU d h1 h2
  have hcn:=hDc.n
  clear o1 hp hF hDc hX0 hkk h3 hd
  generalize prK d d=X at hSm⊢
  generalize cy d=y at hcy hI hcl hva hci hcn
  generalize Xa (Zk [0,1] d)=w at hPw hSb hpl
  generalize d*2+d*d*(1+2)+3=m at hPw hSb
  repeat(refine zS ?_;intros)
  clear o2
  have o3:AC prog 16 [] [sl 1 [I .i64 1]] fun K=>K [] [pc 2 [1]]:=c16.k (l:=[1]) (by decide) (by decide)
  repeat(refine zS ?_;intros)
  refine AL.ent (entSub (s:=87) (a:=pc 1 (xk d)) (by exact QCX hx1)) ?_
  refine AL.ent (entSub (s:=14) (a:=pc 1 (xk d)) (by exact QCX hx1)) ?_
  repeat(refine zS ?_;intros)
  rename_i fs hfs hfl g1
  have hm:Zo fs y=1:=by rw[hfs.mult hcn hci,hva]
  have hg2: ∀x∈fs,x.1.length≤1048576:=fun x hx=>by
    have h5:=hfs.le x hx
    have h6:=Xe (xk d)
    omega
  have hg3:fs.length≤1000:=by omega
  have hyl:y.length≤1048576:=by omega
  have hMu:AC prog 21 [] [sl 2 (fs.map (fv 17)),pc 1 y] fun K=>K [] [N 1]:=by
    have z:AC prog 21 [] [sl 2 (fs.map (fv 17)),pv 1 y] fun K=>K [] [N (Zo fs y)]:=c21.k hg3 hyl hg2
    rw[hm] at z
    exact AC.les z (.cons (le_refl _) (.cons le_pcv0 .nil))
  clear hFc hPw hSb o3 hcy hfs hfl hva hci hcn hcl hx1 xl hpl h1 h2 hm hg2 hg3 hyl
  repeat(refine zS ?_;intros)
  exact aRet1 rfl zv hK (le_refl _)⟩
end Go.Proofs.YtjdpemcnlejpfaaGreatDoor
namespace Go.Proofs.YtjdpemcnlejpfaaGreatDoor
open Go.RowKit Go.Gx Go.Am Tryz
theorem QCO{W:World}{y:Nat}{z:Int}(b1:y<256)(ht:Qi4 W):Calls Tryz.prog 11 #[.int .u8 (y:Int),.int .i64 z] W (Ret fun v w'=> ∃g:Bool,v= .bool g∧Ext W w'∧g=true):=
  am_row (vs:=[.int .u8 (y:Int),.int .i64 z]) (c11.k b1) ⟨i_rep,i_rep,trivial⟩ (tab_rep ht) ⟨rfl,rfl⟩
end Go.Proofs.YtjdpemcnlejpfaaGreatDoor
