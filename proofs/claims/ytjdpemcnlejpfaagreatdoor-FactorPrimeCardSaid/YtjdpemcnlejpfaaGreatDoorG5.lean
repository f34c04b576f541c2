/-
  G5, R25
-/
import Derived.Test.YtjdpemcnlejpfaaGreatDoorG1
import Derived.Test.YtjdpemcnlejpfaaGreatDoorPriThy
import Derived.Test.YtjdpemcnlejpfaaGreatDoorAmRow
set_option linter.all false
namespace Go.Proofs.YtjdpemcnlejpfaaGreatDoor
open Go.RowKit Go.Gx Go.Am Tryz
def NoS(F:List Int)(n:Nat):Prop:=2≤n∧ ∀m,Xk m→m<n→ ¬Qbx m F
def QBo(F:List Int)(q:Nat):Prop:=Xk q∧q<4096∧Qbx q F∧ ∀m,Xk m→m<q→ ¬Qbx m F
theorem NoS.lt{F:List Int}{n:Nat}(h:NoS F n)(he: ∃q,Xk q∧q<4096∧Qbx q F):n<4096:=by
  obtain⟨q,h1,h2,h3⟩:=he
  rcases Nat.lt_or_ge q n with hq|hq
  · exact absurd h3 (h.2 q h1 hq)
  · omega
theorem NoS.next{F:List Int}{n:Nat}(h:NoS F n)(hn:Xk n→ ¬Qbx n F):NoS F (n+1):=⟨by have :=h.1;omega,fun m hm hlt=>by
  rcases Nat.lt_or_ge m n with h1|h1
  · exact h.2 m hm h1
  · obtain rfl:m=n:=by omega
    exact hn hm⟩
set_option maxHeartbeats 2000000 in
theorem QBd{M:Nat}{F:List Int}(hM:M≤1990)(hl:F.length≤17)(hs:Qem (P F) (der (P F)))(he: ∃q,Xk q∧q<4096∧Qbx q F):AC prog 33 [] [pv M F] fun K=> ∀q,QBo F q→K [] [W32 q,I .i64 0]:=by
  refine aEnterM func33 rfl ntmps33 rfl fun K C hC hK=> ?_
  have hN:NoF C:=fun b hb=>by rw[hC] at hb;obtain⟨x,hx,_⟩:=hb;cases hx
  have hIs:AC prog 65 [] [pv M F] fun K=>K [] [Bo true]:=AC.imp (c65.k hM hl) fun K hk b hb=>by
    rw[hb.2 hs];exact hk
  repeat(refine zS ?_;intros)
  rename_i g1 g2 g3
  refine aRange (el:=W32) (E:=fun s n=>Xk n∧(s=0∧NoS F n)) (Ψ:=fun s n kk=>(∀s',(s'=0∧NoS F (n+1))→kk s' none)∧ ∀s' c,(some c=some .ret∧QBo F s')→kk s' (some c)) (Fin:=fun s j=>j=some .ret∧QBo F s) (G:=fun s=>[(some g3,.arr 56 1 [I .i64 0]),(some g2,.arr 46 1 [W32 s]),(some g1,.arr 30 1 [pv M F])]) (s0:=0) (lb:=[ep (W32 2)]) zle rfl (.cons (ob_refl _) (.cons (ob_refl _) (HLe.refl _))) ?_ (fun l w1 S1 LO hY=> ?_) ?_
  · intro lx Dn fn e1 s n hE K' C' hC' hK'
    obtain⟨hp,rfl,hI⟩:=hE
    have hnB:=hI.lt he
    have hps:PrS n:=⟨hp,hnB⟩
    repeat(refine zS ?_;intros)
    refine Qwg rfl fun RO hRO=> ?_
    repeat(refine zS ?_;intros)
    refine zB ?_ ?_<;>intro hsu
    · repeat(refine zS ?_;intros)
      exact QgJ (some .ret) rfl hRO rfl (HLe.refl _) (hK'.2 n .ret ⟨rfl,hp,hnB,hsu,hI.2⟩)
    · repeat(refine zS ?_;intros)
      exact QgJ none rfl hRO rfl (HLe.refl _) (hK'.1 0 ⟨rfl,hI.next fun _=>hsu⟩)
  · have :=QnD LO (fun n s=>s=0∧NoS F n) (fun s j=>j=some .ret∧QBo F s) (fun n s h hnp=>⟨h.1,h.2.next fun h1=>absurd h1 hnp⟩) (fun n s h=>h.2.lt he) (fun s n hE=>hY s n hE) (s0:=0) ⟨rfl,Nat.le_refl _,fun m hm hlt=>absurd hm.1 (by omega)⟩
    exact this
  · intro Dn s j hj
    obtain⟨rfl,hq⟩:=hj
    show AT _ _ _ _ _ _ _ _
    repeat(refine zS ?_;intros)
    exact aRetM (rs:=[_,_]) rfl rfl (by exact rfl) (List.nil_sublist _) (arC zv 1 (by exact rfl) (by exact rfl) (by kernel_rfl) (le_refl _) (arC zv 0 (by exact rfl) (by exact rfl) (by kernel_rfl) (le_refl _) arN)) (hK _ hq)
instance c33:TK prog 33 (∀{M:Nat}{F:List Int}(_:M≤1990)(_:F.length≤17)(_:Qem (P F) (der (P F)))(_: ∃q,Xk q∧q<4096∧Qbx q F),AC prog 33 [] [pv M F] fun K=> ∀q,Xk q→q<4096→Qbx q F→(∀m,Xk m→m<q→ ¬Qbx m F)→K [] [W32 q,I .i64 0]):=⟨fun hM hl hs he=>AC.imp (QBd hM hl hs he) fun K h q hq=>h q hq.1 hq.2.1 hq.2.2.1 hq.2.2.2⟩
theorem QAH{M:Nat}{F:List Int}(hM:M≤1990)(hl:F.length≤17)(hs: ¬Qem (P F) (der (P F))):AC prog 33 [] [pv M F] fun K=>K [] [W32 0,I .i64 5]:=by
  refine aEnterM func33 rfl ntmps33 rfl fun K C hC hK=> ?_
  have hIs:AC prog 65 [] [pv M F] fun K=>K [] [Bo false]:=AC.imp (c65.k hM hl) fun K hk b hb=>by
    have :b=false:=by cases b;rfl;exact absurd (hb.1 rfl) hs
    rw[this];exact hk
  repeat(refine zS ?_;intros)
  exact aRetM0 (rs:=[_,_]) rfl rfl (List.nil_sublist _) (arC zv 1 (by exact rfl) (by exact rfl) (by kernel_rfl) zle (arC zv 0 (by exact rfl) (by exact rfl) (by kernel_rfl) zle arN)) hK
set_option maxHeartbeats 4000000 in
instance c8:TK prog 8 (∀{D:List RawI}(_: ∀x∈D,∀d∈x.2,d<BS),AC prog 8 [] [rwp D] fun K=>K [] [Bo true]):=⟨fun {D} hD=>by
  refine aEnter func8 rfl ntmps8 rfl fun K C hC hK=> ?_
  repeat(refine zS ?_;intros)
  refine zB ?_ ?_<;>intro h1
  · repeat(refine zS ?_;intros)
    exact aRet1 rfl zv hK (le_refl _)
  have f1:Qjs D:=Classical.byContradiction h1
  have⟨l1,l2⟩:=QcF f1
  have n1:=Qfe f1 hD
  have r1:=Qia f1 hD
  clear h1 f1 hD
  generalize D.map dvI=F at l1 l2 n1 r1
  refine AW.ent (entSub (s:=0) (a:=pv 3 F) r1) ?_
  by_cases hq:Qem (P F) (der (P F))
  · have hsq:AC prog 29 [] [pv 3 F] fun K=>K [] [Bo true]:=AC.imp (c29.k (by omega) (by omega)) fun K hk b hb=>by
      rw[hb.2 (Qo3.1 hq)];exact hk
    have he:=QBm hq (by omega) fun i=>Nat.le_trans (QkK F i) (Nat.le_trans n1 (by decide+kernel))
    repeat(refine zS ?_;intros)
    rename_i p p1 p2 p3 p4
    have p5:=p1.1
    have hIP:AC prog 34 [] [W32 p] fun K=>K [] [Bo true]:=AC.imp (c34.k (n:=p) (by omega)) fun K hk b hb=>by
      rw[hb.2 p1];exact hk
    clear he hsq hq
    repeat(refine zS ?_;intros)
    refine aL1 [0,3] (fun q=>[(5,W32 q)]) (fun _=>[]) (fun q=>2≤q∧q≤p+1) (fun q=>p+1 -q) 2 ⟨Nat.le_refl _,by omega⟩ (entL (.cons zle .nil) zk (HLe.none _)) fun q ⟨hq2,hqp⟩=> ?_
    repeat(refine zS ?_;intros)
    refine zB ?_ ?_<;>intro h2
    · clear hIP
      repeat(refine zS ?_;intros)
      rename_i b hb
      cases b
      · rw[show(!false)=true from rfl]
        repeat(refine zS ?_;intros)
        exact ag1 (q+1) ⟨by omega,by omega⟩ (entL (.cons zle .nil) zk (HLe.none _))
      have hqP:=hb.1 rfl
      have hqS:PrS q:=⟨hqP,by omega⟩
      have hq1:1<q:=by omega
      have hrl:(XR q F).length≤1000:=by have :=QeC (p:=q) (by omega) F;have :=Xe F;omega
      have hnr:XO q (XR q F)=XR q F:=(XK (by omega) F).nrm
      have hSq: ∀b0,b0=decide ((XN q (XR q F) (XR q (Xn (Gx.zl (XR q F))))).length=1)→AC prog 35 [] [raw (XR q F),W32 q] fun K=>K [] [Bo b0,I .i64 0]:=fun b0 e=>by
        have z:AC prog 35 [] [raw (XR q F),W32 q] fun K=>K [] [Bo (decide ((XN q (XO q (XR q F)) (XR q (Xn (Gx.zl (XO q (XR q F)))))).length=1)),I .i64 0]:=c35.k hqS (by omega)
        rw[hnr,←e] at z;exact z
      rw[show(!true)=false from rfl]
      by_cases hg:(XN q (XR q F) (XR q (Xn (Gx.zl (XR q F))))).length=1
      · have hS1:=hSq true (decide_eq_true hg).symm
        have hmd:q=p∧md q (ldP F)≠0∨q<p∧md q (ldP F)=0:=by
          rcases Nat.lt_or_ge q p with h|h
          · exact .inr ⟨h,Classical.not_not.1 fun h9=>p4 q hqP h ⟨h9,hg⟩⟩
          · obtain rfl:q=p:=by omega
            exact .inl ⟨rfl,p3.1⟩
        clear hSq hg p3 p4 hb hnr
        rcases hmd with⟨m1,m2⟩| ⟨m1,m2⟩
        · repeat(refine zS ?_;intros)
          exact ag1 (q+1) ⟨by omega,by omega⟩ (entL (.cons zle .nil) zk (HLe.none _))
        · repeat(refine zS ?_;intros)
          exact ag1 (q+1) ⟨by omega,by omega⟩ (entL (.cons zle .nil) zk (HLe.none _))
      · have hS1:=hSq false (decide_eq_false hg).symm
        have hne:q<p:=by
          rcases Nat.lt_or_ge q p with h|h
          · exact h
          · obtain rfl:q=p:=by omega
            exact absurd p3.2 hg
        clear hSq hg p3 p4 hb hnr
        repeat(refine zS ?_;intros)
        exact ag1 (q+1) ⟨by omega,by omega⟩ (entL (.cons zle .nil) zk (HLe.none _))
    · repeat(refine zS ?_;intros)
      exact aRet1 rfl zv hK (le_refl _)
  · have hsq:AC prog 29 [] [pv 3 F] fun K=>K [] [Bo false]:=AC.imp (c29.k (by omega) (by omega)) fun K hk b hb=>by
      have :b=false:=by cases b;rfl;exact absurd (Qo3.2 (hb.1 rfl)) hq
      rw[this];exact hk
    have hpr:=QAH (M:=3) (F:=F) (by decide) (by omega) hq
    repeat(refine zS ?_;intros)
    exact aRet1 rfl zv hK (le_refl _)⟩
end Go.Proofs.YtjdpemcnlejpfaaGreatDoor
namespace Go.Proofs.YtjdpemcnlejpfaaGreatDoor
open Go.RowKit Go.Gx Go.Am Tryz
theorem QA0{W:World}{S:Nat→Prop}{A:Option Addr}{n c M:Nat}{l:List RI}(h0:Yk W S A n c l M)(ht:Qi4 W):Calls Tryz.prog 8 #[.slice A n c] W (Ret fun v w'=> ∃g:Bool,v= .bool g∧Ext W w'∧g=true):=
  am_row (vs:=[.slice A n c]) (c8.k (poly_dig h0)) ⟨poly_rep h0,trivial⟩ (tab_rep ht) ⟨rfl,rfl⟩
end Go.Proofs.YtjdpemcnlejpfaaGreatDoor
