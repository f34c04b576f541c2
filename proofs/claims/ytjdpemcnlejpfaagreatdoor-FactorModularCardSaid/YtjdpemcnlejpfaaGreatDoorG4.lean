/-
  G4, R24
-/
import Derived.Test.YtjdpemcnlejpfaaGreatDoorG1
import Derived.Test.YtjdpemcnlejpfaaGreatDoorModIrr
import Derived.Test.YtjdpemcnlejpfaaGreatDoorAmRow
set_option linter.all false
namespace Go.Proofs.YtjdpemcnlejpfaaGreatDoor
open Go.RowKit Go.Gx Go.Am Tryz
set_option maxHeartbeats 1000000 in
instance c39:TK prog 39 (∀{f:List Nat}{p:Nat}(_:PrS p)(_:f.length≤1000),AC prog 39 [] [raw f,W32 p] fun K=> ∀b:Bool,(b=true→2≤(XO p f).length∧QBj p (XO p f))→K [] [Bo b,I .i64 0]):=⟨fun {f p} hp hl=>by
  refine aEnter func39 rfl ntmps39 rfl fun K C hC hK=> ?_
  have h1:=hp.two
  have h2:=hp.lt
  have hp0:0<p:=by omega
  have hpb:ZN p=true:=(ZZ h2).2 hp.1
  have hIP:AC prog 77 [] [W32 p] fun K=>K [] [Bo true]:=by
    have z:AC prog 77 [] [W32 p] fun K=>K [] [Bo (ZN p)]:=c77.k h2
    rwa [hpb] at z
  have hcn:XE p (XO p f):=by rw[Qez];exact XK hp0 _
  have hnl:(XO p f).length≤1000:=by
    have :(XO p f).length≤(f.map (· % p)).length:=QaV _ _
    rw[List.length_map] at this;omega
  have cx:XE p [0,1]:=⟨fun d hd=>by simp at hd;omega,fun _=>by simp⟩
  have bx:=QaY cx hp
  have lx:[0,1].length=2:=rfl
  repeat(refine zS ?_;intros)
  obtain⟨g,eg⟩: ∃g,XO p f=g:=⟨_,rfl⟩
  rw[eg] at hcn hnl hK⊢
  repeat(refine zS ?_;intros)
  refine zB ?_ ?_<;>intro h3
  · repeat(refine zS ?_;intros)
    exact aRet2 rfl zv zv (hK false fun h=>by cases h) (le_refl _) (le_refl _)
  have hgp:0<g.length:=by omega
  have⟨_,b2,b3,_⟩:=QvP hp cx hcn hgp
  repeat(refine zS ?_;intros)
  refine AL.ent (entSub (s:=6) (a:=raw [0,1]) (le_refl _)) ?_
  refine AL.ent (entSub (s:=18) (a:=raw [0,1]) (le_refl _)) ?_
  repeat(refine zS ?_;intros)
  refine aL2 [0,1,6,25] (fun k w=>[(7,raw w),(26,Am.N k)]) (fun _ _=>[]) (fun k w=>k≤(g.length -1)/2∧XE p w∧w.length<g.length∧EqF p (Gx.zl g) (Gx.zl w) (cj p [0,1] k)∧ ∀j,1≤j→j≤k→Cop (p:Int) (XD (cj p [0,1] j) [0,1]) (Gx.zl g)) (fun k _=>(g.length -1)/2 -k) 0 ((XH p [0,1] g).2) ⟨Nat.zero_le _,b2,b3,QdT hp0 rfl,fun j j1 j2=>by omega⟩ (entL (.cons (le_refl _) (.cons zle .nil)) zk (HLe.none _)) fun k w ⟨hk,hw,hwl,hwe,hco⟩=> ?_
  repeat(refine zS ?_;intros)
  refine zB ?_ ?_<;>intro h4
  · repeat(refine zS ?_;intros)
    rename_i r cr lr hr
    have br:=QaY cr hp
    have s1:=Qds p r [0,1]
    have cs:=QgL hp r [0,1]
    have hu:CgV (p:Int) (Gx.zl (QhQ p r [0,1])) (XD (Gx.zl r) [0,1]):=Qjg hp0 r [0,1]
    obtain⟨u,eu⟩: ∃u,QhQ p r [0,1]=u:=⟨_,rfl⟩
    rw[eu] at cs hu s1
    have v1:=Qjt hp.1 cs hcn (by omega)
    repeat(refine zS ?_;intros)
    rw[eu]
    repeat(refine zS ?_;intros)
    refine zB ?_ ?_<;>intro h5
    · repeat(refine zS ?_;intros)
      exact aRet2 rfl zv zv (hK false fun h=>by cases h) (le_refl _) (le_refl _)
    have⟨n1,n2⟩:=QAF hp.1 hcn hgp hwe hr cs hu (by omega)
    repeat(refine zS ?_;intros)
    exact ag2 (k+1) r ⟨by omega,cr,lr,n1,fun j j1 j2=>by
      rcases Nat.lt_or_ge j (k+1) with h9|h9
      · exact hco j j1 (by omega)
      · obtain rfl:j=k+1:=by omega
        exact n2⟩ (entL (.cons (le_refl _) (.cons zle .nil)) zk (HLe.none _))
  repeat(refine zS ?_;intros)
  exact aRet2 rfl zv zv (hK true fun _=>⟨by omega,fun j j1 j2=>hco j j1 (by omega)⟩) (le_refl _) (le_refl _)⟩
set_option maxHeartbeats 4000000 in
instance c9:TK prog 9 (∀{D E:List RawI}{n:Nat}(_: ∀x∈D,∀d∈x.2,d<BS) (_: ∀x∈E,∀d∈x.2,d<BS) (_:n<256),AC prog 9 [] [rwp D,rwp E,I .u8 (n:Int)] fun K=>K [] [Bo true]):=⟨fun {D E n} hD hE hn=>by
  refine aEnter func9 rfl ntmps9 rfl fun K C hC hK=> ?_
  obtain⟨hp,hp13⟩:=QjX (n:=n) (l:=QiQ) rfl
  repeat(refine zS ?_;intros)
  refine zB ?_ ?_<;>intro h1
  · repeat(refine zS ?_;intros)
    exact aRet1 rfl zv hK (le_refl _)
  repeat(refine zS ?_;intros)
  refine zB ?_ ?_<;>intro h2
  · repeat(refine zS ?_;intros)
    exact aRet1 rfl zv hK (le_refl _)
  have f1:Qjs D:=Classical.byContradiction h1
  have f2:Qjs E:=Classical.byContradiction h2
  have⟨l1,_⟩:=QcF f1
  have⟨l2,_⟩:=QcF f2
  have e1:(D.map dvI).length=D.length:=List.length_map ..
  have e2:(E.map dvI).length=E.length:=List.length_map ..
  have hF:=Qfd f1 hD
  have n1:=Qfe f1 hD
  have n2:=Qfe f2 hE
  have r1:=Qia f1 hD
  have r2:=Qia f2 hE
  clear h1 h2 f1 f2 hD hE
  generalize D.map dvI=F at l1 e1 hF n1 r1
  generalize E.map dvI=G at l2 e2 n2 r2
  refine AL.ent (entSub (s:=0) (a:=pv 3 F) r1) ?_
  refine AL.ent (entSub (s:=1) (a:=pv 3 G) r2) ?_
  repeat(refine zS ?_;intros)
  refine zB ?_ ?_<;>intro h3
  · repeat(refine zS ?_;intros)
    exact aRet1 rfl zv hK (le_refl _)
  have pl:=Yo F G
  have tl:=Xe (Xg F G)
  have hX:FcF (Xa (Xg F G)) (3+3+F.length):=Qjr (by omega) (by omega) (by rw[XV];omega) (by
    rw[QkM]
    exact Nat.le_trans (Qhk F G) (Nat.le_trans (Nat.mul_le_mul n1 n2) (by decide+kernel)))
  have hI0:2≤(Xa F).length→2≤(Xa G).length→AC prog 24 [] [pc (3+3+F.length) (Xa (Xg F G))] fun K=>K [] [Bo false]:=fun a b=>AC.les (AC.imp (c24.k hX) fun K hk b1 hb=>by
    have :b1=false:=by cases b1;rfl;exact absurd (hb.1 rfl) (QAk a b)
    rw[this];exact hk) (.cons le_pcv0 .nil)
  repeat(refine zS ?_;intros)
  generalize QiQ.getD (n % 6) 0=p at hp hp13⊢
  have hps:PrS p:=⟨hp,by omega⟩
  have hp2:=hp.1
  have hrl:(XR p F).length≤1000:=by have :=QeC (p:=p) (by omega) F;have :=Xe F;omega
  have hnr:XO p (XR p F)=XR p F:=(XK (by omega) F).nrm
  clear hX
  repeat(refine zS ?_;intros)
  rename_i b hb
  rw[hnr] at hb
  cases b
  · clear hb hnr
    repeat(refine zS ?_;intros)
    refine zB ?_ ?_<;>intro h6
    · repeat(refine zS ?_;intros)
      exact aRet1 rfl zv hK (le_refl _)
    repeat(refine zS ?_;intros)
    refine zB ?_ ?_<;>intro h7
    · repeat(refine zS ?_;intros)
      exact aRet1 rfl zv hK (le_refl _)
    have hI2:AC prog 24 [] [pc (3+3+F.length) (Xa (Xg F G))] fun K=>K [] [Bo false]:=hI0 (by omega) (by omega)
    repeat(refine zS ?_;intros)
    exact aRet1 rfl zv hK (le_refl _)
  · obtain⟨hb1,hb2⟩:=hb rfl
    repeat(refine zS ?_;intros)
    refine zB ?_ ?_<;>intro h5
    · have h5':md p (ldP F)≠0:=by omega
      have hI:AC prog 24 [] [pv 3 F] fun K=>K [] [Bo true]:=AC.imp (c24.k hF) fun K hk b hb=>by
        rw[hb.2 (QBk hp h5' hb1 hb2)];exact hk
      clear hb hnr hb1 hb2
      repeat(refine zS ?_;intros)
      clear hI
      repeat(refine zS ?_;intros)
      refine zB ?_ ?_<;>intro h6
      · repeat(refine zS ?_;intros)
        exact aRet1 rfl zv hK (le_refl _)
      repeat(refine zS ?_;intros)
      refine zB ?_ ?_<;>intro h7
      · repeat(refine zS ?_;intros)
        exact aRet1 rfl zv hK (le_refl _)
      have hI2:AC prog 24 [] [pc (3+3+F.length) (Xa (Xg F G))] fun K=>K [] [Bo false]:=hI0 (by omega) (by omega)
      repeat(refine zS ?_;intros)
      exact aRet1 rfl zv hK (le_refl _)
    · clear hb hnr hb1 hb2
      repeat(refine zS ?_;intros)
      refine zB ?_ ?_<;>intro h6
      · repeat(refine zS ?_;intros)
        exact aRet1 rfl zv hK (le_refl _)
      repeat(refine zS ?_;intros)
      refine zB ?_ ?_<;>intro h7
      · repeat(refine zS ?_;intros)
        exact aRet1 rfl zv hK (le_refl _)
      have hI2:AC prog 24 [] [pc (3+3+F.length) (Xa (Xg F G))] fun K=>K [] [Bo false]:=hI0 (by omega) (by omega)
      repeat(refine zS ?_;intros)
      exact aRet1 rfl zv hK (le_refl _)⟩
end Go.Proofs.YtjdpemcnlejpfaaGreatDoor
namespace Go.Proofs.YtjdpemcnlejpfaaGreatDoor
open Go.RowKit Go.Gx Go.Am Tryz
theorem QAp{W:World}{S S':Nat→Prop}{A A':Option Addr}{n c n' c' M M' y:Nat}{l l':List RI}(h0:Yk W S A n c l M)(h1:Yk W S' A' n' c' l' M')(b2:y<256)(ht:Qi4 W):Calls Tryz.prog 9 #[.slice A n c,.slice A' n' c',.int .u8 (y:Int)] W (Ret fun v w'=> ∃g:Bool,v= .bool g∧Ext W w'∧g=true):=
  am_row (vs:=[.slice A n c,.slice A' n' c',.int .u8 (y:Int)]) (c9.k (poly_dig h0) (poly_dig h1) b2) ⟨poly_rep h0,poly_rep h1,i_rep,trivial⟩ (tab_rep ht) ⟨rfl,rfl⟩
end Go.Proofs.YtjdpemcnlejpfaaGreatDoor
