/-
  TopCubic: for every p and q the law returns true: the sign of the discriminant of x^3 + p x + q says how many distinct real roots Sturm's theorem counts. No condition.
-/
import Derived.Test.YtnkfdkhjaklolaaGreatDoorRows
import Derived.Test.YtnkfdkhjaklolaaGreatDoorTc12
import Derived.Test.YtnkfdkhjaklolaaGreatDoorLibG
import Derived.ProofKit
import Derived.OpenShut
import Derived.ChangeOld
import Derived.Below
import Derived.LaidMore
import Derived.Stop.Joined
import Derived.SevenTiedAt
import Derived.Test.YtnkfdkhjaklolaaGreatDoorTie
import Derived.Test.YtnkfdkhjaklolaaGreatDoorCards
namespace Go.Proofs.YtnkfdkhjaklolaaGreatDoor
open Go.ChangeShapes Go.WideShapes Go.ChangeAt Go.RowKit Go.Gx
theorem QoR:ownKnob Tryz.prog.godebug=none:=by kernel_rfl
theorem QcE:laidOutB Tryz.prog=true:=by kernel_rfl
theorem QoQ(os:Os)(args:Array Value):laidMetH Tryz.prog [("math/bits.deBruijn32tab",Rows.laid_math_bits_deBruijn32tab)] ((World.doorLaid Tryz.prog 400 os).forCall (fun _ _=>0) ⟨#[],args,[]⟩).memory:=
 laidMetH_of_parts3 (fuel:=8) (laidMet_of_run' 8 (by kernel_rfl) (by kernel_rfl)) (by kernel_rfl) (by kernel_rfl)
set_option maxRecDepth 100000 in
theorem QjT(os:Os)(started:os.Started)(H:Type)(enc:TypeId×Value→H):
  ReturnsInHanded {} Tryz.checked os 3 .any (fun w args=>(Rows.topCubicSpec.pre enc Tryz.prog Tryz.f3 [] false w args∧laidMetH Tryz.prog [("math/bits.deBruijn32tab",Rows.laid_math_bits_deBruijn32tab)] w)∧sizedMet enc Tryz.prog Tryz.f3 (OpenSpec.ofChange Rows.topCubicSpec) false w args) (Rows.topCubicSpec.post enc Tryz.prog Tryz.f3 false true false false):=by
 refine returnsInHanded_of_change_and (C:=Tryz.checked) (X:=fun w _=>laidMetH Tryz.prog [("math/bits.deBruijn32tab",Rows.laid_math_bits_deBruijn32tab)] w) (fun _ _ _ hh h=>h.of_heap hh) QoR started (by kernel_rfl) Tryz.func3
  (ChangeSpec.witness_shaped (enc:=enc) (C:=Tryz.checked) (os:=os) (X:=fun w _=>laidMetH Tryz.prog [("math/bits.deBruijn32tab",Rows.laid_math_bits_deBruijn32tab)] w) false (World.doorLaid Tryz.prog 400 os) #[.int .i16 0,.int .i16 0] 8 rfl (World.shaped_of_RefB (by kernel_rfl) (by kernel_rfl)) (by kernel_rfl) (by kernel_rfl) (by kernel_rfl) (QoQ os _)) ?_
 intro W base args ds gs before hval0 hW _ _ hL _
 have hval: ∀(j:Nat) t v,Tryz.f3.params[j]? =some t→args[j]? =some v→Value.okWide Tryz.prog W .any base t v:=hval0
 have hW':=hW
 obtain⟨p,q,hA0,hV,rfl,hfz,hnd⟩:=hW
 have hA:DataW.TrodAll enc Tryz.prog W 0 (fun _=>true) true Tryz.f3.params.toList args.toList ds p:=hA0
 rw[Tryz.params3] at hA hval
 obtain⟨v0,vs0,d0,ds0,p0,q0,hargs,rfl,rfl,h0,r0⟩:=trodAll_cons hA
 obtain⟨v1,vs1,d1,ds1,p1,q1,rfl,rfl,rfl,h1,r1⟩:=trodAll_cons r0
 obtain⟨rfl,rfl,rfl⟩:=trodAll_nil r1
 obtain rfl:args= #[v0,v1]:=by cases args;simp_all
 obtain⟨rfl,rfl⟩:=trodVars_none hV
 obtain⟨x0,rfl⟩:=okWide_int Tryz.underlying22 (hval 0 22 v0 rfl rfl)
 obtain⟨x1,rfl⟩:=okWide_int Tryz.underlying22 (hval 1 22 v1 rfl rfl)
 have k0:=h0
 have k1:=h1
 have lt0: ∀x∈p0,x.block<W.heap.size:=by obtain⟨m,hm⟩:=k0;exact DataW.trod_lt m _ _ _ hm
 have lt1: ∀x∈p1,x.block<W.heap.size:=by obtain⟨m,hm⟩:=k1;exact DataW.trod_lt m _ _ _ hm
 have b0: -32768≤x0∧x0≤32767:=by obtain⟨fuel,hf⟩:=h0;exact Qmg Tryz.underlying22 hf
 have b1: -32768≤x1∧x1≤32767:=by obtain⟨fuel,hf⟩:=h1;exact Qmg Tryz.underlying22 hf
 clear hA0 hval0
 refine(Qqi b0 b1).mono fun e W' ⟨v,he,g,hv,hE,hg⟩=> ?_
 subst he hv hg
 have bel:=hE.below
 exact⟨_,rfl,_,_,_,[],_,[],hW',trodAll_mk1 (shut_bool Tryz.underlying4 _),trodAll_cons_mk (Below.trod QcE (by kernel_rfl) (of_decide_eq_true (by kernel_rfl)) k0 bel lt0) (trodAll_cons_mk (Below.trod QcE (by kernel_rfl) (of_decide_eq_true (by kernel_rfl)) k1 bel lt1) trodAll_mk0),rfl,bel.frame _,fun h=>by cases h⟩
theorem QqR:Rows.topCubicRow.wf (OpenSpec.ofChange Rows.topCubicSpec)=true:=by kernel_rfl
theorem Qle:mapsRowed Tryz.prog=true:=by kernel_rfl
theorem QiC:(Rows.topCubicRow.inPlace==Tryz.prog.inPlace 3)=true:=by kernel_rfl
theorem Qf1:(Rows.topCubicRow.unfollowed==Tryz.prog.unfollowed 3)=true:=by kernel_rfl
theorem Qhy:(Rows.topCubicRow.recurses==Tryz.prog.recurses 3)=true:=by kernel_rfl
theorem Qld:(Rows.topCubicRow.named==Tryz.prog.varsNamed 3)=true:=by kernel_rfl
theorem QgL:(Rows.topCubicRow.plainKeys==Tryz.prog.plainKeys)=true:=by kernel_rfl
theorem Qlc:Tryz.prog.stopsHeard=true:=by kernel_rfl
theorem Qlb:Tryz.prog.mayEnter=true:=by kernel_rfl
theorem QjS:(Rows.topCubicRow.lifted==Tryz.prog.liftsFinal)=true:=by kernel_rfl
theorem Qm4:(Tryz.prog.make==some Rows.topCubicRow.make)=true:=by kernel_rfl
theorem Yf{a b:Bool}(x:a=true)(y:b=true):(a&&b)=true:=by rw[x,y];rfl
theorem QjR:joinedFacts Tryz.prog 3 Tryz.f3 Rows.topCubicSpec Rows.topCubicRow=true:=by unfold joinedFacts;exact(Yf (Yf (Yf (Yf (Yf (Yf (Yf (Yf (Yf (Yf (Yf (Yf (Yf (Yf (Yf (Yf (Yf (Yf (Yf (Yf (Yf (Yf (Yf (Yf (Yf (Yf (Yf (Yf (Yf (Yf (Yf QqR QcE) Qle) (by kernel_rfl)) (by kernel_rfl)) (by kernel_rfl)) (by kernel_rfl)) (by kernel_rfl)) (by kernel_rfl)) QiC) Qf1) Qhy) Qld) (by kernel_rfl)) (by kernel_rfl)) (by kernel_rfl)) (by kernel_rfl)) (by kernel_rfl)) (by kernel_rfl)) (by kernel_rfl)) (by kernel_rfl)) (by kernel_rfl)) QgL) (by kernel_rfl)) Qlc) Qlb) QjS) Qm4) (by kernel_rfl)) (by kernel_rfl)) (by kernel_rfl)) (by kernel_rfl))
theorem QjU:Tryz.f3.isInstance Tryz.prog Rows.topCubicRow.origin Rows.topCubicRow.targs:=of_decide_eq_true (by kernel_rfl)
theorem QoP:Tryz.prog.funcNamed Rows.topCubicRow.func=some 3:=by kernel_rfl
theorem QoS:Rows.TopCubicSaid:=
 OpenClaim.holds_of_wide 3 Tryz.f3 rfl rfl rfl rfl rfl rfl rfl ⟨rfl,rfl,rfl,rfl,rfl⟩ rfl rfl rfl rfl rfl QoP Tryz.func3 QjR
  QjU (by unfold Func.isWrapper;first | (rw[if_pos (by decide+kernel)];kernel_rfl)| (rw[if_neg (by decide+kernel)];exact⟨rfl,rfl⟩))
  (fun os started H enc _=>QjT os started H enc)
theorem cubic_holds:Rows.TopCubicCardSaid:=
 Claim7.holds_tied_plain_at .later [] [.data] true (true, "d84d94d8a3444f20bcce3231b227b8d3d81ad8185d5f5c333d728cc2be0afd0c") false QoS (fun _ h=>by cases h) (by kernel_rfl) (fun _ h=>by cases h) topCubic_row_tie rfl ⟨rfl,rfl⟩ (by kernel_rfl) rfl
  (fun f fn hf hfn=>by
   obtain rfl:f=3:=Option.some.inj ((show Tryz.prog.funcNamed "cylinder/cylindertop.TopCubic" =some 3 by kernel_rfl).symm.trans hf)|>.symm
   obtain rfl:fn=Tryz.f3:=(Option.some.inj (Tryz.func3.symm.trans hfn)).symm
   exact⟨by kernel_rfl,fun j t ht=>by
    rw[Tryz.params3] at ht
    have hm:t∈[22,22]:=by simpa using Array.mem_of_getElem? ht
    have hall:([22,22].all fun u=> !Tryz.prog.wantsStandIn u)=true:=by kernel_rfl
    exact(show Tryz.prog.wantsStandIn t=false by simpa using List.all_eq_true.1 hall t hm)⟩)
  (by kernel_rfl)
#print axioms cubic_holds
end Go.Proofs.YtnkfdkhjaklolaaGreatDoor
