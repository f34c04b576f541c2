/-
  FactorKnown: for every integer and every list of numbers the law returns true: the factors of a product of known irreducible polynomials are these polynomials, however often each occurs. No condition.
-/
import Derived.Test.YtjdpemcnlejpfaaGreatDoorG1
import Derived.Test.YtjdpemcnlejpfaaGreatDoorOpenU8
import Derived.Test.YtjdpemcnlejpfaaGreatDoorOpen
import Derived.Test.YtjdpemcnlejpfaaGreatDoorRT
import Derived.Test.YtjdpemcnlejpfaaGreatDoorRows
import Derived.ProofKit
import Derived.OpenShut
import Derived.ChangeOld
import Derived.Below
import Derived.LaidMore
import Derived.Stop.Joined
import Derived.SevenTiedAt
import Derived.Test.YtjdpemcnlejpfaaGreatDoorTie
import Derived.Test.YtjdpemcnlejpfaaGreatDoorCards
set_option linter.all false
namespace Go.Proofs.YtjdpemcnlejpfaaGreatDoor
open Go.ChangeShapes Go.WideShapes Go.ChangeAt Go.RowKit Go.Gx
theorem QB2:ownKnob Tryz.prog.godebug=none:=by kernel_rfl
theorem QBr:laidOutB Tryz.prog=true:=by kernel_rfl
theorem QBZ{H:Type}{enc:TypeId×Value→H}{w:World}{base:Nat}{spare:Nat→Bool}{held:Bool}{fuel:Nat}{cs:Array Value}{x:DataW H×List MemPlace}
    (hs:cs.size=2)(h:DataW.trod enc Tryz.prog w base spare held fuel 25 cs.toList=some x): ∃g A n c d,cs= #[.bool g,.slice A n c]∧Qay w (fun _=>True) A n c d:=
  open_int Tryz.underlying25 (tb:=4) (tn:=23) (tu:=46) ⟨rfl,rfl,by kernel_rfl,Tryz.underlying4⟩ ⟨rfl,rfl,by kernel_rfl,Tryz.underlying23⟩ ⟨Tryz.underlying46,by kernel_rfl⟩ hs h
theorem QB1(os:Os)(args:Array Value):laidMetH Tryz.prog [("math/bits.deBruijn32tab",Rows.laid_math_bits_deBruijn32tab)] ((World.doorLaid Tryz.prog 400 os).forCall (fun _ _=>0) ⟨#[],args,[]⟩).memory:=
  laidMetH_of_parts3 (fuel:=8) (laidMet_of_run' 8 (by kernel_rfl) (by kernel_rfl)) (by kernel_rfl) (by kernel_rfl)
set_option maxRecDepth 100000 in
theorem QBD(os:Os)(started:os.Started)(H:Type)(enc:TypeId×Value→H):
    ReturnsInHanded {} Tryz.checked os 3 .any (fun w args=>(Rows.factorKnownSpec.pre enc Tryz.prog Tryz.f3 [] false w args∧laidMetH Tryz.prog [("math/bits.deBruijn32tab",Rows.laid_math_bits_deBruijn32tab)] w)∧sizedMet enc Tryz.prog Tryz.f3 (OpenSpec.ofChange Rows.factorKnownSpec) false w args) (Rows.factorKnownSpec.post enc Tryz.prog Tryz.f3 false true false false):=by
  refine returnsInHanded_of_change_and (C:=Tryz.checked) (X:=fun w _=>laidMetH Tryz.prog [("math/bits.deBruijn32tab",Rows.laid_math_bits_deBruijn32tab)] w) (fun _ _ _ hh h=>h.of_heap hh) QB2 started (by kernel_rfl) Tryz.func3
    (ChangeSpec.witness_shaped (enc:=enc) (C:=Tryz.checked) (os:=os) (X:=fun w _=>laidMetH Tryz.prog [("math/bits.deBruijn32tab",Rows.laid_math_bits_deBruijn32tab)] w) false (World.doorLaid Tryz.prog 400 os) #[.agg #[.bool false,.slice none 0 0],.slice none 0 0] 8 rfl (World.shaped_of_RefB (by kernel_rfl) (by kernel_rfl)) (by kernel_rfl) (by kernel_rfl) (by kernel_rfl) (QB1 os _)) ?_
  intro W base args ds gs before hval0 hW _ _ hL _
  have hval: ∀(j:Nat) t v,Tryz.f3.params[j]? =some t→args[j]? =some v→Value.okWide Tryz.prog W .any base t v:=hval0
  have hW':=hW
  obtain⟨p,q,hA0,hV,rfl,hfz,hnd⟩:=hW
  have hA:DataW.TrodAll enc Tryz.prog W 0 (fun _=>true) true Tryz.f3.params.toList args.toList ds p:=hA0
  rw[Tryz.params3] at hA hval
  obtain⟨v0,vs0,d0,ds0,p0,q0,hargs,rfl,rfl,h0,r0⟩:=trodAll_cons hA
  obtain⟨v1,vs1,d1,ds1,p1,q1,rfl,rfl,rfl,h1,r1⟩:=trodAll_cons r0
  obtain⟨rfl,rfl,rfl⟩:=trodAll_nil r1
  obtain rfl:args= #[v0,v1]:=by cases args;simp_all
  obtain⟨rfl,rfl⟩:=trodVars_none hV
  obtain⟨cs0,rfl,hs0⟩:=okWide_struct Tryz.underlying25 (hval 0 25 v0 rfl rfl)
  replace hs0:cs0.size=2:=hs0.trans (by kernel_rfl)
  obtain⟨A1,n1,c1,rfl⟩:=okWide_slice Tryz.underlying26 (hval 1 26 v1 rfl rfl)
  have k0:=h0
  have k1:=h1
  have lt0: ∀x∈p0,x.block<W.heap.size:=by obtain⟨m,hm⟩:=k0;exact DataW.trod_lt m _ _ _ hm
  have lt1: ∀x∈p1,x.block<W.heap.size:=by obtain⟨m,hm⟩:=k1;exact DataW.trod_lt m _ _ _ hm
  obtain⟨g0,A0,n0,c0,d_0,rfl,w0⟩: ∃g A n c d,cs0= #[.bool g,.slice A n c]∧Qay W (fun _=>True) A n c d:=by obtain⟨fuel,hf⟩:=h0;exact QBZ hs0 hf
  obtain⟨xs1,w1⟩: ∃xs,U8R W (fun _=>True) A1 n1 c1 xs:=by obtain⟨fuel,hf⟩:=h1;exact QB8 Tryz.underlying26 Tryz.underlying5 (by kernel_rfl) hf
  clear hA0 hval0
  refine(QB5 w0 w1 (Qj3 hL)).mono fun e W' ⟨v,he,g,hv,hE,hg⟩=> ?_
  subst he hv hg
  have bel:=hE.below
  exact⟨_,rfl,_,_,_,[],_,[],hW',trodAll_mk1 (shut_bool Tryz.underlying4 _),trodAll_cons_mk (Below.trod QBr (by kernel_rfl) (of_decide_eq_true (by kernel_rfl)) k0 bel lt0) (trodAll_cons_mk (Below.trod QBr (by kernel_rfl) (of_decide_eq_true (by kernel_rfl)) k1 bel lt1) trodAll_mk0),rfl,bel.frame _,fun h=>by cases h⟩
theorem QB7:Rows.factorKnownRow.wf (OpenSpec.ofChange Rows.factorKnownSpec)=true:=by kernel_rfl
theorem QBJ:mapsRowed Tryz.prog=true:=by kernel_rfl
theorem QBz:(Rows.factorKnownRow.inPlace==Tryz.prog.inPlace 3)=true:=by kernel_rfl
theorem QBv:(Rows.factorKnownRow.unfollowed==Tryz.prog.unfollowed 3)=true:=by kernel_rfl
theorem QBy:(Rows.factorKnownRow.recurses==Tryz.prog.recurses 3)=true:=by kernel_rfl
theorem QBI:(Rows.factorKnownRow.named==Tryz.prog.varsNamed 3)=true:=by kernel_rfl
theorem QBx:(Rows.factorKnownRow.plainKeys==Tryz.prog.plainKeys)=true:=by kernel_rfl
theorem QBH:Tryz.prog.stopsHeard=true:=by kernel_rfl
theorem QBG:Tryz.prog.mayEnter=true:=by kernel_rfl
theorem QBC:(Rows.factorKnownRow.lifted==Tryz.prog.liftsFinal)=true:=by kernel_rfl
theorem QBN:(Tryz.prog.make==some Rows.factorKnownRow.make)=true:=by kernel_rfl
theorem Xu{a b:Bool}(x:a=true)(y:b=true):(a&&b)=true:=by rw[x,y];rfl
theorem QBB:joinedFacts Tryz.prog 3 Tryz.f3 Rows.factorKnownSpec Rows.factorKnownRow=true:=by unfold joinedFacts;exact(Xu (Xu (Xu (Xu (Xu (Xu (Xu (Xu (Xu (Xu (Xu (Xu (Xu (Xu (Xu (Xu (Xu (Xu (Xu (Xu (Xu (Xu (Xu (Xu (Xu (Xu (Xu (Xu (Xu (Xu (Xu QB7 QBr) QBJ) (by kernel_rfl)) (by kernel_rfl)) (by kernel_rfl)) (by kernel_rfl)) (by kernel_rfl)) (by kernel_rfl)) QBz) QBv) QBy) QBI) (by kernel_rfl)) (by kernel_rfl)) (by kernel_rfl)) (by kernel_rfl)) (by kernel_rfl)) (by kernel_rfl)) (by kernel_rfl)) (by kernel_rfl)) (by kernel_rfl)) QBx) (by kernel_rfl)) QBH) QBG) QBC) QBN) (by kernel_rfl)) (by kernel_rfl)) (by kernel_rfl)) (by kernel_rfl))
theorem QBF:Tryz.f3.isInstance Tryz.prog Rows.factorKnownRow.origin Rows.factorKnownRow.targs:=of_decide_eq_true (by kernel_rfl)
theorem QBY:Tryz.prog.funcNamed Rows.factorKnownRow.func=some 3:=by kernel_rfl
theorem QB3:Rows.FactorKnownSaid:=
  OpenClaim.holds_of_wide 3 Tryz.f3 rfl rfl rfl rfl rfl rfl rfl ⟨rfl,rfl,rfl,rfl,rfl⟩ rfl rfl rfl rfl rfl QBY Tryz.func3 QBB
    QBF (by unfold Func.isWrapper;first | (rw[if_pos (by decide+kernel)];kernel_rfl)| (rw[if_neg (by decide+kernel)];exact⟨rfl,rfl⟩))
    (fun os started H enc _=>QBD os started H enc)
theorem known_holds:Rows.FactorKnownCardSaid:=
  Claim7.holds_tied_plain_at .later [] [.data] true (true, "e714b9fd499034b9678e4dff6b0ef337c50f450e99089250cfd49241dc3ba423") false QB3 (fun _ h=>by cases h) (by kernel_rfl) (fun _ h=>by cases h) factorKnown_row_tie rfl ⟨rfl,rfl⟩ (by kernel_rfl) rfl
    (fun f fn hf hfn=>by
      obtain rfl:f=3:=Option.some.inj ((show Tryz.prog.funcNamed "cylinder/cylinderlaw13.FactorKnown" =some 3 by kernel_rfl).symm.trans hf)|>.symm
      obtain rfl:fn=Tryz.f3:=(Option.some.inj (Tryz.func3.symm.trans hfn)).symm
      exact⟨by kernel_rfl,fun j t ht=>by
        rw[Tryz.params3] at ht
        have hm:t∈[25,26]:=by simpa using Array.mem_of_getElem? ht
        have hall:([25,26].all fun u=> !Tryz.prog.wantsStandIn u)=true:=by kernel_rfl
        exact(show Tryz.prog.wantsStandIn t=false by simpa using List.all_eq_true.1 hall t hm)⟩)
    (by kernel_rfl)
#print axioms known_holds
end Go.Proofs.YtjdpemcnlejpfaaGreatDoor
