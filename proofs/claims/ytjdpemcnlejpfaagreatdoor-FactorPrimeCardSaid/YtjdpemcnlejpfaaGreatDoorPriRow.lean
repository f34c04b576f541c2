/-
  FactorPrime: for every polynomial the law returns true: the prime is the first one that does not divide the leading coefficient and modulo which the polynomial is squarefree. No condition.
-/
import Derived.Test.YtjdpemcnlejpfaaGreatDoorG5
import Derived.Test.YtjdpemcnlejpfaaGreatDoorOpen
import Derived.Test.YtjdpemcnlejpfaaGreatDoorRT
import Derived.Test.YtjdpemcnlejpfaaGreatDoorRows
import Derived.ProofKit
import Derived.OpenShut
import Derived.ChangeOld
import Derived.Below
import Derived.LaidMore
import Derived.Stop.Joined
import Derived.SevenTiedAt
import Derived.Test.YtjdpemcnlejpfaaGreatDoorTie
import Derived.Test.YtjdpemcnlejpfaaGreatDoorCards
set_option linter.all false
namespace Go.Proofs.YtjdpemcnlejpfaaGreatDoor
open Go.ChangeShapes Go.WideShapes Go.ChangeAt Go.RowKit Go.Gx
theorem QAY:ownKnob Tryz.prog.godebug=none:=by kernel_rfl
theorem Qza:laidOutB Tryz.prog=true:=by kernel_rfl
theorem QAI{H:Type}{enc:TypeId×Value→H}{w:World}{base:Nat}{spare:Nat→Bool}{held:Bool}{fuel:Nat}{A:Option Addr}{n c:Nat}{x:DataW H×List MemPlace}
    (h:DataW.trod enc Tryz.prog w base spare held fuel 30 [.slice A n c]=some x): ∃l,Yk w (fun _=>True) A n c l 9223372036854775807:=
  Qy5 Tryz.underlying30 Tryz.underlying25 (tb:=4) (tn:=23) (tu:=46) ⟨rfl,rfl,by kernel_rfl,Tryz.underlying4⟩ ⟨rfl,rfl,by kernel_rfl,Tryz.underlying23⟩ ⟨Tryz.underlying46,by kernel_rfl⟩ (by kernel_rfl) h
theorem QAX(os:Os)(args:Array Value):laidMetH Tryz.prog [("math/bits.deBruijn32tab",Rows.laid_math_bits_deBruijn32tab)] ((World.doorLaid Tryz.prog 400 os).forCall (fun _ _=>0) ⟨#[],args,[]⟩).memory:=
  laidMetH_of_parts3 (fuel:=8) (laidMet_of_run' 8 (by kernel_rfl) (by kernel_rfl)) (by kernel_rfl) (by kernel_rfl)
set_option maxRecDepth 100000 in
theorem Qz0(os:Os)(started:os.Started)(H:Type)(enc:TypeId×Value→H):
    ReturnsInHanded {} Tryz.checked os 8 .any (fun w args=>(Rows.factorPrimeSpec.pre enc Tryz.prog Tryz.f8 [] false w args∧laidMetH Tryz.prog [("math/bits.deBruijn32tab",Rows.laid_math_bits_deBruijn32tab)] w)∧sizedMet enc Tryz.prog Tryz.f8 (OpenSpec.ofChange Rows.factorPrimeSpec) false w args) (Rows.factorPrimeSpec.post enc Tryz.prog Tryz.f8 false true false false):=by
  refine returnsInHanded_of_change_and (C:=Tryz.checked) (X:=fun w _=>laidMetH Tryz.prog [("math/bits.deBruijn32tab",Rows.laid_math_bits_deBruijn32tab)] w) (fun _ _ _ hh h=>h.of_heap hh) QAY started (by kernel_rfl) Tryz.func8
    (ChangeSpec.witness_shaped (enc:=enc) (C:=Tryz.checked) (os:=os) (X:=fun w _=>laidMetH Tryz.prog [("math/bits.deBruijn32tab",Rows.laid_math_bits_deBruijn32tab)] w) false (World.doorLaid Tryz.prog 400 os) #[.slice none 0 0] 8 rfl (World.shaped_of_RefB (by kernel_rfl) (by kernel_rfl)) (by kernel_rfl) (by kernel_rfl) (by kernel_rfl) (QAX os _)) ?_
  intro W base args ds gs before hval0 hW _ _ hL _
  have hval: ∀(j:Nat) t v,Tryz.f8.params[j]? =some t→args[j]? =some v→Value.okWide Tryz.prog W .any base t v:=hval0
  have hW':=hW
  obtain⟨p,q,hA0,hV,rfl,hfz,hnd⟩:=hW
  have hA:DataW.TrodAll enc Tryz.prog W 0 (fun _=>true) true Tryz.f8.params.toList args.toList ds p:=hA0
  rw[Tryz.params8] at hA hval
  obtain⟨v0,vs0,d0,ds0,p0,q0,hargs,rfl,rfl,h0,r0⟩:=trodAll_cons hA
  obtain⟨rfl,rfl,rfl⟩:=trodAll_nil r0
  obtain rfl:args= #[v0]:=by cases args;simp_all
  obtain⟨rfl,rfl⟩:=trodVars_none hV
  obtain⟨A0,n0,c0,rfl⟩:=okWide_slice Tryz.underlying30 (hval 0 30 v0 rfl rfl)
  have k0:=h0
  have lt0: ∀x∈p0,x.block<W.heap.size:=by obtain⟨m,hm⟩:=k0;exact DataW.trod_lt m _ _ _ hm
  obtain⟨l0,w0⟩: ∃l,Yk W (fun _=>True) A0 n0 c0 l 9223372036854775807:=by obtain⟨fuel,hf⟩:=h0;exact QAI hf
  clear hA0 hval0
  refine(QA0 w0 (Qj3 hL)).mono fun e W' ⟨v,he,g,hv,hE,hg⟩=> ?_
  subst he hv hg
  have bel:=hE.below
  exact⟨_,rfl,_,_,_,[],_,[],hW',trodAll_mk1 (shut_bool Tryz.underlying4 _),trodAll_cons_mk (Below.trod Qza (by kernel_rfl) (of_decide_eq_true (by kernel_rfl)) k0 bel lt0) trodAll_mk0,rfl,bel.frame _,fun h=>by cases h⟩
theorem QBf:Rows.factorPrimeRow.wf (OpenSpec.ofChange Rows.factorPrimeSpec)=true:=by kernel_rfl
theorem QAo:mapsRowed Tryz.prog=true:=by kernel_rfl
theorem QzM:(Rows.factorPrimeRow.inPlace==Tryz.prog.inPlace 8)=true:=by kernel_rfl
theorem Qzi:(Rows.factorPrimeRow.unfollowed==Tryz.prog.unfollowed 8)=true:=by kernel_rfl
theorem Qzz:(Rows.factorPrimeRow.recurses==Tryz.prog.recurses 8)=true:=by kernel_rfl
theorem QAn:(Rows.factorPrimeRow.named==Tryz.prog.varsNamed 8)=true:=by kernel_rfl
theorem Qzp:(Rows.factorPrimeRow.plainKeys==Tryz.prog.plainKeys)=true:=by kernel_rfl
theorem QAm:Tryz.prog.stopsHeard=true:=by kernel_rfl
theorem QAl:Tryz.prog.mayEnter=true:=by kernel_rfl
theorem QzZ:(Rows.factorPrimeRow.lifted==Tryz.prog.liftsFinal)=true:=by kernel_rfl
theorem QAG:(Tryz.prog.make==some Rows.factorPrimeRow.make)=true:=by kernel_rfl
theorem Xu{a b:Bool}(x:a=true)(y:b=true):(a&&b)=true:=by rw[x,y];rfl
theorem QzY:joinedFacts Tryz.prog 8 Tryz.f8 Rows.factorPrimeSpec Rows.factorPrimeRow=true:=by unfold joinedFacts;exact(Xu (Xu (Xu (Xu (Xu (Xu (Xu (Xu (Xu (Xu (Xu (Xu (Xu (Xu (Xu (Xu (Xu (Xu (Xu (Xu (Xu (Xu (Xu (Xu (Xu (Xu (Xu (Xu (Xu (Xu (Xu QBf Qza) QAo) (by kernel_rfl)) (by kernel_rfl)) (by kernel_rfl)) (by kernel_rfl)) (by kernel_rfl)) (by kernel_rfl)) QzM) Qzi) Qzz) QAn) (by kernel_rfl)) (by kernel_rfl)) (by kernel_rfl)) (by kernel_rfl)) (by kernel_rfl)) (by kernel_rfl)) (by kernel_rfl)) (by kernel_rfl)) (by kernel_rfl)) Qzp) (by kernel_rfl)) QAm) QAl) QzZ) QAG) (by kernel_rfl)) (by kernel_rfl)) (by kernel_rfl)) (by kernel_rfl))
theorem Qz1:Tryz.f8.isInstance Tryz.prog Rows.factorPrimeRow.origin Rows.factorPrimeRow.targs:=of_decide_eq_true (by kernel_rfl)
theorem QAW:Tryz.prog.funcNamed Rows.factorPrimeRow.func=some 8:=by kernel_rfl
theorem QAZ:Rows.FactorPrimeSaid:=
  OpenClaim.holds_of_wide 8 Tryz.f8 rfl rfl rfl rfl rfl rfl rfl ⟨rfl,rfl,rfl,rfl,rfl⟩ rfl rfl rfl rfl rfl QAW Tryz.func8 QzY
    Qz1 (by unfold Func.isWrapper;first | (rw[if_pos (by decide+kernel)];kernel_rfl)| (rw[if_neg (by decide+kernel)];exact⟨rfl,rfl⟩))
    (fun os started H enc _=>Qz0 os started H enc)
theorem prime_holds:Rows.FactorPrimeCardSaid:=
  Claim7.holds_tied_plain_at .later [] [.data] true (true, "e714b9fd499034b9678e4dff6b0ef337c50f450e99089250cfd49241dc3ba423") false QAZ (fun _ h=>by cases h) (by kernel_rfl) (fun _ h=>by cases h) factorPrime_row_tie rfl ⟨rfl,rfl⟩ (by kernel_rfl) rfl
    (fun f fn hf hfn=>by
      obtain rfl:f=8:=Option.some.inj ((show Tryz.prog.funcNamed "cylinder/cylinderlaw13.FactorPrime" =some 8 by kernel_rfl).symm.trans hf)|>.symm
      obtain rfl:fn=Tryz.f8:=(Option.some.inj (Tryz.func8.symm.trans hfn)).symm
      exact⟨by kernel_rfl,fun j t ht=>by
        rw[Tryz.params8] at ht
        have hm:t∈[30]:=by simpa using Array.mem_of_getElem? ht
        have hall:([30].all fun u=> !Tryz.prog.wantsStandIn u)=true:=by kernel_rfl
        exact(show Tryz.prog.wantsStandIn t=false by simpa using List.all_eq_true.1 hall t hm)⟩)
    (by kernel_rfl)
#print axioms prime_holds
end Go.Proofs.YtjdpemcnlejpfaaGreatDoor
