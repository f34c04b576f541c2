/-
  FactorSplit: for every polynomial the law returns true: a squarefree polynomial is a constant times the product of its irreducible factors, others are rejected. No condition.
-/
import Derived.Test.YtjdpemcnlejpfaaGreatDoorG1
import Derived.Test.YtjdpemcnlejpfaaGreatDoorOpen
import Derived.Test.YtjdpemcnlejpfaaGreatDoorRT
import Derived.Test.YtjdpemcnlejpfaaGreatDoorRows
import Derived.ProofKit
import Derived.OpenShut
import Derived.ChangeOld
import Derived.Below
import Derived.LaidMore
import Derived.Stop.Joined
import Derived.SevenTiedAt
import Derived.Test.YtjdpemcnlejpfaaGreatDoorTie
import Derived.Test.YtjdpemcnlejpfaaGreatDoorCards
set_option linter.all false
namespace Go.Proofs.YtjdpemcnlejpfaaGreatDoor
open Go.ChangeShapes Go.WideShapes Go.ChangeAt Go.RowKit Go.Gx
theorem QA9:ownKnob Tryz.prog.godebug=none:=by kernel_rfl
theorem Qzb:laidOutB Tryz.prog=true:=by kernel_rfl
theorem QAO{H:Type}{enc:TypeId×Value→H}{w:World}{base:Nat}{spare:Nat→Bool}{held:Bool}{fuel:Nat}{A:Option Addr}{n c:Nat}{x:DataW H×List MemPlace}
    (h:DataW.trod enc Tryz.prog w base spare held fuel 30 [.slice A n c]=some x): ∃l,Yk w (fun _=>True) A n c l 9223372036854775807:=
  Qy5 Tryz.underlying30 Tryz.underlying25 (tb:=4) (tn:=23) (tu:=46) ⟨rfl,rfl,by kernel_rfl,Tryz.underlying4⟩ ⟨rfl,rfl,by kernel_rfl,Tryz.underlying23⟩ ⟨Tryz.underlying46,by kernel_rfl⟩ (by kernel_rfl) h
theorem QA8(os:Os)(args:Array Value):laidMetH Tryz.prog [("math/bits.deBruijn32tab",Rows.laid_math_bits_deBruijn32tab)] ((World.doorLaid Tryz.prog 400 os).forCall (fun _ _=>0) ⟨#[],args,[]⟩).memory:=
  laidMetH_of_parts3 (fuel:=8) (laidMet_of_run' 8 (by kernel_rfl) (by kernel_rfl)) (by kernel_rfl) (by kernel_rfl)
set_option maxRecDepth 100000 in
theorem Qz8(os:Os)(started:os.Started)(H:Type)(enc:TypeId×Value→H):
    ReturnsInHanded {} Tryz.checked os 6 .any (fun w args=>(Rows.factorSplitSpec.pre enc Tryz.prog Tryz.f6 [] false w args∧laidMetH Tryz.prog [("math/bits.deBruijn32tab",Rows.laid_math_bits_deBruijn32tab)] w)∧sizedMet enc Tryz.prog Tryz.f6 (OpenSpec.ofChange Rows.factorSplitSpec) false w args) (Rows.factorSplitSpec.post enc Tryz.prog Tryz.f6 false true false false):=by
  refine returnsInHanded_of_change_and (C:=Tryz.checked) (X:=fun w _=>laidMetH Tryz.prog [("math/bits.deBruijn32tab",Rows.laid_math_bits_deBruijn32tab)] w) (fun _ _ _ hh h=>h.of_heap hh) QA9 started (by kernel_rfl) Tryz.func6
    (ChangeSpec.witness_shaped (enc:=enc) (C:=Tryz.checked) (os:=os) (X:=fun w _=>laidMetH Tryz.prog [("math/bits.deBruijn32tab",Rows.laid_math_bits_deBruijn32tab)] w) false (World.doorLaid Tryz.prog 400 os) #[.slice none 0 0] 8 rfl (World.shaped_of_RefB (by kernel_rfl) (by kernel_rfl)) (by kernel_rfl) (by kernel_rfl) (by kernel_rfl) (QA8 os _)) ?_
  intro W base args ds gs before hval0 hW _ _ hL _
  have hval: ∀(j:Nat) t v,Tryz.f6.params[j]? =some t→args[j]? =some v→Value.okWide Tryz.prog W .any base t v:=hval0
  have hW':=hW
  obtain⟨p,q,hA0,hV,rfl,hfz,hnd⟩:=hW
  have hA:DataW.TrodAll enc Tryz.prog W 0 (fun _=>true) true Tryz.f6.params.toList args.toList ds p:=hA0
  rw[Tryz.params6] at hA hval
  obtain⟨v0,vs0,d0,ds0,p0,q0,hargs,rfl,rfl,h0,r0⟩:=trodAll_cons hA
  obtain⟨rfl,rfl,rfl⟩:=trodAll_nil r0
  obtain rfl:args= #[v0]:=by cases args;simp_all
  obtain⟨rfl,rfl⟩:=trodVars_none hV
  obtain⟨A0,n0,c0,rfl⟩:=okWide_slice Tryz.underlying30 (hval 0 30 v0 rfl rfl)
  have k0:=h0
  have lt0: ∀x∈p0,x.block<W.heap.size:=by obtain⟨m,hm⟩:=k0;exact DataW.trod_lt m _ _ _ hm
  obtain⟨l0,w0⟩: ∃l,Yk W (fun _=>True) A0 n0 c0 l 9223372036854775807:=by obtain⟨fuel,hf⟩:=h0;exact QAO hf
  clear hA0 hval0
  refine(QA2 w0 (Qj3 hL)).mono fun e W' ⟨v,he,g,hv,hE,hg⟩=> ?_
  subst he hv hg
  have bel:=hE.below
  exact⟨_,rfl,_,_,_,[],_,[],hW',trodAll_mk1 (shut_bool Tryz.underlying4 _),trodAll_cons_mk (Below.trod Qzb (by kernel_rfl) (of_decide_eq_true (by kernel_rfl)) k0 bel lt0) trodAll_mk0,rfl,bel.frame _,fun h=>by cases h⟩
theorem QBh:Rows.factorSplitRow.wf (OpenSpec.ofChange Rows.factorSplitSpec)=true:=by kernel_rfl
theorem QAx:mapsRowed Tryz.prog=true:=by kernel_rfl
theorem QzO:(Rows.factorSplitRow.inPlace==Tryz.prog.inPlace 6)=true:=by kernel_rfl
theorem Qzk:(Rows.factorSplitRow.unfollowed==Tryz.prog.unfollowed 6)=true:=by kernel_rfl
theorem QzB:(Rows.factorSplitRow.recurses==Tryz.prog.recurses 6)=true:=by kernel_rfl
theorem QAw:(Rows.factorSplitRow.named==Tryz.prog.varsNamed 6)=true:=by kernel_rfl
theorem Qzr:(Rows.factorSplitRow.plainKeys==Tryz.prog.plainKeys)=true:=by kernel_rfl
theorem QAv:Tryz.prog.stopsHeard=true:=by kernel_rfl
theorem QAu:Tryz.prog.mayEnter=true:=by kernel_rfl
theorem Qz7:(Rows.factorSplitRow.lifted==Tryz.prog.liftsFinal)=true:=by kernel_rfl
theorem QAN:(Tryz.prog.make==some Rows.factorSplitRow.make)=true:=by kernel_rfl
theorem Xu{a b:Bool}(x:a=true)(y:b=true):(a&&b)=true:=by rw[x,y];rfl
theorem Qz6:joinedFacts Tryz.prog 6 Tryz.f6 Rows.factorSplitSpec Rows.factorSplitRow=true:=by unfold joinedFacts;exact(Xu (Xu (Xu (Xu (Xu (Xu (Xu (Xu (Xu (Xu (Xu (Xu (Xu (Xu (Xu (Xu (Xu (Xu (Xu (Xu (Xu (Xu (Xu (Xu (Xu (Xu (Xu (Xu (Xu (Xu (Xu QBh Qzb) QAx) (by kernel_rfl)) (by kernel_rfl)) (by kernel_rfl)) (by kernel_rfl)) (by kernel_rfl)) (by kernel_rfl)) QzO) Qzk) QzB) QAw) (by kernel_rfl)) (by kernel_rfl)) (by kernel_rfl)) (by kernel_rfl)) (by kernel_rfl)) (by kernel_rfl)) (by kernel_rfl)) (by kernel_rfl)) (by kernel_rfl)) Qzr) (by kernel_rfl)) QAv) QAu) Qz7) QAN) (by kernel_rfl)) (by kernel_rfl)) (by kernel_rfl)) (by kernel_rfl))
theorem Qz9:Tryz.f6.isInstance Tryz.prog Rows.factorSplitRow.origin Rows.factorSplitRow.targs:=of_decide_eq_true (by kernel_rfl)
theorem QA7:Tryz.prog.funcNamed Rows.factorSplitRow.func=some 6:=by kernel_rfl
theorem QBa:Rows.FactorSplitSaid:=
  OpenClaim.holds_of_wide 6 Tryz.f6 rfl rfl rfl rfl rfl rfl rfl ⟨rfl,rfl,rfl,rfl,rfl⟩ rfl rfl rfl rfl rfl QA7 Tryz.func6 Qz6
    Qz9 (by unfold Func.isWrapper;first | (rw[if_pos (by decide+kernel)];kernel_rfl)| (rw[if_neg (by decide+kernel)];exact⟨rfl,rfl⟩))
    (fun os started H enc _=>Qz8 os started H enc)
theorem split_holds:Rows.FactorSplitCardSaid:=
  Claim7.holds_tied_plain_at .later [] [.data] true (true, "e714b9fd499034b9678e4dff6b0ef337c50f450e99089250cfd49241dc3ba423") false QBa (fun _ h=>by cases h) (by kernel_rfl) (fun _ h=>by cases h) factorSplit_row_tie rfl ⟨rfl,rfl⟩ (by kernel_rfl) rfl
    (fun f fn hf hfn=>by
      obtain rfl:f=6:=Option.some.inj ((show Tryz.prog.funcNamed "cylinder/cylinderlaw13.FactorSplit" =some 6 by kernel_rfl).symm.trans hf)|>.symm
      obtain rfl:fn=Tryz.f6:=(Option.some.inj (Tryz.func6.symm.trans hfn)).symm
      exact⟨by kernel_rfl,fun j t ht=>by
        rw[Tryz.params6] at ht
        have hm:t∈[30]:=by simpa using Array.mem_of_getElem? ht
        have hall:([30].all fun u=> !Tryz.prog.wantsStandIn u)=true:=by kernel_rfl
        exact(show Tryz.prog.wantsStandIn t=false by simpa using List.all_eq_true.1 hall t hm)⟩)
    (by kernel_rfl)
#print axioms split_holds
end Go.Proofs.YtjdpemcnlejpfaaGreatDoor
