/-
  FactorShift: for every polynomial and every number the law returns true: a shift of the variable shifts the factors. No condition.
-/
import Derived.Test.YtjdpemcnlejpfaaGreatDoorG1
import Derived.Test.YtjdpemcnlejpfaaGreatDoorOpen
import Derived.Test.YtjdpemcnlejpfaaGreatDoorOpen16
import Derived.Test.YtjdpemcnlejpfaaGreatDoorRT
import Derived.Test.YtjdpemcnlejpfaaGreatDoorRows
import Derived.ProofKit
import Derived.OpenShut
import Derived.ChangeOld
import Derived.Below
import Derived.LaidMore
import Derived.Stop.Joined
import Derived.SevenTiedAt
import Derived.Test.YtjdpemcnlejpfaaGreatDoorTie
import Derived.Test.YtjdpemcnlejpfaaGreatDoorCards
set_option linter.all false
namespace Go.Proofs.YtjdpemcnlejpfaaGreatDoor
open Go.ChangeShapes Go.WideShapes Go.ChangeAt Go.RowKit Go.Gx
theorem QA5:ownKnob Tryz.prog.godebug=none:=by kernel_rfl
theorem Qy7:laidOutB Tryz.prog=true:=by kernel_rfl
theorem QAM{H:Type}{enc:TypeId×Value→H}{w:World}{base:Nat}{spare:Nat→Bool}{held:Bool}{fuel:Nat}{A:Option Addr}{n c:Nat}{x:DataW H×List MemPlace}
    (h:DataW.trod enc Tryz.prog w base spare held fuel 30 [.slice A n c]=some x): ∃l,Yk w (fun _=>True) A n c l 9223372036854775807:=
  Qy5 Tryz.underlying30 Tryz.underlying25 (tb:=4) (tn:=23) (tu:=46) ⟨rfl,rfl,by kernel_rfl,Tryz.underlying4⟩ ⟨rfl,rfl,by kernel_rfl,Tryz.underlying23⟩ ⟨Tryz.underlying46,by kernel_rfl⟩ (by kernel_rfl) h
theorem QA4(os:Os)(args:Array Value):laidMetH Tryz.prog [("math/bits.deBruijn32tab",Rows.laid_math_bits_deBruijn32tab)] ((World.doorLaid Tryz.prog 400 os).forCall (fun _ _=>0) ⟨#[],args,[]⟩).memory:=
  laidMetH_of_parts3 (fuel:=8) (laidMet_of_run' 8 (by kernel_rfl) (by kernel_rfl)) (by kernel_rfl) (by kernel_rfl)
set_option maxRecDepth 100000 in
theorem Qz4(os:Os)(started:os.Started)(H:Type)(enc:TypeId×Value→H):
    ReturnsInHanded {} Tryz.checked os 7 .any (fun w args=>(Rows.factorShiftSpec.pre enc Tryz.prog Tryz.f7 [] false w args∧laidMetH Tryz.prog [("math/bits.deBruijn32tab",Rows.laid_math_bits_deBruijn32tab)] w)∧sizedMet enc Tryz.prog Tryz.f7 (OpenSpec.ofChange Rows.factorShiftSpec) false w args) (Rows.factorShiftSpec.post enc Tryz.prog Tryz.f7 false true false false):=by
  refine returnsInHanded_of_change_and (C:=Tryz.checked) (X:=fun w _=>laidMetH Tryz.prog [("math/bits.deBruijn32tab",Rows.laid_math_bits_deBruijn32tab)] w) (fun _ _ _ hh h=>h.of_heap hh) QA5 started (by kernel_rfl) Tryz.func7
    (ChangeSpec.witness_shaped (enc:=enc) (C:=Tryz.checked) (os:=os) (X:=fun w _=>laidMetH Tryz.prog [("math/bits.deBruijn32tab",Rows.laid_math_bits_deBruijn32tab)] w) false (World.doorLaid Tryz.prog 400 os) #[.slice none 0 0,.int .i16 0] 8 rfl (World.shaped_of_RefB (by kernel_rfl) (by kernel_rfl)) (by kernel_rfl) (by kernel_rfl) (by kernel_rfl) (QA4 os _)) ?_
  intro W base args ds gs before hval0 hW _ _ hL _
  have hval: ∀(j:Nat) t v,Tryz.f7.params[j]? =some t→args[j]? =some v→Value.okWide Tryz.prog W .any base t v:=hval0
  have hW':=hW
  obtain⟨p,q,hA0,hV,rfl,hfz,hnd⟩:=hW
  have hA:DataW.TrodAll enc Tryz.prog W 0 (fun _=>true) true Tryz.f7.params.toList args.toList ds p:=hA0
  rw[Tryz.params7] at hA hval
  obtain⟨v0,vs0,d0,ds0,p0,q0,hargs,rfl,rfl,h0,r0⟩:=trodAll_cons hA
  obtain⟨v1,vs1,d1,ds1,p1,q1,rfl,rfl,rfl,h1,r1⟩:=trodAll_cons r0
  obtain⟨rfl,rfl,rfl⟩:=trodAll_nil r1
  obtain rfl:args= #[v0,v1]:=by cases args;simp_all
  obtain⟨rfl,rfl⟩:=trodVars_none hV
  obtain⟨A0,n0,c0,rfl⟩:=okWide_slice Tryz.underlying30 (hval 0 30 v0 rfl rfl)
  obtain⟨x1,rfl⟩:=okWide_int Tryz.underlying48 (hval 1 48 v1 rfl rfl)
  have k0:=h0
  have k1:=h1
  have lt0: ∀x∈p0,x.block<W.heap.size:=by obtain⟨m,hm⟩:=k0;exact DataW.trod_lt m _ _ _ hm
  have lt1: ∀x∈p1,x.block<W.heap.size:=by obtain⟨m,hm⟩:=k1;exact DataW.trod_lt m _ _ _ hm
  obtain⟨l0,w0⟩: ∃l,Yk W (fun _=>True) A0 n0 c0 l 9223372036854775807:=by obtain⟨fuel,hf⟩:=h0;exact QAM hf
  have b1: -32768≤x1∧x1≤32767:=by obtain⟨fuel,hf⟩:=h1;exact QBc Tryz.underlying48 hf
  clear hA0 hval0
  refine(QA1 w0 b1 (Qj3 hL)).mono fun e W' ⟨v,he,g,hv,hE,hg⟩=> ?_
  subst he hv hg
  have bel:=hE.below
  exact⟨_,rfl,_,_,_,[],_,[],hW',trodAll_mk1 (shut_bool Tryz.underlying4 _),trodAll_cons_mk (Below.trod Qy7 (by kernel_rfl) (of_decide_eq_true (by kernel_rfl)) k0 bel lt0) (trodAll_cons_mk (Below.trod Qy7 (by kernel_rfl) (of_decide_eq_true (by kernel_rfl)) k1 bel lt1) trodAll_mk0),rfl,bel.frame _,fun h=>by cases h⟩
theorem QBg:Rows.factorShiftRow.wf (OpenSpec.ofChange Rows.factorShiftSpec)=true:=by kernel_rfl
theorem QAt:mapsRowed Tryz.prog=true:=by kernel_rfl
theorem QzN:(Rows.factorShiftRow.inPlace==Tryz.prog.inPlace 7)=true:=by kernel_rfl
theorem Qzj:(Rows.factorShiftRow.unfollowed==Tryz.prog.unfollowed 7)=true:=by kernel_rfl
theorem QzA:(Rows.factorShiftRow.recurses==Tryz.prog.recurses 7)=true:=by kernel_rfl
theorem QAs:(Rows.factorShiftRow.named==Tryz.prog.varsNamed 7)=true:=by kernel_rfl
theorem Qzq:(Rows.factorShiftRow.plainKeys==Tryz.prog.plainKeys)=true:=by kernel_rfl
theorem QAr:Tryz.prog.stopsHeard=true:=by kernel_rfl
theorem QAq:Tryz.prog.mayEnter=true:=by kernel_rfl
theorem Qz3:(Rows.factorShiftRow.lifted==Tryz.prog.liftsFinal)=true:=by kernel_rfl
theorem QAL:(Tryz.prog.make==some Rows.factorShiftRow.make)=true:=by kernel_rfl
theorem Xu{a b:Bool}(x:a=true)(y:b=true):(a&&b)=true:=by rw[x,y];rfl
theorem Qz2:joinedFacts Tryz.prog 7 Tryz.f7 Rows.factorShiftSpec Rows.factorShiftRow=true:=by unfold joinedFacts;exact(Xu (Xu (Xu (Xu (Xu (Xu (Xu (Xu (Xu (Xu (Xu (Xu (Xu (Xu (Xu (Xu (Xu (Xu (Xu (Xu (Xu (Xu (Xu (Xu (Xu (Xu (Xu (Xu (Xu (Xu (Xu QBg Qy7) QAt) (by kernel_rfl)) (by kernel_rfl)) (by kernel_rfl)) (by kernel_rfl)) (by kernel_rfl)) (by kernel_rfl)) QzN) Qzj) QzA) QAs) (by kernel_rfl)) (by kernel_rfl)) (by kernel_rfl)) (by kernel_rfl)) (by kernel_rfl)) (by kernel_rfl)) (by kernel_rfl)) (by kernel_rfl)) (by kernel_rfl)) Qzq) (by kernel_rfl)) QAr) QAq) Qz3) QAL) (by kernel_rfl)) (by kernel_rfl)) (by kernel_rfl)) (by kernel_rfl))
theorem Qz5:Tryz.f7.isInstance Tryz.prog Rows.factorShiftRow.origin Rows.factorShiftRow.targs:=of_decide_eq_true (by kernel_rfl)
theorem QA3:Tryz.prog.funcNamed Rows.factorShiftRow.func=some 7:=by kernel_rfl
theorem QA6:Rows.FactorShiftSaid:=
  OpenClaim.holds_of_wide 7 Tryz.f7 rfl rfl rfl rfl rfl rfl rfl ⟨rfl,rfl,rfl,rfl,rfl⟩ rfl rfl rfl rfl rfl QA3 Tryz.func7 Qz2
    Qz5 (by unfold Func.isWrapper;first | (rw[if_pos (by decide+kernel)];kernel_rfl)| (rw[if_neg (by decide+kernel)];exact⟨rfl,rfl⟩))
    (fun os started H enc _=>Qz4 os started H enc)
theorem shift_holds:Rows.FactorShiftCardSaid:=
  Claim7.holds_tied_plain_at .later [] [.data] true (true, "e714b9fd499034b9678e4dff6b0ef337c50f450e99089250cfd49241dc3ba423") false QA6 (fun _ h=>by cases h) (by kernel_rfl) (fun _ h=>by cases h) factorShift_row_tie rfl ⟨rfl,rfl⟩ (by kernel_rfl) rfl
    (fun f fn hf hfn=>by
      obtain rfl:f=7:=Option.some.inj ((show Tryz.prog.funcNamed "cylinder/cylinderlaw13.FactorShift" =some 7 by kernel_rfl).symm.trans hf)|>.symm
      obtain rfl:fn=Tryz.f7:=(Option.some.inj (Tryz.func7.symm.trans hfn)).symm
      exact⟨by kernel_rfl,fun j t ht=>by
        rw[Tryz.params7] at ht
        have hm:t∈[30,48]:=by simpa using Array.mem_of_getElem? ht
        have hall:([30,48].all fun u=> !Tryz.prog.wantsStandIn u)=true:=by kernel_rfl
        exact(show Tryz.prog.wantsStandIn t=false by simpa using List.all_eq_true.1 hall t hm)⟩)
    (by kernel_rfl)
#print axioms shift_holds
end Go.Proofs.YtjdpemcnlejpfaaGreatDoor
