/-
  FactorCyclotomic: for every n and raw the law returns true: x^k - 1 is the product of the cyclotomic polynomials of the divisors of k = 1 + n mod 16, each irreducible, its degree Euler's function; outside 1..1000 there is an error. No condition.
-/
import Derived.Test.YtjdpemcnlejpfaaGreatDoorG8
import Derived.Test.YtjdpemcnlejpfaaGreatDoorOpen
import Derived.Test.YtjdpemcnlejpfaaGreatDoorOpen16
import Derived.Test.YtjdpemcnlejpfaaGreatDoorRT
import Derived.Test.YtjdpemcnlejpfaaGreatDoorRows
import Derived.ProofKit
import Derived.OpenShut
import Derived.ChangeOld
import Derived.Below
import Derived.LaidMore
import Derived.Stop.Joined
import Derived.SevenTiedAt
import Derived.Test.YtjdpemcnlejpfaaGreatDoorTie
import Derived.Test.YtjdpemcnlejpfaaGreatDoorCards
set_option linter.all false
namespace Go.Proofs.YtjdpemcnlejpfaaGreatDoor
open Go.ChangeShapes Go.WideShapes Go.ChangeAt Go.RowKit Go.Gx
theorem QCM:ownKnob Tryz.prog.godebug=none:=by kernel_rfl
theorem QCq:laidOutB Tryz.prog=true:=by kernel_rfl
theorem QCL(os:Os)(args:Array Value):laidMetH Tryz.prog [("math/bits.deBruijn32tab",Rows.laid_math_bits_deBruijn32tab)] ((World.doorLaid Tryz.prog 400 os).forCall (fun _ _=>0) ⟨#[],args,[]⟩).memory:=
  laidMetH_of_parts3 (fuel:=8) (laidMet_of_run' 8 (by kernel_rfl) (by kernel_rfl)) (by kernel_rfl) (by kernel_rfl)
set_option maxRecDepth 100000 in
theorem QCz(os:Os)(started:os.Started)(H:Type)(enc:TypeId×Value→H):
    ReturnsInHanded {} Tryz.checked os 11 .any (fun w args=>(Rows.factorCyclotomicSpec.pre enc Tryz.prog Tryz.f11 [] false w args∧laidMetH Tryz.prog [("math/bits.deBruijn32tab",Rows.laid_math_bits_deBruijn32tab)] w)∧sizedMet enc Tryz.prog Tryz.f11 (OpenSpec.ofChange Rows.factorCyclotomicSpec) false w args) (Rows.factorCyclotomicSpec.post enc Tryz.prog Tryz.f11 false true false false):=by
  refine returnsInHanded_of_change_and (C:=Tryz.checked) (X:=fun w _=>laidMetH Tryz.prog [("math/bits.deBruijn32tab",Rows.laid_math_bits_deBruijn32tab)] w) (fun _ _ _ hh h=>h.of_heap hh) QCM started (by kernel_rfl) Tryz.func11
    (ChangeSpec.witness_shaped (enc:=enc) (C:=Tryz.checked) (os:=os) (X:=fun w _=>laidMetH Tryz.prog [("math/bits.deBruijn32tab",Rows.laid_math_bits_deBruijn32tab)] w) false (World.doorLaid Tryz.prog 400 os) #[.int .u8 0,.int .i64 0] 8 rfl (World.shaped_of_RefB (by kernel_rfl) (by kernel_rfl)) (by kernel_rfl) (by kernel_rfl) (by kernel_rfl) (QCL os _)) ?_
  intro W base args ds gs before hval0 hW _ _ hL _
  have hval: ∀(j:Nat) t v,Tryz.f11.params[j]? =some t→args[j]? =some v→Value.okWide Tryz.prog W .any base t v:=hval0
  have hW':=hW
  obtain⟨p,q,hA0,hV,rfl,hfz,hnd⟩:=hW
  have hA:DataW.TrodAll enc Tryz.prog W 0 (fun _=>true) true Tryz.f11.params.toList args.toList ds p:=hA0
  rw[Tryz.params11] at hA hval
  obtain⟨v0,vs0,d0,ds0,p0,q0,hargs,rfl,rfl,h0,r0⟩:=trodAll_cons hA
  obtain⟨v1,vs1,d1,ds1,p1,q1,rfl,rfl,rfl,h1,r1⟩:=trodAll_cons r0
  obtain⟨rfl,rfl,rfl⟩:=trodAll_nil r1
  obtain rfl:args= #[v0,v1]:=by cases args;simp_all
  obtain⟨rfl,rfl⟩:=trodVars_none hV
  obtain⟨x0,rfl⟩:=okWide_int Tryz.underlying5 (hval 0 5 v0 rfl rfl)
  obtain⟨x1,rfl⟩:=okWide_int Tryz.underlying3 (hval 1 3 v1 rfl rfl)
  have k0:=h0
  have k1:=h1
  have lt0: ∀x∈p0,x.block<W.heap.size:=by obtain⟨m,hm⟩:=k0;exact DataW.trod_lt m _ _ _ hm
  have lt1: ∀x∈p1,x.block<W.heap.size:=by obtain⟨m,hm⟩:=k1;exact DataW.trod_lt m _ _ _ hm
  obtain⟨y0,rfl,b0⟩: ∃y:Nat,x0=(y:Int)∧y<256:=by obtain⟨fuel,hf⟩:=h0;exact Quh Tryz.underlying5 hf
  have b1: -9223372036854775808≤x1∧x1≤9223372036854775807:=by obtain⟨fuel,hf⟩:=h1;exact QDc Tryz.underlying3 hf
  clear hA0 hval0
  refine(QCO b0 (Qj3 hL)).mono fun e W' ⟨v,he,g,hv,hE,hg⟩=> ?_
  subst he hv hg
  have bel:=hE.below
  exact⟨_,rfl,_,_,_,[],_,[],hW',trodAll_mk1 (shut_bool Tryz.underlying4 _),trodAll_cons_mk (Below.trod QCq (by kernel_rfl) (of_decide_eq_true (by kernel_rfl)) k0 bel lt0) (trodAll_cons_mk (Below.trod QCq (by kernel_rfl) (of_decide_eq_true (by kernel_rfl)) k1 bel lt1) trodAll_mk0),rfl,bel.frame _,fun h=>by cases h⟩
theorem QCR:Rows.factorCyclotomicRow.wf (OpenSpec.ofChange Rows.factorCyclotomicSpec)=true:=by kernel_rfl
theorem QCF:mapsRowed Tryz.prog=true:=by kernel_rfl
theorem QCw:(Rows.factorCyclotomicRow.inPlace==Tryz.prog.inPlace 11)=true:=by kernel_rfl
theorem QCt:(Rows.factorCyclotomicRow.unfollowed==Tryz.prog.unfollowed 11)=true:=by kernel_rfl
theorem QCv:(Rows.factorCyclotomicRow.recurses==Tryz.prog.recurses 11)=true:=by kernel_rfl
theorem QCE:(Rows.factorCyclotomicRow.named==Tryz.prog.varsNamed 11)=true:=by kernel_rfl
theorem QCu:(Rows.factorCyclotomicRow.plainKeys==Tryz.prog.plainKeys)=true:=by kernel_rfl
theorem QCD:Tryz.prog.stopsHeard=true:=by kernel_rfl
theorem QCC:Tryz.prog.mayEnter=true:=by kernel_rfl
theorem QCy:(Rows.factorCyclotomicRow.lifted==Tryz.prog.liftsFinal)=true:=by kernel_rfl
theorem QCH:(Tryz.prog.make==some Rows.factorCyclotomicRow.make)=true:=by kernel_rfl
theorem Xu{a b:Bool}(x:a=true)(y:b=true):(a&&b)=true:=by rw[x,y];rfl
theorem QCx:joinedFacts Tryz.prog 11 Tryz.f11 Rows.factorCyclotomicSpec Rows.factorCyclotomicRow=true:=by unfold joinedFacts;exact(Xu (Xu (Xu (Xu (Xu (Xu (Xu (Xu (Xu (Xu (Xu (Xu (Xu (Xu (Xu (Xu (Xu (Xu (Xu (Xu (Xu (Xu (Xu (Xu (Xu (Xu (Xu (Xu (Xu (Xu (Xu QCR QCq) QCF) (by kernel_rfl)) (by kernel_rfl)) (by kernel_rfl)) (by kernel_rfl)) (by kernel_rfl)) (by kernel_rfl)) QCw) QCt) QCv) QCE) (by kernel_rfl)) (by kernel_rfl)) (by kernel_rfl)) (by kernel_rfl)) (by kernel_rfl)) (by kernel_rfl)) (by kernel_rfl)) (by kernel_rfl)) (by kernel_rfl)) QCu) (by kernel_rfl)) QCD) QCC) QCy) QCH) (by kernel_rfl)) (by kernel_rfl)) (by kernel_rfl)) (by kernel_rfl))
theorem QCA:Tryz.f11.isInstance Tryz.prog Rows.factorCyclotomicRow.origin Rows.factorCyclotomicRow.targs:=of_decide_eq_true (by kernel_rfl)
theorem QCK:Tryz.prog.funcNamed Rows.factorCyclotomicRow.func=some 11:=by kernel_rfl
theorem QCN:Rows.FactorCyclotomicSaid:=
  OpenClaim.holds_of_wide 11 Tryz.f11 rfl rfl rfl rfl rfl rfl rfl ⟨rfl,rfl,rfl,rfl,rfl⟩ rfl rfl rfl rfl rfl QCK Tryz.func11 QCx
    QCA (by unfold Func.isWrapper;first | (rw[if_pos (by decide+kernel)];kernel_rfl)| (rw[if_neg (by decide+kernel)];exact⟨rfl,rfl⟩))
    (fun os started H enc _=>QCz os started H enc)
theorem cyclotomic_holds:Rows.FactorCyclotomicCardSaid:=
  Claim7.holds_tied_plain_at .later [] [.data] true (true, "e714b9fd499034b9678e4dff6b0ef337c50f450e99089250cfd49241dc3ba423") false QCN (fun _ h=>by cases h) (by kernel_rfl) (fun _ h=>by cases h) factorCyclotomic_row_tie rfl ⟨rfl,rfl⟩ (by kernel_rfl) rfl
    (fun f fn hf hfn=>by
      obtain rfl:f=11:=Option.some.inj ((show Tryz.prog.funcNamed "cylinder/cylinderlaw13.FactorCyclotomic" =some 11 by kernel_rfl).symm.trans hf)|>.symm
      obtain rfl:fn=Tryz.f11:=(Option.some.inj (Tryz.func11.symm.trans hfn)).symm
      exact⟨by kernel_rfl,fun j t ht=>by
        rw[Tryz.params11] at ht
        have hm:t∈[5,3]:=by simpa using Array.mem_of_getElem? ht
        have hall:([5,3].all fun u=> !Tryz.prog.wantsStandIn u)=true:=by kernel_rfl
        exact(show Tryz.prog.wantsStandIn t=false by simpa using List.all_eq_true.1 hall t hm)⟩)
    (by kernel_rfl)
#print axioms cyclotomic_holds
end Go.Proofs.YtjdpemcnlejpfaaGreatDoor
