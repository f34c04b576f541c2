/-
  FactorEisenstein: for every list of int16 and every number the law returns true.
-/
import Derived.Test.YtjdpemcnlejpfaaGreatDoorF14
import Derived.Test.YtjdpemcnlejpfaaGreatDoorOpen
import Derived.Test.YtjdpemcnlejpfaaGreatDoorOpen16
import Derived.Test.YtjdpemcnlejpfaaGreatDoorRT
import Derived.Test.YtjdpemcnlejpfaaGreatDoorRows
import Derived.ProofKit
import Derived.OpenShut
import Derived.ChangeOld
import Derived.Below
import Derived.LaidMore
import Derived.Stop.Joined
import Derived.SevenTiedAt
import Derived.Test.YtjdpemcnlejpfaaGreatDoorTie
import Derived.Test.YtjdpemcnlejpfaaGreatDoorCards
set_option linter.all false
namespace Go.Proofs.YtjdpemcnlejpfaaGreatDoor
open Go.ChangeShapes Go.WideShapes Go.ChangeAt Go.RowKit Go.Gx
theorem QfR:ownKnob Tryz.prog.godebug=none:=by kernel_rfl
theorem ZI:laidOutB Tryz.prog=true:=by kernel_rfl
theorem QfQ(os:Os)(args:Array Value):laidMetH Tryz.prog [("math/bits.deBruijn32tab",Rows.laid_math_bits_deBruijn32tab)] ((World.doorLaid Tryz.prog 400 os).forCall (fun _ _=>0) ⟨#[],args,[]⟩).memory:=
  laidMetH_of_parts3 (fuel:=8) (laidMet_of_run' 8 (by kernel_rfl) (by kernel_rfl)) (by kernel_rfl) (by kernel_rfl)
set_option maxRecDepth 100000 in
theorem QdL(os:Os)(started:os.Started)(H:Type)(enc:TypeId×Value→H):
    ReturnsInHanded {} Tryz.checked os 4 .any (fun w args=>(Rows.factorEisensteinSpec.pre enc Tryz.prog Tryz.f4 [] false w args∧laidMetH Tryz.prog [("math/bits.deBruijn32tab",Rows.laid_math_bits_deBruijn32tab)] w)∧sizedMet enc Tryz.prog Tryz.f4 (OpenSpec.ofChange Rows.factorEisensteinSpec) false w args) (Rows.factorEisensteinSpec.post enc Tryz.prog Tryz.f4 false true false false):=by
  refine returnsInHanded_of_change_and (C:=Tryz.checked) (X:=fun w _=>laidMetH Tryz.prog [("math/bits.deBruijn32tab",Rows.laid_math_bits_deBruijn32tab)] w) (fun _ _ _ hh h=>h.of_heap hh) QfR started (by kernel_rfl) Tryz.func4
    (ChangeSpec.witness_shaped (enc:=enc) (C:=Tryz.checked) (os:=os) (X:=fun w _=>laidMetH Tryz.prog [("math/bits.deBruijn32tab",Rows.laid_math_bits_deBruijn32tab)] w) false (World.doorLaid Tryz.prog 400 os) #[.slice none 0 0,.int .u8 0] 8 rfl (World.shaped_of_RefB (by kernel_rfl) (by kernel_rfl)) (by kernel_rfl) (by kernel_rfl) (by kernel_rfl) (QfQ os _)) ?_
  intro W base args ds gs before hval0 hW _ _ hL _
  have hval: ∀(j:Nat) t v,Tryz.f4.params[j]? =some t→args[j]? =some v→Value.okWide Tryz.prog W .any base t v:=hval0
  have hW':=hW
  obtain⟨p,q,hA0,hV,rfl,hfz,hnd⟩:=hW
  have hA:DataW.TrodAll enc Tryz.prog W 0 (fun _=>true) true Tryz.f4.params.toList args.toList ds p:=hA0
  rw[Tryz.params4] at hA hval
  obtain⟨v0,vs0,d0,ds0,p0,q0,hargs,rfl,rfl,h0,r0⟩:=trodAll_cons hA
  obtain⟨v1,vs1,d1,ds1,p1,q1,rfl,rfl,rfl,h1,r1⟩:=trodAll_cons r0
  obtain⟨rfl,rfl,rfl⟩:=trodAll_nil r1
  obtain rfl:args= #[v0,v1]:=by cases args;simp_all
  obtain⟨rfl,rfl⟩:=trodVars_none hV
  obtain⟨A0,n0,c0,rfl⟩:=okWide_slice Tryz.underlying45 (hval 0 45 v0 rfl rfl)
  obtain⟨x1,rfl⟩:=okWide_int Tryz.underlying5 (hval 1 5 v1 rfl rfl)
  have k0:=h0
  have k1:=h1
  have lt0: ∀x∈p0,x.block<W.heap.size:=by obtain⟨m,hm⟩:=k0;exact DataW.trod_lt m _ _ _ hm
  have lt1: ∀x∈p1,x.block<W.heap.size:=by obtain⟨m,hm⟩:=k1;exact DataW.trod_lt m _ _ _ hm
  obtain⟨xs0,w0⟩: ∃xs,QfK W (fun _=>True) A0 n0 c0 xs:=by obtain⟨fuel,hf⟩:=h0;obtain⟨_,_,_,xs,he,h⟩:=QqG Tryz.underlying45 Tryz.underlying48 (by kernel_rfl) hf;cases he;exact⟨xs,h⟩
  obtain⟨y1,rfl,b1⟩: ∃y:Nat,x1=(y:Int)∧y<256:=by obtain⟨fuel,hf⟩:=h1;exact Quh Tryz.underlying5 hf
  clear hA0 hval0
  refine(QfX w0 b1 (Qj3 hL)).mono fun e W' ⟨v,he,g,hv,hE,hg⟩=> ?_
  subst he hv hg
  have bel:=hE.below
  exact⟨_,rfl,_,_,_,[],_,[],hW',trodAll_mk1 (shut_bool Tryz.underlying4 _),trodAll_cons_mk (Below.trod ZI (by kernel_rfl) (of_decide_eq_true (by kernel_rfl)) k0 bel lt0) (trodAll_cons_mk (Below.trod ZI (by kernel_rfl) (of_decide_eq_true (by kernel_rfl)) k1 bel lt1) trodAll_mk0),rfl,bel.frame _,fun h=>by cases h⟩
theorem Qg3:Rows.factorEisensteinRow.wf (OpenSpec.ofChange Rows.factorEisensteinSpec)=true:=by kernel_rfl
theorem Qei:mapsRowed Tryz.prog=true:=by kernel_rfl
theorem Qc3:(Rows.factorEisensteinRow.inPlace==Tryz.prog.inPlace 4)=true:=by kernel_rfl
theorem QbQ:(Rows.factorEisensteinRow.unfollowed==Tryz.prog.unfollowed 4)=true:=by kernel_rfl
theorem QcE:(Rows.factorEisensteinRow.recurses==Tryz.prog.recurses 4)=true:=by kernel_rfl
theorem Qeh:(Rows.factorEisensteinRow.named==Tryz.prog.varsNamed 4)=true:=by kernel_rfl
theorem Qcq:(Rows.factorEisensteinRow.plainKeys==Tryz.prog.plainKeys)=true:=by kernel_rfl
theorem Qeg:Tryz.prog.stopsHeard=true:=by kernel_rfl
theorem Qef:Tryz.prog.mayEnter=true:=by kernel_rfl
theorem QdK:(Rows.factorEisensteinRow.lifted==Tryz.prog.liftsFinal)=true:=by kernel_rfl
theorem Qe6:(Tryz.prog.make==some Rows.factorEisensteinRow.make)=true:=by kernel_rfl
theorem Xu{a b:Bool}(x:a=true)(y:b=true):(a&&b)=true:=by rw[x,y];rfl
theorem QdJ:joinedFacts Tryz.prog 4 Tryz.f4 Rows.factorEisensteinSpec Rows.factorEisensteinRow=true:=by unfold joinedFacts;exact(Xu (Xu (Xu (Xu (Xu (Xu (Xu (Xu (Xu (Xu (Xu (Xu (Xu (Xu (Xu (Xu (Xu (Xu (Xu (Xu (Xu (Xu (Xu (Xu (Xu (Xu (Xu (Xu (Xu (Xu (Xu Qg3 ZI) Qei) (by kernel_rfl)) (by kernel_rfl)) (by kernel_rfl)) (by kernel_rfl)) (by kernel_rfl)) (by kernel_rfl)) Qc3) QbQ) QcE) Qeh) (by kernel_rfl)) (by kernel_rfl)) (by kernel_rfl)) (by kernel_rfl)) (by kernel_rfl)) (by kernel_rfl)) (by kernel_rfl)) (by kernel_rfl)) (by kernel_rfl)) Qcq) (by kernel_rfl)) Qeg) Qef) QdK) Qe6) (by kernel_rfl)) (by kernel_rfl)) (by kernel_rfl)) (by kernel_rfl))
theorem QdM:Tryz.f4.isInstance Tryz.prog Rows.factorEisensteinRow.origin Rows.factorEisensteinRow.targs:=of_decide_eq_true (by kernel_rfl)
theorem QfP:Tryz.prog.funcNamed Rows.factorEisensteinRow.func=some 4:=by kernel_rfl
theorem QfS:Rows.FactorEisensteinSaid:=
  OpenClaim.holds_of_wide 4 Tryz.f4 rfl rfl rfl rfl rfl rfl rfl ⟨rfl,rfl,rfl,rfl,rfl⟩ rfl rfl rfl rfl rfl QfP Tryz.func4 QdJ
    QdM (by unfold Func.isWrapper;first | (rw[if_pos (by decide+kernel)];kernel_rfl)| (rw[if_neg (by decide+kernel)];exact⟨rfl,rfl⟩))
    (fun os started H enc _=>QdL os started H enc)
theorem eisenstein_holds:Rows.FactorEisensteinCardSaid:=
  Claim7.holds_tied_plain_at .later [] [.data] true (true, "e714b9fd499034b9678e4dff6b0ef337c50f450e99089250cfd49241dc3ba423") false QfS (fun _ h=>by cases h) (by kernel_rfl) (fun _ h=>by cases h) factorEisenstein_row_tie rfl ⟨rfl,rfl⟩ (by kernel_rfl) rfl
    (fun f fn hf hfn=>by
      obtain rfl:f=4:=Option.some.inj ((show Tryz.prog.funcNamed "cylinder/cylinderlaw13.FactorEisenstein" =some 4 by kernel_rfl).symm.trans hf)|>.symm
      obtain rfl:fn=Tryz.f4:=(Option.some.inj (Tryz.func4.symm.trans hfn)).symm
      exact⟨by kernel_rfl,fun j t ht=>by
        rw[Tryz.params4] at ht
        have hm:t∈[45,5]:=by simpa using Array.mem_of_getElem? ht
        have hall:([45,5].all fun u=> !Tryz.prog.wantsStandIn u)=true:=by kernel_rfl
        exact(show Tryz.prog.wantsStandIn t=false by simpa using List.all_eq_true.1 hall t hm)⟩)
    (by kernel_rfl)
#print axioms eisenstein_holds
end Go.Proofs.YtjdpemcnlejpfaaGreatDoor
