/-
  FactorRoots: for every list of pairs and every polynomial the law returns true: the rational roots are those of the linear factors, in ascending order. No condition.
-/
import Derived.Test.YtjdpemcnlejpfaaGreatDoorG9
import Derived.Test.YtjdpemcnlejpfaaGreatDoorOpen
import Derived.Test.YtjdpemcnlejpfaaGreatDoorRT
import Derived.Test.YtjdpemcnlejpfaaGreatDoorRows
import Derived.ProofKit
import Derived.OpenShut
import Derived.ChangeOld
import Derived.Below
import Derived.LaidMore
import Derived.Stop.Joined
import Derived.SevenTiedAt
import Derived.Test.YtjdpemcnlejpfaaGreatDoorTie
import Derived.Test.YtjdpemcnlejpfaaGreatDoorCards
set_option linter.all false
namespace Go.Proofs.YtjdpemcnlejpfaaGreatDoor
open Go.ChangeShapes Go.WideShapes Go.ChangeAt Go.RowKit Go.Gx
theorem QES:ownKnob Tryz.prog.godebug=none:=by kernel_rfl
theorem QDZ:laidOutB Tryz.prog=true:=by kernel_rfl
theorem QEF{H:Type}{enc:TypeId×Value→H}{w:World}{base:Nat}{spare:Nat→Bool}{held:Bool}{fuel:Nat}{A:Option Addr}{n c:Nat}{x:DataW H×List MemPlace}
    (h:DataW.trod enc Tryz.prog w base spare held fuel 30 [.slice A n c]=some x): ∃l,Yk w (fun _=>True) A n c l 9223372036854775807:=
  Qy5 Tryz.underlying30 Tryz.underlying25 (tb:=4) (tn:=23) (tu:=46) ⟨rfl,rfl,by kernel_rfl,Tryz.underlying4⟩ ⟨rfl,rfl,by kernel_rfl,Tryz.underlying23⟩ ⟨Tryz.underlying46,by kernel_rfl⟩ (by kernel_rfl) h
theorem QER(os:Os)(args:Array Value):laidMetH Tryz.prog [("math/bits.deBruijn32tab",Rows.laid_math_bits_deBruijn32tab)] ((World.doorLaid Tryz.prog 400 os).forCall (fun _ _=>0) ⟨#[],args,[]⟩).memory:=
  laidMetH_of_parts3 (fuel:=8) (laidMet_of_run' 8 (by kernel_rfl) (by kernel_rfl)) (by kernel_rfl) (by kernel_rfl)
set_option maxRecDepth 100000 in
theorem QEl(os:Os)(started:os.Started)(H:Type)(enc:TypeId×Value→H):
    ReturnsInHanded {} Tryz.checked os 12 .any (fun w args=>(Rows.factorRootsSpec.pre enc Tryz.prog Tryz.f12 [] false w args∧laidMetH Tryz.prog [("math/bits.deBruijn32tab",Rows.laid_math_bits_deBruijn32tab)] w)∧sizedMet enc Tryz.prog Tryz.f12 (OpenSpec.ofChange Rows.factorRootsSpec) false w args) (Rows.factorRootsSpec.post enc Tryz.prog Tryz.f12 false true false false):=by
  refine returnsInHanded_of_change_and (C:=Tryz.checked) (X:=fun w _=>laidMetH Tryz.prog [("math/bits.deBruijn32tab",Rows.laid_math_bits_deBruijn32tab)] w) (fun _ _ _ hh h=>h.of_heap hh) QES started (by kernel_rfl) Tryz.func12
    (ChangeSpec.witness_shaped (enc:=enc) (C:=Tryz.checked) (os:=os) (X:=fun w _=>laidMetH Tryz.prog [("math/bits.deBruijn32tab",Rows.laid_math_bits_deBruijn32tab)] w) false (World.doorLaid Tryz.prog 400 os) #[.slice none 0 0,.slice none 0 0] 8 rfl (World.shaped_of_RefB (by kernel_rfl) (by kernel_rfl)) (by kernel_rfl) (by kernel_rfl) (by kernel_rfl) (QER os _)) ?_
  intro W base args ds gs before hval0 hW _ _ hL _
  have hval: ∀(j:Nat) t v,Tryz.f12.params[j]? =some t→args[j]? =some v→Value.okWide Tryz.prog W .any base t v:=hval0
  have hW':=hW
  obtain⟨p,q,hA0,hV,rfl,hfz,hnd⟩:=hW
  have hA:DataW.TrodAll enc Tryz.prog W 0 (fun _=>true) true Tryz.f12.params.toList args.toList ds p:=hA0
  rw[Tryz.params12] at hA hval
  obtain⟨v0,vs0,d0,ds0,p0,q0,hargs,rfl,rfl,h0,r0⟩:=trodAll_cons hA
  obtain⟨v1,vs1,d1,ds1,p1,q1,rfl,rfl,rfl,h1,r1⟩:=trodAll_cons r0
  obtain⟨rfl,rfl,rfl⟩:=trodAll_nil r1
  obtain rfl:args= #[v0,v1]:=by cases args;simp_all
  obtain⟨rfl,rfl⟩:=trodVars_none hV
  obtain⟨A0,n0,c0,rfl⟩:=okWide_slice Tryz.underlying77 (hval 0 77 v0 rfl rfl)
  obtain⟨A1,n1,c1,rfl⟩:=okWide_slice Tryz.underlying30 (hval 1 30 v1 rfl rfl)
  have k0:=h0
  have k1:=h1
  have lt0: ∀x∈p0,x.block<W.heap.size:=by obtain⟨m,hm⟩:=k0;exact DataW.trod_lt m _ _ _ hm
  have lt1: ∀x∈p1,x.block<W.heap.size:=by obtain⟨m,hm⟩:=k1;exact DataW.trod_lt m _ _ _ hm
  obtain⟨ps0,w0⟩: ∃l,QEZ W (fun _=>True) A0 n0 c0 l:=by obtain⟨fuel,hf⟩:=h0;exact QED Tryz.underlying77 Tryz.underlying79 Tryz.underlying78 (by kernel_rfl) (by kernel_rfl) hf
  obtain⟨l1,w1⟩: ∃l,Yk W (fun _=>True) A1 n1 c1 l 9223372036854775807:=by obtain⟨fuel,hf⟩:=h1;exact QEF hf
  clear hA0 hval0
  refine(QEU w0 w1 (Qj3 hL)).mono fun e W' ⟨v,he,g,hv,hE,hg⟩=> ?_
  subst he hv hg
  have bel:=hE.below
  exact⟨_,rfl,_,_,_,[],_,[],hW',trodAll_mk1 (shut_bool Tryz.underlying4 _),trodAll_cons_mk (Below.trod QDZ (by kernel_rfl) (of_decide_eq_true (by kernel_rfl)) k0 bel lt0) (trodAll_cons_mk (Below.trod QDZ (by kernel_rfl) (of_decide_eq_true (by kernel_rfl)) k1 bel lt1) trodAll_mk0),rfl,bel.frame _,fun h=>by cases h⟩
theorem QE6:Rows.factorRootsRow.wf (OpenSpec.ofChange Rows.factorRootsSpec)=true:=by kernel_rfl
theorem QEw:mapsRowed Tryz.prog=true:=by kernel_rfl
theorem QEf:(Rows.factorRootsRow.inPlace==Tryz.prog.inPlace 12)=true:=by kernel_rfl
theorem QD3:(Rows.factorRootsRow.unfollowed==Tryz.prog.unfollowed 12)=true:=by kernel_rfl
theorem QEa:(Rows.factorRootsRow.recurses==Tryz.prog.recurses 12)=true:=by kernel_rfl
theorem QEv:(Rows.factorRootsRow.named==Tryz.prog.varsNamed 12)=true:=by kernel_rfl
theorem QD7:(Rows.factorRootsRow.plainKeys==Tryz.prog.plainKeys)=true:=by kernel_rfl
theorem QEu:Tryz.prog.stopsHeard=true:=by kernel_rfl
theorem QEt:Tryz.prog.mayEnter=true:=by kernel_rfl
theorem QEk:(Rows.factorRootsRow.lifted==Tryz.prog.liftsFinal)=true:=by kernel_rfl
theorem QEE:(Tryz.prog.make==some Rows.factorRootsRow.make)=true:=by kernel_rfl
theorem Xu{a b:Bool}(x:a=true)(y:b=true):(a&&b)=true:=by rw[x,y];rfl
theorem QEj:joinedFacts Tryz.prog 12 Tryz.f12 Rows.factorRootsSpec Rows.factorRootsRow=true:=by unfold joinedFacts;exact(Xu (Xu (Xu (Xu (Xu (Xu (Xu (Xu (Xu (Xu (Xu (Xu (Xu (Xu (Xu (Xu (Xu (Xu (Xu (Xu (Xu (Xu (Xu (Xu (Xu (Xu (Xu (Xu (Xu (Xu (Xu QE6 QDZ) QEw) (by kernel_rfl)) (by kernel_rfl)) (by kernel_rfl)) (by kernel_rfl)) (by kernel_rfl)) (by kernel_rfl)) QEf) QD3) QEa) QEv) (by kernel_rfl)) (by kernel_rfl)) (by kernel_rfl)) (by kernel_rfl)) (by kernel_rfl)) (by kernel_rfl)) (by kernel_rfl)) (by kernel_rfl)) (by kernel_rfl)) QD7) (by kernel_rfl)) QEu) QEt) QEk) QEE) (by kernel_rfl)) (by kernel_rfl)) (by kernel_rfl)) (by kernel_rfl))
theorem QEm:Tryz.f12.isInstance Tryz.prog Rows.factorRootsRow.origin Rows.factorRootsRow.targs:=of_decide_eq_true (by kernel_rfl)
theorem QEQ:Tryz.prog.funcNamed Rows.factorRootsRow.func=some 12:=by kernel_rfl
theorem QET:Rows.FactorRootsSaid:=
  OpenClaim.holds_of_wide 12 Tryz.f12 rfl rfl rfl rfl rfl rfl rfl ⟨rfl,rfl,rfl,rfl,rfl⟩ rfl rfl rfl rfl rfl QEQ Tryz.func12 QEj
    QEm (by unfold Func.isWrapper;first | (rw[if_pos (by decide+kernel)];kernel_rfl)| (rw[if_neg (by decide+kernel)];exact⟨rfl,rfl⟩))
    (fun os started H enc _=>QEl os started H enc)
theorem roots_holds:Rows.FactorRootsCardSaid:=
  Claim7.holds_tied_plain_at .later [] [.data] true (true, "e714b9fd499034b9678e4dff6b0ef337c50f450e99089250cfd49241dc3ba423") false QET (fun _ h=>by cases h) (by as_aux_lemma=>kernel_rfl) (fun _ h=>by cases h) factorRoots_row_tie rfl ⟨rfl,rfl⟩ (by as_aux_lemma=>kernel_rfl) rfl
    (fun f fn hf hfn=>by
      obtain rfl:f=12:=Option.some.inj ((show Tryz.prog.funcNamed "cylinder/cylinderlaw13.FactorRoots" =some 12 by as_aux_lemma=>kernel_rfl).symm.trans hf)|>.symm
      obtain rfl:fn=Tryz.f12:=(Option.some.inj (Tryz.func12.symm.trans hfn)).symm
      exact⟨by as_aux_lemma=>kernel_rfl,fun j t ht=>by
        rw[Tryz.params12] at ht
        have hm:t∈[77,30]:=by simpa using Array.mem_of_getElem? ht
        have hall:([77,30].all fun u=> !Tryz.prog.wantsStandIn u)=true:=by as_aux_lemma=>kernel_rfl
        exact(show Tryz.prog.wantsStandIn t=false by simpa using List.all_eq_true.1 hall t hm)⟩)
    (by as_aux_lemma=>kernel_rfl)
#print axioms roots_holds
end Go.Proofs.YtjdpemcnlejpfaaGreatDoor
