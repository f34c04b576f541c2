/-
  FactorModular: for every two polynomials and every number the law returns true: what is irreducible modulo a prime is irreducible, a product is not. No condition.
-/
import Derived.Test.YtjdpemcnlejpfaaGreatDoorG4
import Derived.Test.YtjdpemcnlejpfaaGreatDoorOpen
import Derived.Test.YtjdpemcnlejpfaaGreatDoorOpen16
import Derived.Test.YtjdpemcnlejpfaaGreatDoorRT
import Derived.Test.YtjdpemcnlejpfaaGreatDoorRows
import Derived.ProofKit
import Derived.OpenShut
import Derived.ChangeOld
import Derived.Below
import Derived.LaidMore
import Derived.Stop.Joined
import Derived.SevenTiedAt
import Derived.Test.YtjdpemcnlejpfaaGreatDoorTie
import Derived.Test.YtjdpemcnlejpfaaGreatDoorCards
set_option linter.all false
namespace Go.Proofs.YtjdpemcnlejpfaaGreatDoor
open Go.ChangeShapes Go.WideShapes Go.ChangeAt Go.RowKit Go.Gx
theorem QAi:ownKnob Tryz.prog.godebug=none:=by kernel_rfl
theorem Qy3:laidOutB Tryz.prog=true:=by kernel_rfl
theorem Qzf{H:Type}{enc:TypeId×Value→H}{w:World}{base:Nat}{spare:Nat→Bool}{held:Bool}{fuel:Nat}{A:Option Addr}{n c:Nat}{x:DataW H×List MemPlace}
    (h:DataW.trod enc Tryz.prog w base spare held fuel 30 [.slice A n c]=some x): ∃l,Yk w (fun _=>True) A n c l 9223372036854775807:=
  Qy5 Tryz.underlying30 Tryz.underlying25 (tb:=4) (tn:=23) (tu:=46) ⟨rfl,rfl,by kernel_rfl,Tryz.underlying4⟩ ⟨rfl,rfl,by kernel_rfl,Tryz.underlying23⟩ ⟨Tryz.underlying46,by kernel_rfl⟩ (by kernel_rfl) h
theorem QAh(os:Os)(args:Array Value):laidMetH Tryz.prog [("math/bits.deBruijn32tab",Rows.laid_math_bits_deBruijn32tab)] ((World.doorLaid Tryz.prog 400 os).forCall (fun _ _=>0) ⟨#[],args,[]⟩).memory:=
  laidMetH_of_parts3 (fuel:=8) (laidMet_of_run' 8 (by kernel_rfl) (by kernel_rfl)) (by kernel_rfl) (by kernel_rfl)
set_option maxRecDepth 100000 in
theorem Qzx(os:Os)(started:os.Started)(H:Type)(enc:TypeId×Value→H):
    ReturnsInHanded {} Tryz.checked os 9 .any (fun w args=>(Rows.factorModularSpec.pre enc Tryz.prog Tryz.f9 [] false w args∧laidMetH Tryz.prog [("math/bits.deBruijn32tab",Rows.laid_math_bits_deBruijn32tab)] w)∧sizedMet enc Tryz.prog Tryz.f9 (OpenSpec.ofChange Rows.factorModularSpec) false w args) (Rows.factorModularSpec.post enc Tryz.prog Tryz.f9 false true false false):=by
  refine returnsInHanded_of_change_and (C:=Tryz.checked) (X:=fun w _=>laidMetH Tryz.prog [("math/bits.deBruijn32tab",Rows.laid_math_bits_deBruijn32tab)] w) (fun _ _ _ hh h=>h.of_heap hh) QAi started (by kernel_rfl) Tryz.func9
    (ChangeSpec.witness_shaped (enc:=enc) (C:=Tryz.checked) (os:=os) (X:=fun w _=>laidMetH Tryz.prog [("math/bits.deBruijn32tab",Rows.laid_math_bits_deBruijn32tab)] w) false (World.doorLaid Tryz.prog 400 os) #[.slice none 0 0,.slice none 0 0,.int .u8 0] 8 rfl (World.shaped_of_RefB (by kernel_rfl) (by kernel_rfl)) (by kernel_rfl) (by kernel_rfl) (by kernel_rfl) (QAh os _)) ?_
  intro W base args ds gs before hval0 hW _ _ hL _
  have hval: ∀(j:Nat) t v,Tryz.f9.params[j]? =some t→args[j]? =some v→Value.okWide Tryz.prog W .any base t v:=hval0
  have hW':=hW
  obtain⟨p,q,hA0,hV,rfl,hfz,hnd⟩:=hW
  have hA:DataW.TrodAll enc Tryz.prog W 0 (fun _=>true) true Tryz.f9.params.toList args.toList ds p:=hA0
  rw[Tryz.params9] at hA hval
  obtain⟨v0,vs0,d0,ds0,p0,q0,hargs,rfl,rfl,h0,r0⟩:=trodAll_cons hA
  obtain⟨v1,vs1,d1,ds1,p1,q1,rfl,rfl,rfl,h1,r1⟩:=trodAll_cons r0
  obtain⟨v2,vs2,d2,ds2,p2,q2,rfl,rfl,rfl,h2,r2⟩:=trodAll_cons r1
  obtain⟨rfl,rfl,rfl⟩:=trodAll_nil r2
  obtain rfl:args= #[v0,v1,v2]:=by cases args;simp_all
  obtain⟨rfl,rfl⟩:=trodVars_none hV
  obtain⟨A0,n0,c0,rfl⟩:=okWide_slice Tryz.underlying30 (hval 0 30 v0 rfl rfl)
  obtain⟨A1,n1,c1,rfl⟩:=okWide_slice Tryz.underlying30 (hval 1 30 v1 rfl rfl)
  obtain⟨x2,rfl⟩:=okWide_int Tryz.underlying5 (hval 2 5 v2 rfl rfl)
  have k0:=h0
  have k1:=h1
  have k2:=h2
  have lt0: ∀x∈p0,x.block<W.heap.size:=by obtain⟨m,hm⟩:=k0;exact DataW.trod_lt m _ _ _ hm
  have lt1: ∀x∈p1,x.block<W.heap.size:=by obtain⟨m,hm⟩:=k1;exact DataW.trod_lt m _ _ _ hm
  have lt2: ∀x∈p2,x.block<W.heap.size:=by obtain⟨m,hm⟩:=k2;exact DataW.trod_lt m _ _ _ hm
  obtain⟨l0,w0⟩: ∃l,Yk W (fun _=>True) A0 n0 c0 l 9223372036854775807:=by obtain⟨fuel,hf⟩:=h0;exact Qzf hf
  obtain⟨l1,w1⟩: ∃l,Yk W (fun _=>True) A1 n1 c1 l 9223372036854775807:=by obtain⟨fuel,hf⟩:=h1;exact Qzf hf
  obtain⟨y2,rfl,b2⟩: ∃y:Nat,x2=(y:Int)∧y<256:=by obtain⟨fuel,hf⟩:=h2;exact Quh Tryz.underlying5 hf
  clear hA0 hval0
  refine(QAp w0 w1 b2 (Qj3 hL)).mono fun e W' ⟨v,he,g,hv,hE,hg⟩=> ?_
  subst he hv hg
  have bel:=hE.below
  exact⟨_,rfl,_,_,_,[],_,[],hW',trodAll_mk1 (shut_bool Tryz.underlying4 _),trodAll_cons_mk (Below.trod Qy3 (by kernel_rfl) (of_decide_eq_true (by kernel_rfl)) k0 bel lt0) (trodAll_cons_mk (Below.trod Qy3 (by kernel_rfl) (of_decide_eq_true (by kernel_rfl)) k1 bel lt1) (trodAll_cons_mk (Below.trod Qy3 (by kernel_rfl) (of_decide_eq_true (by kernel_rfl)) k2 bel lt2) trodAll_mk0)),rfl,bel.frame _,fun h=>by cases h⟩
theorem QAE:Rows.factorModularRow.wf (OpenSpec.ofChange Rows.factorModularSpec)=true:=by kernel_rfl
theorem QzL:mapsRowed Tryz.prog=true:=by kernel_rfl
theorem Qzo:(Rows.factorModularRow.inPlace==Tryz.prog.inPlace 9)=true:=by kernel_rfl
theorem Qy9:(Rows.factorModularRow.unfollowed==Tryz.prog.unfollowed 9)=true:=by kernel_rfl
theorem Qzh:(Rows.factorModularRow.recurses==Tryz.prog.recurses 9)=true:=by kernel_rfl
theorem QzK:(Rows.factorModularRow.named==Tryz.prog.varsNamed 9)=true:=by kernel_rfl
theorem Qzd:(Rows.factorModularRow.plainKeys==Tryz.prog.plainKeys)=true:=by kernel_rfl
theorem QzJ:Tryz.prog.stopsHeard=true:=by kernel_rfl
theorem QzI:Tryz.prog.mayEnter=true:=by kernel_rfl
theorem Qzw:(Rows.factorModularRow.lifted==Tryz.prog.liftsFinal)=true:=by kernel_rfl
theorem QzX:(Tryz.prog.make==some Rows.factorModularRow.make)=true:=by kernel_rfl
theorem Xu{a b:Bool}(x:a=true)(y:b=true):(a&&b)=true:=by rw[x,y];rfl
theorem Qzv:joinedFacts Tryz.prog 9 Tryz.f9 Rows.factorModularSpec Rows.factorModularRow=true:=by unfold joinedFacts;exact(Xu (Xu (Xu (Xu (Xu (Xu (Xu (Xu (Xu (Xu (Xu (Xu (Xu (Xu (Xu (Xu (Xu (Xu (Xu (Xu (Xu (Xu (Xu (Xu (Xu (Xu (Xu (Xu (Xu (Xu (Xu QAE Qy3) QzL) (by kernel_rfl)) (by kernel_rfl)) (by kernel_rfl)) (by kernel_rfl)) (by kernel_rfl)) (by kernel_rfl)) Qzo) Qy9) Qzh) QzK) (by kernel_rfl)) (by kernel_rfl)) (by kernel_rfl)) (by kernel_rfl)) (by kernel_rfl)) (by kernel_rfl)) (by kernel_rfl)) (by kernel_rfl)) (by kernel_rfl)) Qzd) (by kernel_rfl)) QzJ) QzI) Qzw) QzX) (by kernel_rfl)) (by kernel_rfl)) (by kernel_rfl)) (by kernel_rfl))
theorem Qzy:Tryz.f9.isInstance Tryz.prog Rows.factorModularRow.origin Rows.factorModularRow.targs:=of_decide_eq_true (by kernel_rfl)
theorem QAg:Tryz.prog.funcNamed Rows.factorModularRow.func=some 9:=by kernel_rfl
theorem QAj:Rows.FactorModularSaid:=
  OpenClaim.holds_of_wide 9 Tryz.f9 rfl rfl rfl rfl rfl rfl rfl ⟨rfl,rfl,rfl,rfl,rfl⟩ rfl rfl rfl rfl rfl QAg Tryz.func9 Qzv
    Qzy (by unfold Func.isWrapper;first | (rw[if_pos (by decide+kernel)];kernel_rfl)| (rw[if_neg (by decide+kernel)];exact⟨rfl,rfl⟩))
    (fun os started H enc _=>Qzx os started H enc)
theorem modular_holds:Rows.FactorModularCardSaid:=
  Claim7.holds_tied_plain_at .later [] [.data] true (true, "e714b9fd499034b9678e4dff6b0ef337c50f450e99089250cfd49241dc3ba423") false QAj (fun _ h=>by cases h) (by kernel_rfl) (fun _ h=>by cases h) factorModular_row_tie rfl ⟨rfl,rfl⟩ (by kernel_rfl) rfl
    (fun f fn hf hfn=>by
      obtain rfl:f=9:=Option.some.inj ((show Tryz.prog.funcNamed "cylinder/cylinderlaw13.FactorModular" =some 9 by kernel_rfl).symm.trans hf)|>.symm
      obtain rfl:fn=Tryz.f9:=(Option.some.inj (Tryz.func9.symm.trans hfn)).symm
      exact⟨by kernel_rfl,fun j t ht=>by
        rw[Tryz.params9] at ht
        have hm:t∈[30,30,5]:=by simpa using Array.mem_of_getElem? ht
        have hall:([30,30,5].all fun u=> !Tryz.prog.wantsStandIn u)=true:=by kernel_rfl
        exact(show Tryz.prog.wantsStandIn t=false by simpa using List.all_eq_true.1 hall t hm)⟩)
    (by kernel_rfl)
#print axioms modular_holds
end Go.Proofs.YtjdpemcnlejpfaaGreatDoor
