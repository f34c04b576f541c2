/-
  The law HenselReturns holds: the factors of a product of monic integer polynomials that are coprime modulo the prime are found again.
-/
import Derived.Test.YtneolcopompkaaaGreatDoorRows
import Derived.Test.YtneolcopompkaaaGreatDoorLaw12d
import Derived.Test.YtneolcopompkaaaGreatDoorLibC
import Derived.ProofKit
import Derived.OpenShut
import Derived.ChangeOld
import Derived.Below
import Derived.LaidMore
import Derived.Stop.Joined
import Derived.SevenTiedAt
import Derived.Test.YtneolcopompkaaaGreatDoorTie
import Derived.Test.YtneolcopompkaaaGreatDoorCards
namespace Go.Proofs.YtneolcopompkaaaGreatDoor
open Go.ChangeShapes Go.WideShapes Go.ChangeAt Go.RowKit Go.Gx
theorem returns_own : ownKnob Tryz.prog.godebug = none := by kernel_rfl
theorem returns_laidOut : laidOutB Tryz.prog = true := by kernel_rfl
theorem returns_int {H : Type} {enc : TypeId × Value → H} {w : World} {base : Nat} {spare : Nat → Bool} {held : Bool} {fuel : Nat} {cs : Array Value} {x : DataW H × List MemPlace}
  (hs : cs.size = 2) (h : DataW.trod enc Tryz.prog w base spare held fuel 25 cs.toList = some x) : ∃ g A n c d, cs = #[.bool g, .slice A n c] ∧ NatR w (fun _ => True) A n c d :=
 open_int Tryz.underlying25 (tb := 4) (tn := 23) (tu := 26) ⟨rfl, rfl, by kernel_rfl, Tryz.underlying4⟩ ⟨rfl, rfl, by kernel_rfl, Tryz.underlying23⟩ ⟨Tryz.underlying26, by kernel_rfl⟩ hs h
theorem returns_met (os : Os) (args : Array Value) : laidMetH Tryz.prog [("math/bits.deBruijn32tab", Rows.laid_math_bits_deBruijn32tab)] ((World.doorLaid Tryz.prog 400 os).forCall (fun _ _ => 0) ⟨#[], args, []⟩).memory :=
 laidMetH_of_parts3 (fuel := 8) (laidMet_of_run' 8 (by kernel_rfl) (by kernel_rfl)) (by kernel_rfl) (by kernel_rfl)
set_option maxRecDepth 100000 in
theorem returns_lifted (os : Os) (started : os.Started) (H : Type) (enc : TypeId × Value → H) :
  ReturnsInHanded {} Tryz.checked os 4 .any (fun w args => (Rows.henselReturnsSpec.pre enc Tryz.prog Tryz.f4 [] false w args ∧ laidMetH Tryz.prog [("math/bits.deBruijn32tab", Rows.laid_math_bits_deBruijn32tab)] w) ∧ sizedMet enc Tryz.prog Tryz.f4 (OpenSpec.ofChange Rows.henselReturnsSpec) false w args) (Rows.henselReturnsSpec.post enc Tryz.prog Tryz.f4 false true false false) := by
 refine returnsInHanded_of_change_and (C := Tryz.checked) (X := fun w _ => laidMetH Tryz.prog [("math/bits.deBruijn32tab", Rows.laid_math_bits_deBruijn32tab)] w) (fun _ _ _ hh h => h.of_heap hh) returns_own started (by kernel_rfl) Tryz.func4
  (ChangeSpec.witness_shaped (enc := enc) (C := Tryz.checked) (os := os) (X := fun w _ => laidMetH Tryz.prog [("math/bits.deBruijn32tab", Rows.laid_math_bits_deBruijn32tab)] w) false (World.doorLaid Tryz.prog 400 os) #[.agg #[.bool false, .slice none 0 0], .slice none 0 0, .int .u8 0] 8 rfl (World.shaped_of_RefB (by kernel_rfl) (by kernel_rfl)) (by kernel_rfl) (by kernel_rfl) (by kernel_rfl) (returns_met os _)) ?_
 intro W base args ds gs before hval0 hW _ _ hL _
 have hval : ∀ (j : Nat) t v, Tryz.f4.params[j]? = some t → args[j]? = some v → Value.okWide Tryz.prog W .any base t v := hval0
 have hW' := hW
 obtain ⟨p, q, hA0, hV, rfl, hfz, hnd⟩ := hW
 have hA : DataW.TrodAll enc Tryz.prog W 0 (fun _ => true) true Tryz.f4.params.toList args.toList ds p := hA0
 rw [Tryz.params4] at hA hval
 obtain ⟨v0, vs0, d0, ds0, p0, q0, hargs, rfl, rfl, h0, r0⟩ := trodAll_cons hA
 obtain ⟨v1, vs1, d1, ds1, p1, q1, rfl, rfl, rfl, h1, r1⟩ := trodAll_cons r0
 obtain ⟨v2, vs2, d2, ds2, p2, q2, rfl, rfl, rfl, h2, r2⟩ := trodAll_cons r1
 obtain ⟨rfl, rfl, rfl⟩ := trodAll_nil r2
 obtain rfl : args = #[v0, v1, v2] := by cases args; simp_all
 obtain ⟨rfl, rfl⟩ := trodVars_none hV
 obtain ⟨cs0, rfl, hs0⟩ := okWide_struct Tryz.underlying25 (hval 0 25 v0 rfl rfl)
 replace hs0 : cs0.size = 2 := hs0.trans (by kernel_rfl)
 obtain ⟨A1, n1, c1, rfl⟩ := okWide_slice Tryz.underlying36 (hval 1 36 v1 rfl rfl)
 obtain ⟨x2, rfl⟩ := okWide_int Tryz.underlying5 (hval 2 5 v2 rfl rfl)
 have k0 := h0
 have k1 := h1
 have k2 := h2
 have lt0 : ∀ x ∈ p0, x.block < W.heap.size := by obtain ⟨m, hm⟩ := k0; exact DataW.trod_lt m _ _ _ hm
 have lt1 : ∀ x ∈ p1, x.block < W.heap.size := by obtain ⟨m, hm⟩ := k1; exact DataW.trod_lt m _ _ _ hm
 have lt2 : ∀ x ∈ p2, x.block < W.heap.size := by obtain ⟨m, hm⟩ := k2; exact DataW.trod_lt m _ _ _ hm
 obtain ⟨g0, A0, n0, c0, d_0, rfl, w0⟩ : ∃ g A n c d, cs0 = #[.bool g, .slice A n c] ∧ NatR W (fun _ => True) A n c d := by obtain ⟨fuel, hf⟩ := h0; exact returns_int hs0 hf
 obtain ⟨ts1, w1⟩ : ∃ l, TripR W (fun _ => True) A1 n1 c1 l := by obtain ⟨fuel, hf⟩ := h1; exact open_trips Tryz.underlying36 Tryz.underlying84 Tryz.underlying83 (by kernel_rfl) (by kernel_rfl) hf
 obtain ⟨y2, rfl, b2⟩ : ∃ y : Nat, x2 = (y : Int) ∧ y < 256 := by obtain ⟨fuel, hf⟩ := h2; exact u8_came Tryz.underlying5 hf
 clear hA0 hval0
 refine (law12_returns w0 w1 b2 (tab_of_laid hL)).mono fun e W' ⟨v, he, g, hv, hE, hg⟩ => ?_
 subst he hv hg
 have bel := hE.below
 exact ⟨_, rfl, _, _, _, [], _, [], hW', trodAll_mk1 (shut_bool Tryz.underlying4 _), (trodAll_cons_mk (Below.trod returns_laidOut (by kernel_rfl) (of_decide_eq_true (by kernel_rfl)) k0 bel lt0) (trodAll_cons_mk (Below.trod returns_laidOut (by kernel_rfl) (of_decide_eq_true (by kernel_rfl)) k1 bel lt1) (trodAll_cons_mk (Below.trod returns_laidOut (by kernel_rfl) (of_decide_eq_true (by kernel_rfl)) k2 bel lt2) trodAll_mk0))), rfl, bel.frame _, fun h => by cases h⟩
theorem returns_row : Rows.HenselReturnsSaid :=
 OpenClaim.holds_of_wide 4 Tryz.f4 rfl rfl rfl rfl rfl rfl rfl ⟨rfl, rfl, rfl, rfl, rfl⟩ rfl rfl rfl rfl rfl (by kernel_rfl) Tryz.func4 (by kernel_rfl)
  (of_decide_eq_true (by kernel_rfl)) (by unfold Func.isWrapper; first | (rw [if_pos (by decide +kernel)]; kernel_rfl) | (rw [if_neg (by decide +kernel)]; exact ⟨rfl, rfl⟩))
  (fun os started H enc _ => returns_lifted os started H enc)
theorem returns_holds : Rows.HenselReturnsCardSaid :=
 Claim7.holds_tied_plain_at .later [] [.data] true (true, "7a552a6a96560da9937484c57cc68b033d3c89f654b6f0d43afa19aa685370dd") false returns_row (fun _ h => by cases h) (by kernel_rfl) (fun _ h => by cases h) henselReturns_row_tie rfl ⟨rfl, rfl⟩ (by kernel_rfl) rfl
  (fun f fn hf hfn => by
   obtain rfl : f = 4 := Option.some.inj ((show Tryz.prog.funcNamed "cylinder/cylinderlaw12.HenselReturns" = some 4 by kernel_rfl).symm.trans hf) |>.symm
   obtain rfl : fn = Tryz.f4 := (Option.some.inj (Tryz.func4.symm.trans hfn)).symm
   exact ⟨by kernel_rfl, fun j t ht => by
    rw [Tryz.params4] at ht
    have hm : t ∈ [25, 36, 5] := by simpa using Array.mem_of_getElem? ht
    have hall : ([25, 36, 5].all fun u => !Tryz.prog.wantsStandIn u) = true := by kernel_rfl
    exact (show Tryz.prog.wantsStandIn t = false by simpa using List.all_eq_true.1 hall t hm)⟩)
  (by kernel_rfl)
#print axioms returns_holds
end Go.Proofs.YtneolcopompkaaaGreatDoor
