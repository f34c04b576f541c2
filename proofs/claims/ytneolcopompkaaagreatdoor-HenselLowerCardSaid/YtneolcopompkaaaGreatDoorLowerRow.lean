/-
  The law HenselLower holds: a factorization lifted to a power is, reduced, the one lifted to a smaller power.
-/
import Derived.Test.YtneolcopompkaaaGreatDoorRows
import Derived.Test.YtneolcopompkaaaGreatDoorLaw12g
import Derived.Test.YtneolcopompkaaaGreatDoorLibF
import Derived.ProofKit
import Derived.OpenShut
import Derived.ChangeOld
import Derived.Below
import Derived.LaidMore
import Derived.Stop.Joined
import Derived.SevenTiedAt
import Derived.Test.YtneolcopompkaaaGreatDoorTie
import Derived.Test.YtneolcopompkaaaGreatDoorCards
namespace Go.Proofs.YtneolcopompkaaaGreatDoor
open Go.ChangeShapes Go.WideShapes Go.ChangeAt Go.RowKit Go.Gx
theorem lower_own : ownKnob Tryz.prog.godebug = none := by kernel_rfl
theorem lower_laidOut : laidOutB Tryz.prog = true := by kernel_rfl
theorem lower_poly {H : Type} {enc : TypeId × Value → H} {w : World} {base : Nat} {spare : Nat → Bool} {held : Bool} {fuel : Nat} {A : Option Addr} {n c : Nat} {x : DataW H × List MemPlace}
  (h : DataW.trod enc Tryz.prog w base spare held fuel 39 [.slice A n c] = some x) : ∃ l, PolyR w (fun _ => True) A n c l 9223372036854775807 :=
 open_poly Tryz.underlying39 Tryz.underlying25 (tb := 4) (tn := 23) (tu := 26) ⟨rfl, rfl, by kernel_rfl, Tryz.underlying4⟩ ⟨rfl, rfl, by kernel_rfl, Tryz.underlying23⟩ ⟨Tryz.underlying26, by kernel_rfl⟩ (by kernel_rfl) h
theorem lower_met (os : Os) (args : Array Value) : laidMetH Tryz.prog [("math/bits.deBruijn32tab", Rows.laid_math_bits_deBruijn32tab)] ((World.doorLaid Tryz.prog 400 os).forCall (fun _ _ => 0) ⟨#[], args, []⟩).memory :=
 laidMetH_of_parts3 (fuel := 8) (laidMet_of_run' 8 (by kernel_rfl) (by kernel_rfl)) (by kernel_rfl) (by kernel_rfl)
set_option maxRecDepth 100000 in
theorem lower_lifted (os : Os) (started : os.Started) (H : Type) (enc : TypeId × Value → H) :
  ReturnsInHanded {} Tryz.checked os 7 .any (fun w args => (Rows.henselLowerSpec.pre enc Tryz.prog Tryz.f7 [] false w args ∧ laidMetH Tryz.prog [("math/bits.deBruijn32tab", Rows.laid_math_bits_deBruijn32tab)] w) ∧ sizedMet enc Tryz.prog Tryz.f7 (OpenSpec.ofChange Rows.henselLowerSpec) false w args) (Rows.henselLowerSpec.post enc Tryz.prog Tryz.f7 false true false false) := by
 refine returnsInHanded_of_change_and (C := Tryz.checked) (X := fun w _ => laidMetH Tryz.prog [("math/bits.deBruijn32tab", Rows.laid_math_bits_deBruijn32tab)] w) (fun _ _ _ hh h => h.of_heap hh) lower_own started (by kernel_rfl) Tryz.func7
  (ChangeSpec.witness_shaped (enc := enc) (C := Tryz.checked) (os := os) (X := fun w _ => laidMetH Tryz.prog [("math/bits.deBruijn32tab", Rows.laid_math_bits_deBruijn32tab)] w) false (World.doorLaid Tryz.prog 400 os) #[.slice none 0 0, .int .u8 0, .agg #[.int .u8 0, .int .u8 0]] 8 rfl (World.shaped_of_RefB (by kernel_rfl) (by kernel_rfl)) (by kernel_rfl) (by kernel_rfl) (by kernel_rfl) (lower_met os _)) ?_
 intro W base args ds gs before hval0 hW _ _ hL _
 have hval : ∀ (j : Nat) t v, Tryz.f7.params[j]? = some t → args[j]? = some v → Value.okWide Tryz.prog W .any base t v := hval0
 have hW' := hW
 obtain ⟨p, q, hA0, hV, rfl, hfz, hnd⟩ := hW
 have hA : DataW.TrodAll enc Tryz.prog W 0 (fun _ => true) true Tryz.f7.params.toList args.toList ds p := hA0
 rw [Tryz.params7] at hA hval
 obtain ⟨v0, vs0, d0, ds0, p0, q0, hargs, rfl, rfl, h0, r0⟩ := trodAll_cons hA
 obtain ⟨v1, vs1, d1, ds1, p1, q1, rfl, rfl, rfl, h1, r1⟩ := trodAll_cons r0
 obtain ⟨v2, vs2, d2, ds2, p2, q2, rfl, rfl, rfl, h2, r2⟩ := trodAll_cons r1
 obtain ⟨rfl, rfl, rfl⟩ := trodAll_nil r2
 obtain rfl : args = #[v0, v1, v2] := by cases args; simp_all
 obtain ⟨rfl, rfl⟩ := trodVars_none hV
 obtain ⟨A0, n0, c0, rfl⟩ := okWide_slice Tryz.underlying39 (hval 0 39 v0 rfl rfl)
 obtain ⟨x1, rfl⟩ := okWide_int Tryz.underlying5 (hval 1 5 v1 rfl rfl)
 obtain ⟨cs2, rfl, hs2⟩ := okWide_arr Tryz.underlying67 (hval 2 67 v2 rfl rfl)
 replace hs2 : cs2.size = 2 := hs2.trans (by kernel_rfl)
 have k0 := h0
 have k1 := h1
 have k2 := h2
 have lt0 : ∀ x ∈ p0, x.block < W.heap.size := by obtain ⟨m, hm⟩ := k0; exact DataW.trod_lt m _ _ _ hm
 have lt1 : ∀ x ∈ p1, x.block < W.heap.size := by obtain ⟨m, hm⟩ := k1; exact DataW.trod_lt m _ _ _ hm
 have lt2 : ∀ x ∈ p2, x.block < W.heap.size := by obtain ⟨m, hm⟩ := k2; exact DataW.trod_lt m _ _ _ hm
 obtain ⟨l0, w0⟩ : ∃ l, PolyR W (fun _ => True) A0 n0 c0 l 9223372036854775807 := by obtain ⟨fuel, hf⟩ := h0; exact lower_poly hf
 obtain ⟨y1, rfl, b1⟩ : ∃ y : Nat, x1 = (y : Int) ∧ y < 256 := by obtain ⟨fuel, hf⟩ := h1; exact u8_came Tryz.underlying5 hf
 obtain ⟨ya2, yb2, rfl, ha2, hb2⟩ : ∃ a b : Nat, cs2 = #[.int .u8 (a : Int), .int .u8 (b : Int)] ∧ a < 256 ∧ b < 256 := by obtain ⟨fuel, hf⟩ := h2; exact open_u8x2 Tryz.underlying67 Tryz.underlying5 (by kernel_rfl) hs2 hf
 clear hA0 hval0
 refine (law12_lower w0 b1 ha2 hb2 (tab_of_laid hL)).mono fun e W' ⟨v, he, g, hv, hE, hg⟩ => ?_
 subst he hv hg
 have bel := hE.below
 exact ⟨_, rfl, _, _, _, [], _, [], hW', trodAll_mk1 (shut_bool Tryz.underlying4 _), (trodAll_cons_mk (Below.trod lower_laidOut (by kernel_rfl) (of_decide_eq_true (by kernel_rfl)) k0 bel lt0) (trodAll_cons_mk (Below.trod lower_laidOut (by kernel_rfl) (of_decide_eq_true (by kernel_rfl)) k1 bel lt1) (trodAll_cons_mk (Below.trod lower_laidOut (by kernel_rfl) (of_decide_eq_true (by kernel_rfl)) k2 bel lt2) trodAll_mk0))), rfl, bel.frame _, fun h => by cases h⟩
theorem lower_row : Rows.HenselLowerSaid :=
 OpenClaim.holds_of_wide 7 Tryz.f7 rfl rfl rfl rfl rfl rfl rfl ⟨rfl, rfl, rfl, rfl, rfl⟩ rfl rfl rfl rfl rfl (by kernel_rfl) Tryz.func7 (by kernel_rfl)
  (of_decide_eq_true (by kernel_rfl)) (by unfold Func.isWrapper; first | (rw [if_pos (by decide +kernel)]; kernel_rfl) | (rw [if_neg (by decide +kernel)]; exact ⟨rfl, rfl⟩))
  (fun os started H enc _ => lower_lifted os started H enc)
theorem lower_holds : Rows.HenselLowerCardSaid :=
 Claim7.holds_tied_plain_at .later [] [.data] true (true, "7a552a6a96560da9937484c57cc68b033d3c89f654b6f0d43afa19aa685370dd") false lower_row (fun _ h => by cases h) (by kernel_rfl) (fun _ h => by cases h) henselLower_row_tie rfl ⟨rfl, rfl⟩ (by kernel_rfl) rfl
  (fun f fn hf hfn => by
   obtain rfl : f = 7 := Option.some.inj ((show Tryz.prog.funcNamed "cylinder/cylinderlaw12.HenselLower" = some 7 by kernel_rfl).symm.trans hf) |>.symm
   obtain rfl : fn = Tryz.f7 := (Option.some.inj (Tryz.func7.symm.trans hfn)).symm
   exact ⟨by kernel_rfl, fun j t ht => by
    rw [Tryz.params7] at ht
    have hm : t ∈ [39, 5, 67] := by simpa using Array.mem_of_getElem? ht
    have hall : ([39, 5, 67].all fun u => !Tryz.prog.wantsStandIn u) = true := by kernel_rfl
    exact (show Tryz.prog.wantsStandIn t = false by simpa using List.all_eq_true.1 hall t hm)⟩)
  (by kernel_rfl)
#print axioms lower_holds
end Go.Proofs.YtneolcopompkaaaGreatDoor
