/-
  For every two polynomials the law UnipolyKeeps returns true, and its arguments read behind the call as they read before. No conditions.
-/
import Derived.Test.YtppegjbdencefaaRows
import Derived.Test.YtppegjbdencefaaRows
import Derived.Test.YtppegjbdencefaaLaw9
import Derived.Test.YtppegjbdencefaaOpen
import Derived.ProofKit
import Derived.OpenShut
import Derived.ChangeOld
import Derived.Below
namespace Go.Proofs.Ytppegjbdencefaa
open Go.ChangeShapes Go.WideShapes Go.ChangeAt Go.RowKit Go.Gx
theorem keeps_own : ownKnob Try.prog.godebug = none := by kernel_rfl
theorem keeps_laidOut : laidOutB Try.prog = true := by kernel_rfl
theorem keeps_poly {H : Type} {enc : TypeId × Value → H} {w : World} {base : Nat} {spare : Nat → Bool} {held : Bool} {fuel : Nat} {A : Option Addr} {n c : Nat} {x : DataW H × List MemPlace}
    (h : DataW.trod enc Try.prog w base spare held fuel 23 [.slice A n c] = some x) : ∃ l, PolyR w (fun _ => True) A n c l 9223372036854775807 :=
  open_poly Try.underlying23 Try.underlying46 (tb := 4) (tn := 44) (tu := 62) ⟨rfl, rfl, by kernel_rfl, Try.underlying4⟩ ⟨rfl, rfl, by kernel_rfl, Try.underlying44⟩ ⟨Try.underlying62, by kernel_rfl⟩ (by kernel_rfl) h
set_option maxRecDepth 100000 in
theorem keeps_lifted (os : Os) (started : os.Started) (H : Type) (enc : TypeId × Value → H) :
    ReturnsInHanded {} Try.checked os 7 .any (Rows.unipolyKeepsSpec.pre6 enc Try.prog Try.f7 Rows.unipolyKeepsRow.domain false) (Rows.unipolyKeepsSpec.post enc Try.prog Try.f7 false true false false) := by
  refine returnsInHanded_of_change (C := Try.checked) keeps_own started (by kernel_rfl) Try.func7
    (ChangeSpec.witness6 (enc := enc) (C := Try.checked) false ⟨#[], #[.slice none 0 0, .slice none 0 0], []⟩ 8 (by kernel_rfl) (by kernel_rfl) (by kernel_rfl) (by kernel_rfl)) ?_
  intro W base args ds gs before hval0 hW hcnd _
  have hval : ∀ (j : Nat) t v, Try.f7.params[j]? = some t → args[j]? = some v → Value.okWide Try.prog W .any base t v := hval0
  have hW' := hW
  obtain ⟨p, q, hA0, hV, rfl, hfz, hnd⟩ := hW
  have hA : DataW.TrodAll enc Try.prog W 0 (fun _ => true) true Try.f7.params.toList args.toList ds p := hA0
  rw [Try.params7] at hA hval
  obtain ⟨v0, vs0, d0, ds0, p0, q0, hargs, rfl, rfl, h0, r0⟩ := trodAll_cons hA
  obtain ⟨v1, vs1, d1, ds1, p1, q1, rfl, rfl, rfl, h1, r1⟩ := trodAll_cons r0
  obtain ⟨rfl, rfl, rfl⟩ := trodAll_nil r1
  obtain rfl : args = #[v0, v1] := by cases args; simp_all
  obtain ⟨rfl, rfl⟩ := trodVars_none hV
  obtain ⟨A0, n0, c0, rfl⟩ := okWide_slice Try.underlying23 (hval 0 23 v0 rfl rfl)
  obtain ⟨A1, n1, c1, rfl⟩ := okWide_slice Try.underlying23 (hval 1 23 v1 rfl rfl)
  have k0 := h0
  have k1 := h1
  have lt0 : ∀ x ∈ p0, x.block < W.heap.size := by obtain ⟨m, hm⟩ := k0; exact DataW.trod_lt m _ _ _ hm
  have lt1 : ∀ x ∈ p1, x.block < W.heap.size := by obtain ⟨m, hm⟩ := k1; exact DataW.trod_lt m _ _ _ hm
  obtain ⟨l0, w0⟩ : ∃ l, PolyR W (fun _ => True) A0 n0 c0 l 9223372036854775807 := by obtain ⟨fuel, hf⟩ := h0; exact keeps_poly hf
  obtain ⟨l1, w1⟩ : ∃ l, PolyR W (fun _ => True) A1 n1 c1 l 9223372036854775807 := by obtain ⟨fuel, hf⟩ := h1; exact keeps_poly hf
  clear hA0 hval0
  refine (law08_keeps w0 w1).mono fun e W' ⟨v, he, g, hv, hE, hg⟩ => ?_
  subst he hv hg
  have bel := hE.below
  exact ⟨_, rfl, _, _, _, [], _, [], hW', trodAll_mk1 (shut_bool Try.underlying4 _), (trodAll_cons_mk (Below.trod keeps_laidOut (by kernel_rfl) (of_decide_eq_true (by kernel_rfl)) k0 bel lt0) (trodAll_cons_mk (Below.trod keeps_laidOut (by kernel_rfl) (of_decide_eq_true (by kernel_rfl)) k1 bel lt1) trodAll_mk0)), rfl, bel.frame _, fun h => by cases h⟩
theorem keeps_holds : Rows.UnipolyKeepsSaid :=
  OpenClaim.holds_of_wide 7 Try.f7 rfl rfl rfl rfl rfl rfl rfl ⟨rfl, rfl, rfl, rfl, rfl⟩ rfl rfl rfl rfl rfl (by kernel_rfl) Try.func7 (by kernel_rfl)
    (of_decide_eq_true (by kernel_rfl)) (by unfold Func.isWrapper; first | (rw [if_pos (by decide +kernel)]; kernel_rfl) | (rw [if_neg (by decide +kernel)]; exact ⟨rfl, rfl⟩))
    (fun os started H enc _ => keeps_lifted os started H enc)
#print axioms keeps_holds
end Go.Proofs.Ytppegjbdencefaa
