/-
  For every array of three slices of int16 and every int16 the law SquarefreeOrderless returns true, and its arguments read behind the call as they read before. No conditions.
-/
import Derived.Test.YtbniolgfaeiedaaRows
import Derived.Test.YtbniolgfaeiedaaLaw11h
import Derived.Test.YtbniolgfaeiedaaLibE
import Derived.ProofKit
import Derived.OpenShut
import Derived.ChangeOld
import Derived.Below
namespace Go.Proofs.Ytbniolgfaeiedaa
open Go.ChangeShapes Go.WideShapes Go.ChangeAt Go.RowKit Go.Gx
theorem orderless_own : ownKnob Try.prog.godebug = none := by kernel_rfl
theorem orderless_laidOut : laidOutB Try.prog = true := by kernel_rfl
set_option maxRecDepth 100000 in
theorem orderless_lifted (os : Os) (started : os.Started) (H : Type) (enc : TypeId × Value → H) :
    ReturnsInHanded {} Try.checked os 3 .any (Rows.squarefreeOrderlessSpec.pre6 enc Try.prog Try.f3 Rows.squarefreeOrderlessRow.domain false) (Rows.squarefreeOrderlessSpec.post enc Try.prog Try.f3 false true false false) := by
  refine returnsInHanded_of_change (C := Try.checked) orderless_own started (by kernel_rfl) Try.func3
    (ChangeSpec.witness6 (enc := enc) (C := Try.checked) false ⟨#[], #[.agg #[.slice none 0 0, .slice none 0 0, .slice none 0 0], .int .i16 0], []⟩ 8 (by kernel_rfl) (by kernel_rfl) (by kernel_rfl) (by kernel_rfl)) ?_
  intro W base args ds gs before hval0 hW hcnd _
  have hval : ∀ (j : Nat) t v, Try.f3.params[j]? = some t → args[j]? = some v → Value.okWide Try.prog W .any base t v := hval0
  have hW' := hW
  obtain ⟨p, q, hA0, hV, rfl, hfz, hnd⟩ := hW
  have hA : DataW.TrodAll enc Try.prog W 0 (fun _ => true) true Try.f3.params.toList args.toList ds p := hA0
  rw [Try.params3] at hA hval
  obtain ⟨v0, vs0, d0, ds0, p0, q0, hargs, rfl, rfl, h0, r0⟩ := trodAll_cons hA
  obtain ⟨v1, vs1, d1, ds1, p1, q1, rfl, rfl, rfl, h1, r1⟩ := trodAll_cons r0
  obtain ⟨rfl, rfl, rfl⟩ := trodAll_nil r1
  obtain rfl : args = #[v0, v1] := by cases args; simp_all
  obtain ⟨rfl, rfl⟩ := trodVars_none hV
  obtain ⟨cs0, rfl, hs0⟩ := okWide_arr Try.underlying23 (hval 0 23 v0 rfl rfl)
  replace hs0 : cs0.size = 3 := hs0.trans (by kernel_rfl)
  obtain ⟨x1, rfl⟩ := okWide_int Try.underlying24 (hval 1 24 v1 rfl rfl)
  have k0 := h0
  have k1 := h1
  have lt0 : ∀ x ∈ p0, x.block < W.heap.size := by obtain ⟨m, hm⟩ := k0; exact DataW.trod_lt m _ _ _ hm
  have lt1 : ∀ x ∈ p1, x.block < W.heap.size := by obtain ⟨m, hm⟩ := k1; exact DataW.trod_lt m _ _ _ hm
  obtain ⟨Aa0, na0, ca0, xa0, Ab0, nb0, cb0, xb0, Ac0, nc0, cc0, xc0, rfl, wa0, wb0, wc0⟩ : ∃ A0 n0 c0 x0 A1 n1 c1 x1 A2 n2 c2 x2, cs0 = #[.slice A0 n0 c0, .slice A1 n1 c1, .slice A2 n2 c2] ∧ I16R W (fun _ => True) A0 n0 c0 x0 ∧ I16R W (fun _ => True) A1 n1 c1 x1 ∧ I16R W (fun _ => True) A2 n2 c2 x2 := by obtain ⟨fuel, hf⟩ := h0; exact open_i16x3 Try.underlying23 Try.underlying22 Try.underlying24 (by kernel_rfl) (by kernel_rfl) hs0 hf
  have b1 : -32768 ≤ x1 ∧ x1 ≤ 32767 := by obtain ⟨fuel, hf⟩ := h1; exact i16_came Try.underlying24 hf
  clear hA0 hval0
  refine (law11_orderless wa0 wb0 wc0 b1).mono fun e W' ⟨v, he, g, hv, hE, hg⟩ => ?_
  subst he hv hg
  have bel := hE.below
  exact ⟨_, rfl, _, _, _, [], _, [], hW', trodAll_mk1 (shut_bool Try.underlying4 _), (trodAll_cons_mk (Below.trod orderless_laidOut (by kernel_rfl) (of_decide_eq_true (by kernel_rfl)) k0 bel lt0) (trodAll_cons_mk (Below.trod orderless_laidOut (by kernel_rfl) (of_decide_eq_true (by kernel_rfl)) k1 bel lt1) trodAll_mk0)), rfl, bel.frame _, fun h => by cases h⟩
theorem orderless_holds : Rows.SquarefreeOrderlessSaid :=
  OpenClaim.holds_of_wide 3 Try.f3 rfl rfl rfl rfl rfl rfl rfl ⟨rfl, rfl, rfl, rfl, rfl⟩ rfl rfl rfl rfl rfl (by kernel_rfl) Try.func3 (by kernel_rfl)
    (of_decide_eq_true (by kernel_rfl)) (by unfold Func.isWrapper; first | (rw [if_pos (by decide +kernel)]; kernel_rfl) | (rw [if_neg (by decide +kernel)]; exact ⟨rfl, rfl⟩))
    (fun os started H enc _ => orderless_lifted os started H enc)
#print axioms orderless_holds
end Go.Proofs.Ytbniolgfaeiedaa
