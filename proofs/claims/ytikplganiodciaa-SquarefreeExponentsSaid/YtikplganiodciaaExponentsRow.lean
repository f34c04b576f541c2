/-
  For every two slices of int16 and every array of four uint8 the law SquarefreeExponents returns true, and its arguments read behind the call as they read before. No conditions.
-/
import Derived.Test.YtikplganiodciaaRows
import Derived.Test.YtikplganiodciaaLaw11e
import Derived.Test.YtikplganiodciaaLibD
import Derived.ProofKit
import Derived.OpenShut
import Derived.ChangeOld
import Derived.Below
namespace Go.Proofs.Ytikplganiodciaa
open Go.ChangeShapes Go.WideShapes Go.ChangeAt Go.RowKit Go.Gx
theorem exponents_own : ownKnob Try.prog.godebug = none := by kernel_rfl
theorem exponents_laidOut : laidOutB Try.prog = true := by kernel_rfl
set_option maxRecDepth 100000 in
theorem exponents_lifted (os : Os) (started : os.Started) (H : Type) (enc : TypeId × Value → H) :
    ReturnsInHanded {} Try.checked os 5 .any (Rows.squarefreeExponentsSpec.pre6 enc Try.prog Try.f5 Rows.squarefreeExponentsRow.domain false) (Rows.squarefreeExponentsSpec.post enc Try.prog Try.f5 false true false false) := by
  refine returnsInHanded_of_change (C := Try.checked) exponents_own started (by kernel_rfl) Try.func5
    (ChangeSpec.witness6 (enc := enc) (C := Try.checked) false ⟨#[], #[.slice none 0 0, .slice none 0 0, .agg #[.int .u8 0, .int .u8 0, .int .u8 0, .int .u8 0]], []⟩ 8 (by kernel_rfl) (by kernel_rfl) (by kernel_rfl) (by kernel_rfl)) ?_
  intro W base args ds gs before hval0 hW hcnd _
  have hval : ∀ (j : Nat) t v, Try.f5.params[j]? = some t → args[j]? = some v → Value.okWide Try.prog W .any base t v := hval0
  have hW' := hW
  obtain ⟨p, q, hA0, hV, rfl, hfz, hnd⟩ := hW
  have hA : DataW.TrodAll enc Try.prog W 0 (fun _ => true) true Try.f5.params.toList args.toList ds p := hA0
  rw [Try.params5] at hA hval
  obtain ⟨v0, vs0, d0, ds0, p0, q0, hargs, rfl, rfl, h0, r0⟩ := trodAll_cons hA
  obtain ⟨v1, vs1, d1, ds1, p1, q1, rfl, rfl, rfl, h1, r1⟩ := trodAll_cons r0
  obtain ⟨v2, vs2, d2, ds2, p2, q2, rfl, rfl, rfl, h2, r2⟩ := trodAll_cons r1
  obtain ⟨rfl, rfl, rfl⟩ := trodAll_nil r2
  obtain rfl : args = #[v0, v1, v2] := by cases args; simp_all
  obtain ⟨rfl, rfl⟩ := trodVars_none hV
  obtain ⟨A0, n0, c0, rfl⟩ := okWide_slice Try.underlying40 (hval 0 40 v0 rfl rfl)
  obtain ⟨A1, n1, c1, rfl⟩ := okWide_slice Try.underlying40 (hval 1 40 v1 rfl rfl)
  obtain ⟨cs2, rfl, hs2⟩ := okWide_arr Try.underlying45 (hval 2 45 v2 rfl rfl)
  replace hs2 : cs2.size = 4 := hs2.trans (by kernel_rfl)
  have k0 := h0
  have k1 := h1
  have k2 := h2
  have lt0 : ∀ x ∈ p0, x.block < W.heap.size := by obtain ⟨m, hm⟩ := k0; exact DataW.trod_lt m _ _ _ hm
  have lt1 : ∀ x ∈ p1, x.block < W.heap.size := by obtain ⟨m, hm⟩ := k1; exact DataW.trod_lt m _ _ _ hm
  have lt2 : ∀ x ∈ p2, x.block < W.heap.size := by obtain ⟨m, hm⟩ := k2; exact DataW.trod_lt m _ _ _ hm
  obtain ⟨xs0, w0⟩ : ∃ xs, I16R W (fun _ => True) A0 n0 c0 xs := by obtain ⟨fuel, hf⟩ := h0; obtain ⟨_, _, _, xs, he, h⟩ := open_i16 Try.underlying40 Try.underlying77 (by kernel_rfl) hf; cases he; exact ⟨xs, h⟩
  obtain ⟨xs1, w1⟩ : ∃ xs, I16R W (fun _ => True) A1 n1 c1 xs := by obtain ⟨fuel, hf⟩ := h1; obtain ⟨_, _, _, xs, he, h⟩ := open_i16 Try.underlying40 Try.underlying77 (by kernel_rfl) hf; cases he; exact ⟨xs, h⟩
  obtain ⟨ya2, yb2, yc2, yd2, rfl, ha2, hb2, hc2, hd2⟩ : ∃ a b c d : Nat, cs2 = #[.int .u8 (a : Int), .int .u8 (b : Int), .int .u8 (c : Int), .int .u8 (d : Int)] ∧ a < 256 ∧ b < 256 ∧ c < 256 ∧ d < 256 := by obtain ⟨fuel, hf⟩ := h2; exact open_u8x4 Try.underlying45 Try.underlying5 (by kernel_rfl) hs2 hf
  clear hA0 hval0
  refine (law11_exponents w0 w1 ha2 hb2 hc2 hd2).mono fun e W' ⟨v, he, g, hv, hE, hg⟩ => ?_
  subst he hv hg
  have bel := hE.below
  exact ⟨_, rfl, _, _, _, [], _, [], hW', trodAll_mk1 (shut_bool Try.underlying4 _), (trodAll_cons_mk (Below.trod exponents_laidOut (by kernel_rfl) (of_decide_eq_true (by kernel_rfl)) k0 bel lt0) (trodAll_cons_mk (Below.trod exponents_laidOut (by kernel_rfl) (of_decide_eq_true (by kernel_rfl)) k1 bel lt1) (trodAll_cons_mk (Below.trod exponents_laidOut (by kernel_rfl) (of_decide_eq_true (by kernel_rfl)) k2 bel lt2) trodAll_mk0))), rfl, bel.frame _, fun h => by cases h⟩
theorem exponents_holds : Rows.SquarefreeExponentsSaid :=
  OpenClaim.holds_of_wide 5 Try.f5 rfl rfl rfl rfl rfl rfl rfl ⟨rfl, rfl, rfl, rfl, rfl⟩ rfl rfl rfl rfl rfl (by kernel_rfl) Try.func5 (by kernel_rfl)
    (of_decide_eq_true (by kernel_rfl)) (by unfold Func.isWrapper; first | (rw [if_pos (by decide +kernel)]; kernel_rfl) | (rw [if_neg (by decide +kernel)]; exact ⟨rfl, rfl⟩))
    (fun os started H enc _ => exponents_lifted os started H enc)
#print axioms exponents_holds
end Go.Proofs.Ytikplganiodciaa
