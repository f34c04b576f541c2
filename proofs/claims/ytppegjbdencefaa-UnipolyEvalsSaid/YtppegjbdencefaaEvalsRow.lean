/-
  For every polynomial and every fraction the law UnipolyEvals returns true, and its arguments read behind the call as they read before. No conditions.
-/
import Derived.Test.YtppegjbdencefaaRows
import Derived.Test.YtppegjbdencefaaRows
import Derived.Test.YtppegjbdencefaaLaw8
import Derived.Test.YtppegjbdencefaaOpen
import Derived.ProofKit
import Derived.OpenShut
import Derived.ChangeOld
import Derived.Below
namespace Go.Proofs.Ytppegjbdencefaa
open Go.ChangeShapes Go.WideShapes Go.ChangeAt Go.RowKit Go.Gx
theorem evals_own : ownKnob Try.prog.godebug = none := by kernel_rfl
theorem evals_laidOut : laidOutB Try.prog = true := by kernel_rfl
theorem evals_poly {H : Type} {enc : TypeId × Value → H} {w : World} {base : Nat} {spare : Nat → Bool} {held : Bool} {fuel : Nat} {A : Option Addr} {n c : Nat} {x : DataW H × List MemPlace}
    (h : DataW.trod enc Try.prog w base spare held fuel 23 [.slice A n c] = some x) : ∃ l, PolyR w (fun _ => True) A n c l 9223372036854775807 :=
  open_poly Try.underlying23 Try.underlying46 (tb := 4) (tn := 44) (tu := 62) ⟨rfl, rfl, by kernel_rfl, Try.underlying4⟩ ⟨rfl, rfl, by kernel_rfl, Try.underlying44⟩ ⟨Try.underlying62, by kernel_rfl⟩ (by kernel_rfl) h
theorem evals_rat {H : Type} {enc : TypeId × Value → H} {w : World} {base : Nat} {spare : Nat → Bool} {held : Bool} {fuel : Nat} {cs : Array Value} {x : DataW H × List MemPlace}
    (hs : cs.size = 3) (h : DataW.trod enc Try.prog w base spare held fuel 64 cs.toList = some x) : ∃ g A n c d A2 n2 c2 d2, cs = #[.bool g, .slice A n c, .slice A2 n2 c2] ∧ NatR w (fun _ => True) A n c d ∧ NatR w (fun _ => True) A2 n2 c2 d2 :=
  open_rat Try.underlying64 Try.underlying46 (tb := 4) (tn := 44) (tu := 62) ⟨rfl, rfl, by kernel_rfl⟩ ⟨rfl, rfl⟩ ⟨rfl, rfl, by kernel_rfl, Try.underlying4⟩ ⟨rfl, rfl, by kernel_rfl, Try.underlying44⟩ ⟨Try.underlying62, by kernel_rfl⟩ hs h
set_option maxRecDepth 100000 in
theorem evals_lifted (os : Os) (started : os.Started) (H : Type) (enc : TypeId × Value → H) :
    ReturnsInHanded {} Try.checked os 8 .any (Rows.unipolyEvalsSpec.pre6 enc Try.prog Try.f8 Rows.unipolyEvalsRow.domain false) (Rows.unipolyEvalsSpec.post enc Try.prog Try.f8 false true false false) := by
  refine returnsInHanded_of_change (C := Try.checked) evals_own started (by kernel_rfl) Try.func8
    (ChangeSpec.witness6 (enc := enc) (C := Try.checked) false ⟨#[], #[.slice none 0 0, .agg #[.bool false, .slice none 0 0, .slice none 0 0]], []⟩ 8 (by kernel_rfl) (by kernel_rfl) (by kernel_rfl) (by kernel_rfl)) ?_
  intro W base args ds gs before hval0 hW hcnd _
  have hval : ∀ (j : Nat) t v, Try.f8.params[j]? = some t → args[j]? = some v → Value.okWide Try.prog W .any base t v := hval0
  have hW' := hW
  obtain ⟨p, q, hA0, hV, rfl, hfz, hnd⟩ := hW
  have hA : DataW.TrodAll enc Try.prog W 0 (fun _ => true) true Try.f8.params.toList args.toList ds p := hA0
  rw [Try.params8] at hA hval
  obtain ⟨v0, vs0, d0, ds0, p0, q0, hargs, rfl, rfl, h0, r0⟩ := trodAll_cons hA
  obtain ⟨v1, vs1, d1, ds1, p1, q1, rfl, rfl, rfl, h1, r1⟩ := trodAll_cons r0
  obtain ⟨rfl, rfl, rfl⟩ := trodAll_nil r1
  obtain rfl : args = #[v0, v1] := by cases args; simp_all
  obtain ⟨rfl, rfl⟩ := trodVars_none hV
  obtain ⟨A0, n0, c0, rfl⟩ := okWide_slice Try.underlying23 (hval 0 23 v0 rfl rfl)
  obtain ⟨cs1, rfl, hs1⟩ := okWide_struct Try.underlying64 (hval 1 64 v1 rfl rfl)
  replace hs1 : cs1.size = 3 := hs1.trans (by kernel_rfl)
  have k0 := h0
  have k1 := h1
  have lt0 : ∀ x ∈ p0, x.block < W.heap.size := by obtain ⟨m, hm⟩ := k0; exact DataW.trod_lt m _ _ _ hm
  have lt1 : ∀ x ∈ p1, x.block < W.heap.size := by obtain ⟨m, hm⟩ := k1; exact DataW.trod_lt m _ _ _ hm
  obtain ⟨l0, w0⟩ : ∃ l, PolyR W (fun _ => True) A0 n0 c0 l 9223372036854775807 := by obtain ⟨fuel, hf⟩ := h0; exact evals_poly hf
  obtain ⟨g1, A1, n1, c1, d_1, A1b, n1b, c1b, d_1b, rfl, w1, w1b⟩ : ∃ g A n c d A2 n2 c2 d2, cs1 = #[.bool g, .slice A n c, .slice A2 n2 c2] ∧ NatR W (fun _ => True) A n c d ∧ NatR W (fun _ => True) A2 n2 c2 d2 := by obtain ⟨fuel, hf⟩ := h1; exact evals_rat hs1 hf
  clear hA0 hval0
  refine (law08_evals w0 w1 w1b).mono fun e W' ⟨v, he, g, hv, hE, hg⟩ => ?_
  subst he hv hg
  have bel := hE.below
  exact ⟨_, rfl, _, _, _, [], _, [], hW', trodAll_mk1 (shut_bool Try.underlying4 _), (trodAll_cons_mk (Below.trod evals_laidOut (by kernel_rfl) (of_decide_eq_true (by kernel_rfl)) k0 bel lt0) (trodAll_cons_mk (Below.trod evals_laidOut (by kernel_rfl) (of_decide_eq_true (by kernel_rfl)) k1 bel lt1) trodAll_mk0)), rfl, bel.frame _, fun h => by cases h⟩
theorem evals_holds : Rows.UnipolyEvalsSaid :=
  OpenClaim.holds_of_wide 8 Try.f8 rfl rfl rfl rfl rfl rfl rfl ⟨rfl, rfl, rfl, rfl, rfl⟩ rfl rfl rfl rfl rfl (by kernel_rfl) Try.func8 (by kernel_rfl)
    (of_decide_eq_true (by kernel_rfl)) (by unfold Func.isWrapper; first | (rw [if_pos (by decide +kernel)]; kernel_rfl) | (rw [if_neg (by decide +kernel)]; exact ⟨rfl, rfl⟩))
    (fun os started H enc _ => evals_lifted os started H enc)
#print axioms evals_holds
end Go.Proofs.Ytppegjbdencefaa
