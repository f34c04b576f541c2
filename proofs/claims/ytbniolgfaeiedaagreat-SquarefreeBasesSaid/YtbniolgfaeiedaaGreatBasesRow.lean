/-
  For every array of four slices of triples of int8 the law SquarefreeBases returns true, and its argument reads behind the call as it read before. No conditions.
-/
import Derived.Test.YtbniolgfaeiedaaGreatRows
import Derived.Test.YtbniolgfaeiedaaGreatLaw11j
import Derived.Test.YtbniolgfaeiedaaGreatLibE
import Derived.ProofKit
import Derived.OpenShut
import Derived.ChangeOld
import Derived.Below
namespace Go.Proofs.YtbniolgfaeiedaaGreat
open Go.ChangeShapes Go.WideShapes Go.ChangeAt Go.RowKit Go.Gx
theorem bases_own : ownKnob Tryz.prog.godebug = none := by kernel_rfl
theorem bases_laidOut : laidOutB Tryz.prog = true := by kernel_rfl
set_option maxRecDepth 100000 in
theorem bases_lifted (os : Os) (started : os.Started) (H : Type) (enc : TypeId × Value → H) :
    ReturnsInHanded {} Tryz.checked os 3 .any (Rows.squarefreeBasesSpec.pre6 enc Tryz.prog Tryz.f3 Rows.squarefreeBasesRow.domain false) (Rows.squarefreeBasesSpec.post enc Tryz.prog Tryz.f3 false true false false) := by
  refine returnsInHanded_of_change (C := Tryz.checked) bases_own started (by kernel_rfl) Tryz.func3
    (ChangeSpec.witness6 (enc := enc) (C := Tryz.checked) false ⟨#[], #[.agg #[.slice none 0 0, .slice none 0 0, .slice none 0 0, .slice none 0 0]], []⟩ 8 (by kernel_rfl) (by kernel_rfl) (by kernel_rfl) (by kernel_rfl)) ?_
  intro W base args ds gs before hval0 hW hcnd _
  have hval : ∀ (j : Nat) t v, Tryz.f3.params[j]? = some t → args[j]? = some v → Value.okWide Tryz.prog W .any base t v := hval0
  have hW' := hW
  obtain ⟨p, q, hA0, hV, rfl, hfz, hnd⟩ := hW
  have hA : DataW.TrodAll enc Tryz.prog W 0 (fun _ => true) true Tryz.f3.params.toList args.toList ds p := hA0
  rw [Tryz.params3] at hA hval
  obtain ⟨v0, vs0, d0, ds0, p0, q0, hargs, rfl, rfl, h0, r0⟩ := trodAll_cons hA
  obtain ⟨rfl, rfl, rfl⟩ := trodAll_nil r0
  obtain rfl : args = #[v0] := by cases args; simp_all
  obtain ⟨rfl, rfl⟩ := trodVars_none hV
  obtain ⟨cs0, rfl, hs0⟩ := okWide_arr Tryz.underlying23 (hval 0 23 v0 rfl rfl)
  replace hs0 : cs0.size = 4 := hs0.trans (by kernel_rfl)
  have k0 := h0
  have lt0 : ∀ x ∈ p0, x.block < W.heap.size := by obtain ⟨m, hm⟩ := k0; exact DataW.trod_lt m _ _ _ hm
  obtain ⟨Aa0, na0, ca0, ta0, Ab0, nb0, cb0, tb0, Ac0, nc0, cc0, tc0, Ad0, nd0, cd0, td0, rfl, wa0, wb0, wc0, wd0⟩ : ∃ A0 n0 c0 t0 A1 n1 c1 t1 A2 n2 c2 t2 A3 n3 c3 t3, cs0 = #[.slice A0 n0 c0, .slice A1 n1 c1, .slice A2 n2 c2, .slice A3 n3 c3] ∧ TripR W (fun _ => True) A0 n0 c0 t0 ∧ TripR W (fun _ => True) A1 n1 c1 t1 ∧ TripR W (fun _ => True) A2 n2 c2 t2 ∧ TripR W (fun _ => True) A3 n3 c3 t3 := by obtain ⟨fuel, hf⟩ := h0; exact open_tripsx4 Tryz.underlying23 Tryz.underlying22 Tryz.underlying54 Tryz.underlying53 (by kernel_rfl) (by kernel_rfl) (by kernel_rfl) hs0 hf
  clear hA0 hval0
  refine (law11_bases wa0 wb0 wc0 wd0).mono fun e W' ⟨v, he, g, hv, hE, hg⟩ => ?_
  subst he hv hg
  have bel := hE.below
  exact ⟨_, rfl, _, _, _, [], _, [], hW', trodAll_mk1 (shut_bool Tryz.underlying4 _), (trodAll_cons_mk (Below.trod bases_laidOut (by kernel_rfl) (of_decide_eq_true (by kernel_rfl)) k0 bel lt0) trodAll_mk0), rfl, bel.frame _, fun h => by cases h⟩
theorem bases_holds : Rows.SquarefreeBasesSaid :=
  OpenClaim.holds_of_wide 3 Tryz.f3 rfl rfl rfl rfl rfl rfl rfl ⟨rfl, rfl, rfl, rfl, rfl⟩ rfl rfl rfl rfl rfl (by kernel_rfl) Tryz.func3 (by kernel_rfl)
    (of_decide_eq_true (by kernel_rfl)) (by unfold Func.isWrapper; first | (rw [if_pos (by decide +kernel)]; kernel_rfl) | (rw [if_neg (by decide +kernel)]; exact ⟨rfl, rfl⟩))
    (fun os started H enc _ => bases_lifted os started H enc)
#print axioms bases_holds
end Go.Proofs.YtbniolgfaeiedaaGreat
