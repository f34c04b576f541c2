/-
  PointShape: for any point of at most 5 coordinates, Shape reports whether there are at most api.Vars, each rational, or with ascending ends and a polynomial whose highest level is its own; where the input's bulk is at most 1048576.
-/
import Derived.Test.YtebajgaabaffbaaGreatRows
import Derived.Test.YtebajgaabaffbaaGreatLaw31f
import Derived.Test.YtebajgaabaffbaaGreatLibF
import Derived.ProofKit
import Derived.OpenShut
import Derived.ChangeOld
import Derived.Below
import Derived.JoinedCond
namespace Go.Proofs.YtebajgaabaffbaaGreat
open Go.ChangeShapes Go.WideShapes Go.ChangeAt Go.RowKit Go.Gx
theorem shape_own : ownKnob Tryz.prog.godebug = none := by kernel_rfl
theorem shape_laidOut : laidOutB Tryz.prog = true := by kernel_rfl
theorem shape_types : PtT Tryz.prog 23 113 26 25 24 111 5 28 := ⟨⟨Tryz.underlying24, by kernel_rfl⟩, ⟨Tryz.underlying5, by kernel_rfl⟩, ⟨Tryz.underlying111, by kernel_rfl⟩, ⟨Tryz.underlying25, by kernel_rfl⟩, ⟨Tryz.underlying26, by kernel_rfl⟩, ⟨Tryz.underlying23, by kernel_rfl⟩, ⟨_, _, Tryz.underlying113, ⟨rfl, rfl⟩, ⟨rfl, rfl⟩, by kernel_rfl⟩, ⟨_, _, Tryz.underlying28, ⟨rfl, rfl⟩, ⟨rfl, rfl⟩, by kernel_rfl⟩⟩
set_option maxRecDepth 100000 in
theorem shape_lifted (os : Os) (started : os.Started) (H : Type) (enc : TypeId × Value → H) (F : Stop.Interp) :
  ReturnsInHanded {} Tryz.checked os 4 .any ((Rows.OpenSpec.upto Rows.pointShapeSpec).pre6 enc Tryz.prog Tryz.f4 Rows.pointShapeUptoRow.domain false) (((Rows.OpenSpec.upto Rows.pointShapeSpec).at F).post enc Tryz.prog Tryz.f4 false true false false) := by
 refine returnsInHanded_of_cond (C := Tryz.checked) (s := Rows.OpenSpec.upto Rows.pointShapeSpec) (k := Rows.uptoSmall) rfl shape_own started (by kernel_rfl) Tryz.func4
  (OpenSpec.witness (enc := enc) (C := Tryz.checked) (s := Rows.OpenSpec.upto Rows.pointShapeSpec) (k := Rows.uptoSmall) rfl false ⟨#[], #[.slice none 0 0], []⟩ 8 (by kernel_rfl) (by kernel_rfl) (by kernel_rfl)
   (x := ([.nil], [], [])) (by kernel_rfl) rfl (by kernel_rfl)) ?_
 intro W base args ds gs before hval0 hW _ hk _
 have hval : ∀ (j : Nat) t v, Tryz.f4.params[j]? = some t → args[j]? = some v → Value.okWide Tryz.prog W .any base t v := hval0
 have hW' := hW
 obtain ⟨p, q, hA0, hV, rfl, hfz, hnd⟩ := hW
 have hA : DataW.TrodAll enc Tryz.prog W 0 (fun _ => true) true Tryz.f4.params.toList args.toList ds p := hA0
 rw [Tryz.params4] at hA hval
 obtain ⟨v0, vs0, d0, ds0, p0, q0, hargs, rfl, rfl, h0, r0⟩ := trodAll_cons hA
 obtain ⟨rfl, rfl, rfl⟩ := trodAll_nil r0
 obtain rfl : args = #[v0] := by cases args; simp_all
 obtain ⟨rfl, rfl⟩ := trodVars_none hV
 have hbk := of_decide_eq_true hk
 simp only [List.append_nil, List.cons_append, List.nil_append, Rows.uptoBulkAll] at hbk
 obtain ⟨A0, n0, c0, rfl⟩ := okWide_slice Tryz.underlying56 (hval 0 56 v0 rfl rfl)
 have k0 := h0
 have lt0 : ∀ x ∈ p0, x.block < W.heap.size := by obtain ⟨m, hm⟩ := k0; exact DataW.trod_lt m _ _ _ hm
 obtain ⟨⟨l0, w0⟩, nb0⟩ : (∃ l, SListR UEK W (fun _ => True) A0 n0 c0 l) ∧ n0 ≤ 1048576 := by obtain ⟨fuel, hf⟩ := h0; exact shape_types.coords Tryz.underlying56 (by dsimp only; omega) hf
 clear hA0 hval0
 refine (law31_shape w0).mono fun e W' ⟨v, he, g, hv, hE, hg⟩ => ?_
 subst he hv hg
 have bel := hE.below
 exact ⟨_, rfl, _, _, _, [], _, [], hW', trodAll_mk1 (shut_bool Tryz.underlying4 _), (trodAll_cons_mk (Below.trod shape_laidOut (by kernel_rfl) (of_decide_eq_true (by kernel_rfl)) k0 bel lt0) trodAll_mk0), rfl, bel.frame _, fun h => by cases h⟩
theorem shape_holds : Rows.PointShapeUptoSaid :=
 OpenClaim.holds_of_cond 4 Tryz.f4 rfl rfl rfl rfl rfl rfl rfl ⟨rfl, rfl, rfl, rfl, rfl⟩ rfl rfl rfl rfl rfl (by kernel_rfl) Tryz.func4 (by kernel_rfl)
  (of_decide_eq_true (by kernel_rfl)) (by unfold Func.isWrapper; first | (rw [if_pos (by decide +kernel)]; kernel_rfl) | (rw [if_neg (by decide +kernel)]; exact ⟨rfl, rfl⟩))
  (fun os started H enc _ F => shape_lifted os started H enc F)
#print axioms shape_holds
end Go.Proofs.YtebajgaabaffbaaGreat
