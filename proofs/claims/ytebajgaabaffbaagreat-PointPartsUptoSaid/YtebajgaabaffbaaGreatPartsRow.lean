/-
  PointParts: for any point of at most 4 coordinates, Extend appends a coordinate, Prefix returns the first ones, limited to the range, and neither shares its list with the argument; where the input's bulk is at most 1048576.
-/
import Derived.Test.YtebajgaabaffbaaGreatRows
import Derived.Test.YtebajgaabaffbaaGreatLaw31e
import Derived.Test.YtebajgaabaffbaaGreatLibE
import Derived.ProofKit
import Derived.OpenShut
import Derived.ChangeOld
import Derived.Below
import Derived.JoinedCond
namespace Go.Proofs.YtebajgaabaffbaaGreat
open Go.ChangeShapes Go.WideShapes Go.ChangeAt Go.RowKit Go.Gx
theorem parts_own : ownKnob Tryz.prog.godebug = none := by kernel_rfl
theorem parts_laidOut : laidOutB Tryz.prog = true := by kernel_rfl
theorem parts_types : PtT Tryz.prog 23 113 26 25 24 111 5 28 := ⟨⟨Tryz.underlying24, by kernel_rfl⟩, ⟨Tryz.underlying5, by kernel_rfl⟩, ⟨Tryz.underlying111, by kernel_rfl⟩, ⟨Tryz.underlying25, by kernel_rfl⟩, ⟨Tryz.underlying26, by kernel_rfl⟩, ⟨Tryz.underlying23, by kernel_rfl⟩, ⟨_, _, Tryz.underlying113, ⟨rfl, rfl⟩, ⟨rfl, rfl⟩, by kernel_rfl⟩, ⟨_, _, Tryz.underlying28, ⟨rfl, rfl⟩, ⟨rfl, rfl⟩, by kernel_rfl⟩⟩
set_option maxRecDepth 100000 in
theorem parts_lifted (os : Os) (started : os.Started) (H : Type) (enc : TypeId × Value → H) (F : Stop.Interp) :
  ReturnsInHanded {} Tryz.checked os 5 .any ((Rows.OpenSpec.upto Rows.pointPartsSpec).pre6 enc Tryz.prog Tryz.f5 Rows.pointPartsUptoRow.domain false) (((Rows.OpenSpec.upto Rows.pointPartsSpec).at F).post enc Tryz.prog Tryz.f5 false true false false) := by
 refine returnsInHanded_of_cond (C := Tryz.checked) (s := Rows.OpenSpec.upto Rows.pointPartsSpec) (k := Rows.uptoSmall) rfl parts_own started (by kernel_rfl) Tryz.func5
  (OpenSpec.witness (enc := enc) (C := Tryz.checked) (s := Rows.OpenSpec.upto Rows.pointPartsSpec) (k := Rows.uptoSmall) rfl false ⟨#[], #[.slice none 0 0, .agg #[.slice none 0 0, .int .i8 0, .int .i8 0, .int .i8 0, .int .i8 0], .int .i8 0], []⟩ 8 (by kernel_rfl) (by kernel_rfl) (by kernel_rfl)
   (x := ([.nil, .agg [.nil, .agg [.agg [.lit (.int .i8 0), .lit (.int .i8 0)], .agg [.lit (.int .i8 0), .lit (.int .i8 0)]]], .lit (.int .i8 0)], [], [])) (by kernel_rfl) rfl (by kernel_rfl)) ?_
 intro W base args ds gs before hval0 hW _ hk _
 have hval : ∀ (j : Nat) t v, Tryz.f5.params[j]? = some t → args[j]? = some v → Value.okWide Tryz.prog W .any base t v := hval0
 have hW' := hW
 obtain ⟨p, q, hA0, hV, rfl, hfz, hnd⟩ := hW
 have hA : DataW.TrodAll enc Tryz.prog W 0 (fun _ => true) true Tryz.f5.params.toList args.toList ds p := hA0
 rw [Tryz.params5] at hA hval
 obtain ⟨v0, vs0, d0, ds0, p0, q0, hargs, rfl, rfl, h0, r0⟩ := trodAll_cons hA
 obtain ⟨v1, vs1, d1, ds1, p1, q1, rfl, rfl, rfl, h1, r1⟩ := trodAll_cons r0
 obtain ⟨v2, vs2, d2, ds2, p2, q2, rfl, rfl, rfl, h2, r2⟩ := trodAll_cons r1
 obtain ⟨rfl, rfl, rfl⟩ := trodAll_nil r2
 obtain rfl : args = #[v0, v1, v2] := by cases args; simp_all
 obtain ⟨rfl, rfl⟩ := trodVars_none hV
 have hbk := of_decide_eq_true hk
 simp only [List.append_nil, List.cons_append, List.nil_append, Rows.uptoBulkAll] at hbk
 obtain ⟨A0, n0, c0, rfl⟩ := okWide_slice Tryz.underlying56 (hval 0 56 v0 rfl rfl)
 obtain ⟨cs1, rfl, hs1⟩ := okWide_struct Tryz.underlying28 (hval 1 28 v1 rfl rfl)
 replace hs1 : cs1.size = 5 := hs1.trans (by kernel_rfl)
 obtain ⟨x2, rfl⟩ := okWide_int Tryz.underlying24 (hval 2 24 v2 rfl rfl)
 have k0 := h0
 have k1 := h1
 have k2 := h2
 have lt0 : ∀ x ∈ p0, x.block < W.heap.size := by obtain ⟨m, hm⟩ := k0; exact DataW.trod_lt m _ _ _ hm
 have lt1 : ∀ x ∈ p1, x.block < W.heap.size := by obtain ⟨m, hm⟩ := k1; exact DataW.trod_lt m _ _ _ hm
 have lt2 : ∀ x ∈ p2, x.block < W.heap.size := by obtain ⟨m, hm⟩ := k2; exact DataW.trod_lt m _ _ _ hm
 obtain ⟨⟨l0, w0⟩, nb0⟩ : (∃ l, SListR UEK W (fun _ => True) A0 n0 c0 l) ∧ n0 ≤ 1048576 := by obtain ⟨fuel, hf⟩ := h0; exact parts_types.coords Tryz.underlying56 (by dsimp only; omega) hf
 obtain ⟨⟨A1, n1, c1, l1, fa1, fb1, fp1, fq1⟩, hc1, w1⟩ : ∃ f, cs1.toList = UEK.cells f ∧ UEK.R W (fun _ => True) f := by obtain ⟨fuel, hf⟩ := h1; exact parts_types.coord _ _ _ (by simpa using hs1) (by dsimp only; omega) hf
 obtain rfl : cs1 = #[.slice A1 n1 c1, .int .i8 fa1, .int .i8 fb1, .int .i8 fp1, .int .i8 fq1] := arr_of hc1
 have b2 : -128 ≤ x2 ∧ x2 ≤ 127 := by obtain ⟨fuel, hf⟩ := h2; exact i8_came Tryz.underlying24 hf
 clear hA0 hval0
 refine (law31_parts w0 w1 b2).mono fun e W' ⟨v, he, g, hv, hE, hg⟩ => ?_
 subst he hv hg
 have bel := hE.below
 exact ⟨_, rfl, _, _, _, [], _, [], hW', trodAll_mk1 (shut_bool Tryz.underlying4 _), (trodAll_cons_mk (Below.trod parts_laidOut (by kernel_rfl) (of_decide_eq_true (by kernel_rfl)) k0 bel lt0) (trodAll_cons_mk (Below.trod parts_laidOut (by kernel_rfl) (of_decide_eq_true (by kernel_rfl)) k1 bel lt1) (trodAll_cons_mk (Below.trod parts_laidOut (by kernel_rfl) (of_decide_eq_true (by kernel_rfl)) k2 bel lt2) trodAll_mk0))), rfl, bel.frame _, fun h => by cases h⟩
theorem parts_holds : Rows.PointPartsUptoSaid :=
 OpenClaim.holds_of_cond 5 Tryz.f5 rfl rfl rfl rfl rfl rfl rfl ⟨rfl, rfl, rfl, rfl, rfl⟩ rfl rfl rfl rfl rfl (by kernel_rfl) Tryz.func5 (by kernel_rfl)
  (of_decide_eq_true (by kernel_rfl)) (by unfold Func.isWrapper; first | (rw [if_pos (by decide +kernel)]; kernel_rfl) | (rw [if_neg (by decide +kernel)]; exact ⟨rfl, rfl⟩))
  (fun os started H enc _ F => parts_lifted os started H enc F)
#print axioms parts_holds
end Go.Proofs.YtebajgaabaffbaaGreat
