/-
  PointExact: for any polynomial with at most 6 terms and exponents of at most 4, and any four rational coordinates, Enclose contains exactly the value there.
-/
import Derived.Test.YtebajgaabaffbaaGreatRows
import Derived.Test.YtebajgaabaffbaaGreatLaw31c
import Derived.Test.YtebajgaabaffbaaGreatLibE
import Derived.ProofKit
import Derived.OpenShut
import Derived.ChangeOld
import Derived.Below
import Derived.JoinedCond
namespace Go.Proofs.YtebajgaabaffbaaGreat
open Go.ChangeShapes Go.WideShapes Go.ChangeAt Go.RowKit Go.Gx
theorem exact_own : ownKnob Tryz.prog.godebug = none := by kernel_rfl
theorem exact_laidOut : laidOutB Tryz.prog = true := by kernel_rfl
theorem exact_types : PtT Tryz.prog 23 113 26 25 24 111 5 28 := ⟨⟨Tryz.underlying24, by kernel_rfl⟩, ⟨Tryz.underlying5, by kernel_rfl⟩, ⟨Tryz.underlying111, by kernel_rfl⟩, ⟨Tryz.underlying25, by kernel_rfl⟩, ⟨Tryz.underlying26, by kernel_rfl⟩, ⟨Tryz.underlying23, by kernel_rfl⟩, ⟨_, _, Tryz.underlying113, ⟨rfl, rfl⟩, ⟨rfl, rfl⟩, by kernel_rfl⟩, ⟨_, _, Tryz.underlying28, ⟨rfl, rfl⟩, ⟨rfl, rfl⟩, by kernel_rfl⟩⟩
set_option maxRecDepth 100000 in
theorem exact_lifted (os : Os) (started : os.Started) (H : Type) (enc : TypeId × Value → H) :
  ReturnsInHanded {} Tryz.checked os 7 .any (Rows.pointExactSpec.pre6 enc Tryz.prog Tryz.f7 Rows.pointExactRow.domain false) (Rows.pointExactSpec.post enc Tryz.prog Tryz.f7 false true false false) := by
 refine returnsInHanded_of_change (C := Tryz.checked) exact_own started (by kernel_rfl) Tryz.func7
  (ChangeSpec.witness6 (enc := enc) (C := Tryz.checked) false ⟨#[], #[.slice none 0 0, .agg #[.int .i8 0, .int .i8 0, .int .i8 0, .int .i8 0, .int .i8 0, .int .i8 0, .int .i8 0, .int .i8 0]], []⟩ 8 (by kernel_rfl) (by kernel_rfl) (by kernel_rfl) (by kernel_rfl)) ?_
 intro W base args ds gs before hval0 hW hcnd _
 have hval : ∀ (j : Nat) t v, Tryz.f7.params[j]? = some t → args[j]? = some v → Value.okWide Tryz.prog W .any base t v := hval0
 have hW' := hW
 obtain ⟨p, q, hA0, hV, rfl, hfz, hnd⟩ := hW
 have hA : DataW.TrodAll enc Tryz.prog W 0 (fun _ => true) true Tryz.f7.params.toList args.toList ds p := hA0
 rw [Tryz.params7] at hA hval
 obtain ⟨v0, vs0, d0, ds0, p0, q0, hargs, rfl, rfl, h0, r0⟩ := trodAll_cons hA
 obtain ⟨v1, vs1, d1, ds1, p1, q1, rfl, rfl, rfl, h1, r1⟩ := trodAll_cons r0
 obtain ⟨rfl, rfl, rfl⟩ := trodAll_nil r1
 obtain rfl : args = #[v0, v1] := by cases args; simp_all
 obtain ⟨rfl, rfl⟩ := trodVars_none hV
 obtain ⟨A0, n0, c0, rfl⟩ := okWide_slice Tryz.underlying23 (hval 0 23 v0 rfl rfl)
 obtain ⟨cs1, rfl, hs1⟩ := okWide_arr Tryz.underlying77 (hval 1 77 v1 rfl rfl)
 replace hs1 : cs1.size = 8 := hs1.trans (by kernel_rfl)
 have k0 := h0
 have k1 := h1
 have lt0 : ∀ x ∈ p0, x.block < W.heap.size := by obtain ⟨m, hm⟩ := k0; exact DataW.trod_lt m _ _ _ hm
 have lt1 : ∀ x ∈ p1, x.block < W.heap.size := by obtain ⟨m, hm⟩ := k1; exact DataW.trod_lt m _ _ _ hm
 obtain ⟨l0, w0⟩ : ∃ l, SListR MEK W (fun _ => True) A0 n0 c0 l := by obtain ⟨fuel, hf⟩ := h0; exact exact_types.monos0 hf
 obtain ⟨y1_0, y1_1, y1_2, y1_3, y1_4, y1_5, y1_6, y1_7, rfl, b1_0, b1_1, b1_2, b1_3, b1_4, b1_5, b1_6, b1_7⟩ := open_f8x4 (cs := cs1) Tryz.underlying77 Tryz.underlying25 Tryz.underlying24 (by kernel_rfl) (by kernel_rfl) hs1 h1
 clear hA0 hval0
 refine (law31_exact w0 b1_0 b1_1 b1_2 b1_3 b1_4 b1_5 b1_6 b1_7).mono fun e W' ⟨v, he, g, hv, hE, hg⟩ => ?_
 subst he hv hg
 have bel := hE.below
 exact ⟨_, rfl, _, _, _, [], _, [], hW', trodAll_mk1 (shut_bool Tryz.underlying4 _), (trodAll_cons_mk (Below.trod exact_laidOut (by kernel_rfl) (of_decide_eq_true (by kernel_rfl)) k0 bel lt0) (trodAll_cons_mk (Below.trod exact_laidOut (by kernel_rfl) (of_decide_eq_true (by kernel_rfl)) k1 bel lt1) trodAll_mk0)), rfl, bel.frame _, fun h => by cases h⟩
theorem exact_holds : Rows.PointExactSaid :=
 OpenClaim.holds_of_wide 7 Tryz.f7 rfl rfl rfl rfl rfl rfl rfl ⟨rfl, rfl, rfl, rfl, rfl⟩ rfl rfl rfl rfl rfl (by kernel_rfl) Tryz.func7 (by kernel_rfl)
  (of_decide_eq_true (by kernel_rfl)) (by unfold Func.isWrapper; first | (rw [if_pos (by decide +kernel)]; kernel_rfl) | (rw [if_neg (by decide +kernel)]; exact ⟨rfl, rfl⟩))
  (fun os started H enc _ => exact_lifted os started H enc)
#print axioms exact_holds
end Go.Proofs.YtebajgaabaffbaaGreat
