/-
  PointShrinks: for any polynomial with at most 6 terms and exponents of at most 4, and any four intervals, the enclosure over smaller intervals lies within the enclosure over them, and contains the value at their middles.
-/
import Derived.Test.YtebajgaabaffbaaGreatRows
import Derived.Test.YtebajgaabaffbaaGreatLaw31d
import Derived.Test.YtebajgaabaffbaaGreatLibE
import Derived.ProofKit
import Derived.OpenShut
import Derived.ChangeOld
import Derived.Below
import Derived.JoinedCond
namespace Go.Proofs.YtebajgaabaffbaaGreat
open Go.ChangeShapes Go.WideShapes Go.ChangeAt Go.RowKit Go.Gx
theorem shrinks_own : ownKnob Tryz.prog.godebug = none := by kernel_rfl
theorem shrinks_laidOut : laidOutB Tryz.prog = true := by kernel_rfl
theorem shrinks_types : PtT Tryz.prog 23 113 26 25 24 111 5 28 := ⟨⟨Tryz.underlying24, by kernel_rfl⟩, ⟨Tryz.underlying5, by kernel_rfl⟩, ⟨Tryz.underlying111, by kernel_rfl⟩, ⟨Tryz.underlying25, by kernel_rfl⟩, ⟨Tryz.underlying26, by kernel_rfl⟩, ⟨Tryz.underlying23, by kernel_rfl⟩, ⟨_, _, Tryz.underlying113, ⟨rfl, rfl⟩, ⟨rfl, rfl⟩, by kernel_rfl⟩, ⟨_, _, Tryz.underlying28, ⟨rfl, rfl⟩, ⟨rfl, rfl⟩, by kernel_rfl⟩⟩
set_option maxRecDepth 100000 in
theorem shrinks_lifted (os : Os) (started : os.Started) (H : Type) (enc : TypeId × Value → H) :
  ReturnsInHanded {} Tryz.checked os 9 .any (Rows.pointShrinksSpec.pre6 enc Tryz.prog Tryz.f9 Rows.pointShrinksRow.domain false) (Rows.pointShrinksSpec.post enc Tryz.prog Tryz.f9 false true false false) := by
 refine returnsInHanded_of_change (C := Tryz.checked) shrinks_own started (by kernel_rfl) Tryz.func9
  (ChangeSpec.witness6 (enc := enc) (C := Tryz.checked) false ⟨#[], #[.slice none 0 0, .agg #[.int .i8 0, .int .i8 0, .int .i8 0, .int .i8 0, .int .i8 0, .int .i8 0, .int .i8 0, .int .i8 0, .int .i8 0, .int .i8 0, .int .i8 0, .int .i8 0, .int .i8 0, .int .i8 0, .int .i8 0, .int .i8 0], .int .u8 0], []⟩ 8 (by kernel_rfl) (by kernel_rfl) (by kernel_rfl) (by kernel_rfl)) ?_
 intro W base args ds gs before hval0 hW hcnd _
 have hval : ∀ (j : Nat) t v, Tryz.f9.params[j]? = some t → args[j]? = some v → Value.okWide Tryz.prog W .any base t v := hval0
 have hW' := hW
 obtain ⟨p, q, hA0, hV, rfl, hfz, hnd⟩ := hW
 have hA : DataW.TrodAll enc Tryz.prog W 0 (fun _ => true) true Tryz.f9.params.toList args.toList ds p := hA0
 rw [Tryz.params9] at hA hval
 obtain ⟨v0, vs0, d0, ds0, p0, q0, hargs, rfl, rfl, h0, r0⟩ := trodAll_cons hA
 obtain ⟨v1, vs1, d1, ds1, p1, q1, rfl, rfl, rfl, h1, r1⟩ := trodAll_cons r0
 obtain ⟨v2, vs2, d2, ds2, p2, q2, rfl, rfl, rfl, h2, r2⟩ := trodAll_cons r1
 obtain ⟨rfl, rfl, rfl⟩ := trodAll_nil r2
 obtain rfl : args = #[v0, v1, v2] := by cases args; simp_all
 obtain ⟨rfl, rfl⟩ := trodVars_none hV
 obtain ⟨A0, n0, c0, rfl⟩ := okWide_slice Tryz.underlying23 (hval 0 23 v0 rfl rfl)
 obtain ⟨cs1, rfl, hs1⟩ := okWide_arr Tryz.underlying89 (hval 1 89 v1 rfl rfl)
 replace hs1 : cs1.size = 16 := hs1.trans (by kernel_rfl)
 obtain ⟨x2, rfl⟩ := okWide_int Tryz.underlying5 (hval 2 5 v2 rfl rfl)
 have k0 := h0
 have k1 := h1
 have k2 := h2
 have lt0 : ∀ x ∈ p0, x.block < W.heap.size := by obtain ⟨m, hm⟩ := k0; exact DataW.trod_lt m _ _ _ hm
 have lt1 : ∀ x ∈ p1, x.block < W.heap.size := by obtain ⟨m, hm⟩ := k1; exact DataW.trod_lt m _ _ _ hm
 have lt2 : ∀ x ∈ p2, x.block < W.heap.size := by obtain ⟨m, hm⟩ := k2; exact DataW.trod_lt m _ _ _ hm
 obtain ⟨l0, w0⟩ : ∃ l, SListR MEK W (fun _ => True) A0 n0 c0 l := by obtain ⟨fuel, hf⟩ := h0; exact shrinks_types.monos0 hf
 obtain ⟨y1_0, y1_1, y1_2, y1_3, y1_4, y1_5, y1_6, y1_7, y1_8, y1_9, y1_10, y1_11, y1_12, y1_13, y1_14, y1_15, rfl, b1_0, b1_1, b1_2, b1_3, b1_4, b1_5, b1_6, b1_7, b1_8, b1_9, b1_10, b1_11, b1_12, b1_13, b1_14, b1_15⟩ := open_iv4 (cs := cs1) Tryz.underlying89 Tryz.underlying26 Tryz.underlying25 Tryz.underlying24 (by kernel_rfl) (by kernel_rfl) (by kernel_rfl) hs1 h1
 obtain ⟨y2, rfl, b2⟩ : ∃ y : Nat, x2 = (y : Int) ∧ y < 256 := by obtain ⟨fuel, hf⟩ := h2; exact u8_came Tryz.underlying5 hf
 clear hA0 hval0
 refine (law31_shrinks w0 b1_0 b1_1 b1_2 b1_3 b1_4 b1_5 b1_6 b1_7 b1_8 b1_9 b1_10 b1_11 b1_12 b1_13 b1_14 b1_15 b2).mono fun e W' ⟨v, he, g, hv, hE, hg⟩ => ?_
 subst he hv hg
 have bel := hE.below
 exact ⟨_, rfl, _, _, _, [], _, [], hW', trodAll_mk1 (shut_bool Tryz.underlying4 _), (trodAll_cons_mk (Below.trod shrinks_laidOut (by kernel_rfl) (of_decide_eq_true (by kernel_rfl)) k0 bel lt0) (trodAll_cons_mk (Below.trod shrinks_laidOut (by kernel_rfl) (of_decide_eq_true (by kernel_rfl)) k1 bel lt1) (trodAll_cons_mk (Below.trod shrinks_laidOut (by kernel_rfl) (of_decide_eq_true (by kernel_rfl)) k2 bel lt2) trodAll_mk0))), rfl, bel.frame _, fun h => by cases h⟩
theorem shrinks_holds : Rows.PointShrinksSaid :=
 OpenClaim.holds_of_wide 9 Tryz.f9 rfl rfl rfl rfl rfl rfl rfl ⟨rfl, rfl, rfl, rfl, rfl⟩ rfl rfl rfl rfl rfl (by kernel_rfl) Tryz.func9 (by kernel_rfl)
  (of_decide_eq_true (by kernel_rfl)) (by unfold Func.isWrapper; first | (rw [if_pos (by decide +kernel)]; kernel_rfl) | (rw [if_neg (by decide +kernel)]; exact ⟨rfl, rfl⟩))
  (fun os started H enc _ => shrinks_lifted os started H enc)
#print axioms shrinks_holds
end Go.Proofs.YtebajgaabaffbaaGreat
