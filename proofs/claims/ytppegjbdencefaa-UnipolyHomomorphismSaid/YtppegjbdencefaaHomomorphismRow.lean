/-
  For every two polynomials and every fraction the law UnipolyHomomorphism returns true, and its arguments read behind the call as they read before. No conditions.
-/
import Derived.Test.YtppegjbdencefaaRows
import Derived.Test.YtppegjbdencefaaRows
import Derived.Test.YtppegjbdencefaaLaw7
import Derived.Test.YtppegjbdencefaaOpen
import Derived.ProofKit
import Derived.OpenShut
import Derived.ChangeOld
import Derived.Below
namespace Go.Proofs.Ytppegjbdencefaa
open Go.ChangeShapes Go.WideShapes Go.ChangeAt Go.RowKit Go.Gx
theorem homomorphism_own : ownKnob Try.prog.godebug = none := by kernel_rfl
theorem homomorphism_laidOut : laidOutB Try.prog = true := by kernel_rfl
theorem homomorphism_poly {H : Type} {enc : TypeId × Value → H} {w : World} {base : Nat} {spare : Nat → Bool} {held : Bool} {fuel : Nat} {A : Option Addr} {n c : Nat} {x : DataW H × List MemPlace}
    (h : DataW.trod enc Try.prog w base spare held fuel 23 [.slice A n c] = some x) : ∃ l, PolyR w (fun _ => True) A n c l 9223372036854775807 :=
  open_poly Try.underlying23 Try.underlying46 (tb := 4) (tn := 44) (tu := 62) ⟨rfl, rfl, by kernel_rfl, Try.underlying4⟩ ⟨rfl, rfl, by kernel_rfl, Try.underlying44⟩ ⟨Try.underlying62, by kernel_rfl⟩ (by kernel_rfl) h
theorem homomorphism_rat {H : Type} {enc : TypeId × Value → H} {w : World} {base : Nat} {spare : Nat → Bool} {held : Bool} {fuel : Nat} {cs : Array Value} {x : DataW H × List MemPlace}
    (hs : cs.size = 3) (h : DataW.trod enc Try.prog w base spare held fuel 64 cs.toList = some x) : ∃ g A n c d A2 n2 c2 d2, cs = #[.bool g, .slice A n c, .slice A2 n2 c2] ∧ NatR w (fun _ => True) A n c d ∧ NatR w (fun _ => True) A2 n2 c2 d2 :=
  open_rat Try.underlying64 Try.underlying46 (tb := 4) (tn := 44) (tu := 62) ⟨rfl, rfl, by kernel_rfl⟩ ⟨rfl, rfl⟩ ⟨rfl, rfl, by kernel_rfl, Try.underlying4⟩ ⟨rfl, rfl, by kernel_rfl, Try.underlying44⟩ ⟨Try.underlying62, by kernel_rfl⟩ hs h
set_option maxRecDepth 100000 in
theorem homomorphism_lifted (os : Os) (started : os.Started) (H : Type) (enc : TypeId × Value → H) :
    ReturnsInHanded {} Try.checked os 11 .any (Rows.unipolyHomomorphismSpec.pre6 enc Try.prog Try.f11 Rows.unipolyHomomorphismRow.domain false) (Rows.unipolyHomomorphismSpec.post enc Try.prog Try.f11 false true false false) := by
  refine returnsInHanded_of_change (C := Try.checked) homomorphism_own started (by kernel_rfl) Try.func11
    (ChangeSpec.witness6 (enc := enc) (C := Try.checked) false ⟨#[], #[.slice none 0 0, .slice none 0 0, .agg #[.bool false, .slice none 0 0, .slice none 0 0]], []⟩ 8 (by kernel_rfl) (by kernel_rfl) (by kernel_rfl) (by kernel_rfl)) ?_
  intro W base args ds gs before hval0 hW hcnd _
  have hval : ∀ (j : Nat) t v, Try.f11.params[j]? = some t → args[j]? = some v → Value.okWide Try.prog W .any base t v := hval0
  have hW' := hW
  obtain ⟨p, q, hA0, hV, rfl, hfz, hnd⟩ := hW
  have hA : DataW.TrodAll enc Try.prog W 0 (fun _ => true) true Try.f11.params.toList args.toList ds p := hA0
  rw [Try.params11] at hA hval
  obtain ⟨v0, vs0, d0, ds0, p0, q0, hargs, rfl, rfl, h0, r0⟩ := trodAll_cons hA
  obtain ⟨v1, vs1, d1, ds1, p1, q1, rfl, rfl, rfl, h1, r1⟩ := trodAll_cons r0
  obtain ⟨v2, vs2, d2, ds2, p2, q2, rfl, rfl, rfl, h2, r2⟩ := trodAll_cons r1
  obtain ⟨rfl, rfl, rfl⟩ := trodAll_nil r2
  obtain rfl : args = #[v0, v1, v2] := by cases args; simp_all
  obtain ⟨rfl, rfl⟩ := trodVars_none hV
  obtain ⟨A0, n0, c0, rfl⟩ := okWide_slice Try.underlying23 (hval 0 23 v0 rfl rfl)
  obtain ⟨A1, n1, c1, rfl⟩ := okWide_slice Try.underlying23 (hval 1 23 v1 rfl rfl)
  obtain ⟨cs2, rfl, hs2⟩ := okWide_struct Try.underlying64 (hval 2 64 v2 rfl rfl)
  replace hs2 : cs2.size = 3 := hs2.trans (by kernel_rfl)
  have k0 := h0
  have k1 := h1
  have k2 := h2
  have lt0 : ∀ x ∈ p0, x.block < W.heap.size := by obtain ⟨m, hm⟩ := k0; exact DataW.trod_lt m _ _ _ hm
  have lt1 : ∀ x ∈ p1, x.block < W.heap.size := by obtain ⟨m, hm⟩ := k1; exact DataW.trod_lt m _ _ _ hm
  have lt2 : ∀ x ∈ p2, x.block < W.heap.size := by obtain ⟨m, hm⟩ := k2; exact DataW.trod_lt m _ _ _ hm
  obtain ⟨l0, w0⟩ : ∃ l, PolyR W (fun _ => True) A0 n0 c0 l 9223372036854775807 := by obtain ⟨fuel, hf⟩ := h0; exact homomorphism_poly hf
  obtain ⟨l1, w1⟩ : ∃ l, PolyR W (fun _ => True) A1 n1 c1 l 9223372036854775807 := by obtain ⟨fuel, hf⟩ := h1; exact homomorphism_poly hf
  obtain ⟨g2, A2, n2, c2, d_2, A2b, n2b, c2b, d_2b, rfl, w2, w2b⟩ : ∃ g A n c d A2 n2 c2 d2, cs2 = #[.bool g, .slice A n c, .slice A2 n2 c2] ∧ NatR W (fun _ => True) A n c d ∧ NatR W (fun _ => True) A2 n2 c2 d2 := by obtain ⟨fuel, hf⟩ := h2; exact homomorphism_rat hs2 hf
  clear hA0 hval0
  refine (law08_homomorphism w0 w1 w2 w2b).mono fun e W' ⟨v, he, g, hv, hE, hg⟩ => ?_
  subst he hv hg
  have bel := hE.below
  exact ⟨_, rfl, _, _, _, [], _, [], hW', trodAll_mk1 (shut_bool Try.underlying4 _), (trodAll_cons_mk (Below.trod homomorphism_laidOut (by kernel_rfl) (of_decide_eq_true (by kernel_rfl)) k0 bel lt0) (trodAll_cons_mk (Below.trod homomorphism_laidOut (by kernel_rfl) (of_decide_eq_true (by kernel_rfl)) k1 bel lt1) (trodAll_cons_mk (Below.trod homomorphism_laidOut (by kernel_rfl) (of_decide_eq_true (by kernel_rfl)) k2 bel lt2) trodAll_mk0))), rfl, bel.frame _, fun h => by cases h⟩
theorem homomorphism_holds : Rows.UnipolyHomomorphismSaid :=
  OpenClaim.holds_of_wide 11 Try.f11 rfl rfl rfl rfl rfl rfl rfl ⟨rfl, rfl, rfl, rfl, rfl⟩ rfl rfl rfl rfl rfl (by kernel_rfl) Try.func11 (by kernel_rfl)
    (of_decide_eq_true (by kernel_rfl)) (by unfold Func.isWrapper; first | (rw [if_pos (by decide +kernel)]; kernel_rfl) | (rw [if_neg (by decide +kernel)]; exact ⟨rfl, rfl⟩))
    (fun os started H enc _ => homomorphism_lifted os started H enc)
#print axioms homomorphism_holds
end Go.Proofs.Ytppegjbdencefaa
