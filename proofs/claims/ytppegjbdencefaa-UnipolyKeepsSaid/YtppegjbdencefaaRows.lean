/-
  No cell of these rows narrows 'for every input' (looked for: loops, veiled, ifaces, maps, wideKeys, modest, calm, conditions, laid).
  DERIVED. THE GIVEN ROWS OF THIS SEAT. 9 by the template 'for every input the law returns true; each argument reads behind the call as it read before'; 0 by the template 'total and deterministic' (their statements: YtppegjbdencefaaTotals.lean).
  GIVEN WITH THE SEED: the statements are not yours to turn. If you find one false, say at which input.
  Laid BY PROGRAM, IN A SANDBOX (cutbox-rows.mjs): the forced cells as the released guide's own fill.sh prints them over the translation b9dea2eb25459f63… (all of the seat's roots in one cut). By AI agents, Wed Nov 11 2026. No macro, syntax, notation, axiom, sorry.
-/
import Derived.Test.YtppegjbdencefaaChecked
import GoSem.Claim
import GoSem.ClaimJoined
import GoSem.ClaimMapViews
import Derived.JoinedTies
import Derived.KernelRfl
namespace Go.Proofs.Ytppegjbdencefaa
/- THE CELL 'sum', in the pinned program and in every row, IS THE sha256 OF THE DUMP (.gsa) THAT YtppegjbdencefaaProg.lean LOADS. Nothing in Lean hashes anything: it is a label: what it is worth is what the hold of that sum in a sandbox is worth. -/
noncomputable def Try.pinned : Pinned := { name := "ytppegjbdencefaa", sum := "b9dea2eb25459f63874a503d60da99657e5f7e111bcbf988964fd103d09af271", checked := Try.checked }
namespace Rows
def none {H : Type} : Left H := { results := [], args := [] }

/-- 'cylinderlaw08.UnipolyMuls': WHATEVER THE INPUT: true; the input reads as it did. -/
def unipolyMulsSpec : ChangeSpec := { name := "unipolyMuls", fn := fun _ => fun
  | [d1, d2, d3] => { results := [.lit (.bool true)], args := [d1, d2, d3] }
  | _ => none }
def unipolyMulsRow : OpenClaim := { program := "ytppegjbdencefaa", sum := "b9dea2eb25459f63874a503d60da99657e5f7e111bcbf988964fd103d09af271", func := "cylinder/cylinderlaw08.UnipolyMuls", spec := "unipolyMuls", unfollowed := true, recurses := true, apart := false }
def UnipolyMulsSaid : Prop := unipolyMulsRow.holds Try.pinned (OpenSpec.ofChange unipolyMulsSpec)

/-- ITS FALSE NEIGHBOUR: 'it returns false'. Refute it at one input. -/
def unipolyMulsWrong : ChangeSpec := { name := "unipolyMuls", fn := fun _ => fun
  | [d1, d2, d3] => { results := [.lit (.bool false)], args := [d1, d2, d3] }
  | _ => none }
def UnipolyMulsWrongFalsely : Prop := unipolyMulsRow.holds Try.pinned (OpenSpec.ofChange unipolyMulsWrong)

/-- 'cylinderlaw08.UnipolyRing': WHATEVER THE INPUT: true; the input reads as it did. -/
def unipolyRingSpec : ChangeSpec := { name := "unipolyRing", fn := fun _ => fun
  | [d1, d2, d3] => { results := [.lit (.bool true)], args := [d1, d2, d3] }
  | _ => none }
def unipolyRingRow : OpenClaim := { program := "ytppegjbdencefaa", sum := "b9dea2eb25459f63874a503d60da99657e5f7e111bcbf988964fd103d09af271", func := "cylinder/cylinderlaw08.UnipolyRing", spec := "unipolyRing", unfollowed := true, recurses := true, apart := false }
def UnipolyRingSaid : Prop := unipolyRingRow.holds Try.pinned (OpenSpec.ofChange unipolyRingSpec)

/-- ITS FALSE NEIGHBOUR: 'it returns false'. Refute it at one input. -/
def unipolyRingWrong : ChangeSpec := { name := "unipolyRing", fn := fun _ => fun
  | [d1, d2, d3] => { results := [.lit (.bool false)], args := [d1, d2, d3] }
  | _ => none }
def UnipolyRingWrongFalsely : Prop := unipolyRingRow.holds Try.pinned (OpenSpec.ofChange unipolyRingWrong)

/-- 'cylinderlaw08.UnipolyChanges': WHATEVER THE INPUT: true; the input reads as it did. -/
def unipolyChangesSpec : ChangeSpec := { name := "unipolyChanges", fn := fun _ => fun
  | [d1, d2, d3] => { results := [.lit (.bool true)], args := [d1, d2, d3] }
  | _ => none }
def unipolyChangesRow : OpenClaim := { program := "ytppegjbdencefaa", sum := "b9dea2eb25459f63874a503d60da99657e5f7e111bcbf988964fd103d09af271", func := "cylinder/cylinderlaw08.UnipolyChanges", spec := "unipolyChanges", unfollowed := true, recurses := true, apart := false }
def UnipolyChangesSaid : Prop := unipolyChangesRow.holds Try.pinned (OpenSpec.ofChange unipolyChangesSpec)

/-- ITS FALSE NEIGHBOUR: 'it returns false'. Refute it at one input. -/
def unipolyChangesWrong : ChangeSpec := { name := "unipolyChanges", fn := fun _ => fun
  | [d1, d2, d3] => { results := [.lit (.bool false)], args := [d1, d2, d3] }
  | _ => none }
def UnipolyChangesWrongFalsely : Prop := unipolyChangesRow.holds Try.pinned (OpenSpec.ofChange unipolyChangesWrong)

/-- 'cylinderlaw08.UnipolyAdds': WHATEVER THE INPUT: true; the input reads as it did. -/
def unipolyAddsSpec : ChangeSpec := { name := "unipolyAdds", fn := fun _ => fun
  | [d1, d2, d3] => { results := [.lit (.bool true)], args := [d1, d2, d3] }
  | _ => none }
def unipolyAddsRow : OpenClaim := { program := "ytppegjbdencefaa", sum := "b9dea2eb25459f63874a503d60da99657e5f7e111bcbf988964fd103d09af271", func := "cylinder/cylinderlaw08.UnipolyAdds", spec := "unipolyAdds", unfollowed := true, recurses := true, apart := false }
def UnipolyAddsSaid : Prop := unipolyAddsRow.holds Try.pinned (OpenSpec.ofChange unipolyAddsSpec)

/-- ITS FALSE NEIGHBOUR: 'it returns false'. Refute it at one input. -/
def unipolyAddsWrong : ChangeSpec := { name := "unipolyAdds", fn := fun _ => fun
  | [d1, d2, d3] => { results := [.lit (.bool false)], args := [d1, d2, d3] }
  | _ => none }
def UnipolyAddsWrongFalsely : Prop := unipolyAddsRow.holds Try.pinned (OpenSpec.ofChange unipolyAddsWrong)

/-- 'cylinderlaw08.UnipolyKeeps': WHATEVER THE INPUT: true; the input reads as it did. -/
def unipolyKeepsSpec : ChangeSpec := { name := "unipolyKeeps", fn := fun _ => fun
  | [d1, d2] => { results := [.lit (.bool true)], args := [d1, d2] }
  | _ => none }
def unipolyKeepsRow : OpenClaim := { program := "ytppegjbdencefaa", sum := "b9dea2eb25459f63874a503d60da99657e5f7e111bcbf988964fd103d09af271", func := "cylinder/cylinderlaw08.UnipolyKeeps", spec := "unipolyKeeps", unfollowed := true, recurses := true, apart := false }
def UnipolyKeepsSaid : Prop := unipolyKeepsRow.holds Try.pinned (OpenSpec.ofChange unipolyKeepsSpec)

/-- ITS FALSE NEIGHBOUR: 'it returns false'. Refute it at one input. -/
def unipolyKeepsWrong : ChangeSpec := { name := "unipolyKeeps", fn := fun _ => fun
  | [d1, d2] => { results := [.lit (.bool false)], args := [d1, d2] }
  | _ => none }
def UnipolyKeepsWrongFalsely : Prop := unipolyKeepsRow.holds Try.pinned (OpenSpec.ofChange unipolyKeepsWrong)

/-- 'cylinderlaw08.UnipolyEvals': WHATEVER THE INPUT: true; the input reads as it did. -/
def unipolyEvalsSpec : ChangeSpec := { name := "unipolyEvals", fn := fun _ => fun
  | [d1, d2] => { results := [.lit (.bool true)], args := [d1, d2] }
  | _ => none }
def unipolyEvalsRow : OpenClaim := { program := "ytppegjbdencefaa", sum := "b9dea2eb25459f63874a503d60da99657e5f7e111bcbf988964fd103d09af271", func := "cylinder/cylinderlaw08.UnipolyEvals", spec := "unipolyEvals", unfollowed := true, recurses := true, named := ["math/bits.overflowError"], apart := false }
def UnipolyEvalsSaid : Prop := unipolyEvalsRow.holds Try.pinned (OpenSpec.ofChange unipolyEvalsSpec)

/-- ITS FALSE NEIGHBOUR: 'it returns false'. Refute it at one input. -/
def unipolyEvalsWrong : ChangeSpec := { name := "unipolyEvals", fn := fun _ => fun
  | [d1, d2] => { results := [.lit (.bool false)], args := [d1, d2] }
  | _ => none }
def UnipolyEvalsWrongFalsely : Prop := unipolyEvalsRow.holds Try.pinned (OpenSpec.ofChange unipolyEvalsWrong)

/-- 'cylinderlaw08.UnipolyEnds': WHATEVER THE INPUT: true; the input reads as it did. -/
def unipolyEndsSpec : ChangeSpec := { name := "unipolyEnds", fn := fun _ => fun
  | [d1, d2, d3] => { results := [.lit (.bool true)], args := [d1, d2, d3] }
  | _ => none }
def unipolyEndsRow : OpenClaim := { program := "ytppegjbdencefaa", sum := "b9dea2eb25459f63874a503d60da99657e5f7e111bcbf988964fd103d09af271", func := "cylinder/cylinderlaw08.UnipolyEnds", spec := "unipolyEnds", unfollowed := true, recurses := true, named := ["math/bits.overflowError"], apart := false }
def UnipolyEndsSaid : Prop := unipolyEndsRow.holds Try.pinned (OpenSpec.ofChange unipolyEndsSpec)

/-- ITS FALSE NEIGHBOUR: 'it returns false'. Refute it at one input. -/
def unipolyEndsWrong : ChangeSpec := { name := "unipolyEnds", fn := fun _ => fun
  | [d1, d2, d3] => { results := [.lit (.bool false)], args := [d1, d2, d3] }
  | _ => none }
def UnipolyEndsWrongFalsely : Prop := unipolyEndsRow.holds Try.pinned (OpenSpec.ofChange unipolyEndsWrong)

/-- 'cylinderlaw08.UnipolyInverse': WHATEVER THE INPUT: true; the input reads as it did. -/
def unipolyInverseSpec : ChangeSpec := { name := "unipolyInverse", fn := fun _ => fun
  | [d1, d2, d3] => { results := [.lit (.bool true)], args := [d1, d2, d3] }
  | _ => none }
def unipolyInverseRow : OpenClaim := { program := "ytppegjbdencefaa", sum := "b9dea2eb25459f63874a503d60da99657e5f7e111bcbf988964fd103d09af271", func := "cylinder/cylinderlaw08.UnipolyInverse", spec := "unipolyInverse", unfollowed := true, recurses := true, named := ["math/bits.overflowError"], apart := false }
def UnipolyInverseSaid : Prop := unipolyInverseRow.holds Try.pinned (OpenSpec.ofChange unipolyInverseSpec)

/-- ITS FALSE NEIGHBOUR: 'it returns false'. Refute it at one input. -/
def unipolyInverseWrong : ChangeSpec := { name := "unipolyInverse", fn := fun _ => fun
  | [d1, d2, d3] => { results := [.lit (.bool false)], args := [d1, d2, d3] }
  | _ => none }
def UnipolyInverseWrongFalsely : Prop := unipolyInverseRow.holds Try.pinned (OpenSpec.ofChange unipolyInverseWrong)

/-- 'cylinderlaw08.UnipolyHomomorphism': WHATEVER THE INPUT: true; the input reads as it did. -/
def unipolyHomomorphismSpec : ChangeSpec := { name := "unipolyHomomorphism", fn := fun _ => fun
  | [d1, d2, d3] => { results := [.lit (.bool true)], args := [d1, d2, d3] }
  | _ => none }
def unipolyHomomorphismRow : OpenClaim := { program := "ytppegjbdencefaa", sum := "b9dea2eb25459f63874a503d60da99657e5f7e111bcbf988964fd103d09af271", func := "cylinder/cylinderlaw08.UnipolyHomomorphism", spec := "unipolyHomomorphism", unfollowed := true, recurses := true, named := ["math/bits.overflowError"], apart := false }
def UnipolyHomomorphismSaid : Prop := unipolyHomomorphismRow.holds Try.pinned (OpenSpec.ofChange unipolyHomomorphismSpec)

/-- ITS FALSE NEIGHBOUR: 'it returns false'. Refute it at one input. -/
def unipolyHomomorphismWrong : ChangeSpec := { name := "unipolyHomomorphism", fn := fun _ => fun
  | [d1, d2, d3] => { results := [.lit (.bool false)], args := [d1, d2, d3] }
  | _ => none }
def UnipolyHomomorphismWrongFalsely : Prop := unipolyHomomorphismRow.holds Try.pinned (OpenSpec.ofChange unipolyHomomorphismWrong)

/- THE SECOND FORM. 'bulk': how many values and letters a reading holds, each counted each time it is reached (what is shared counts as often as it is met; a slice's spare places count too). A statement '..UptoSaid' is the law's where the arguments, and the package variables that the reading takes, are together of bulk at most 1048576: NARROWER than '..Said'. Prove '..Said' where nothing that the law and all that it calls make is longer than what came in: it says more and counts as full. Else prove '..UptoSaid'. A law counts once. -/
mutual
def uptoBulk {H : Type} : DataW H → Nat
  | .lit (.string bytes) => bytes.length + 1
  | .lit _ => 1
  | .nil => 1
  | .ptr d => uptoBulk d + 1
  | .slice elems spare => uptoBulkAll elems + uptoBulkAll spare + 1
  | .agg parts => uptoBulkAll parts + 1
  | .iface _ d => uptoBulk d + 1
  | .map entries => uptoBulkEntries entries + 1
  | .held _ => 1
def uptoBulkAll {H : Type} : List (DataW H) → Nat
  | [] => 0
  | d :: r => uptoBulk d + uptoBulkAll r
def uptoBulkEntries {H : Type} : List (Lit × DataW H) → Nat
  | [] => 0
  | x :: r => uptoBulkEntry x + uptoBulkEntries r
def uptoBulkEntry {H : Type} : Lit × DataW H → Nat
  | (.string bytes, d) => bytes.length + uptoBulk d + 1
  | (_, d) => uptoBulk d + 1
 end
def uptoSmall : (H : Type) → List (DataW H) → Bool := fun _ ds => decide (uptoBulkAll ds ≤ 1048576)
def OpenSpec.upto (s : _root_.Go.ChangeSpec) : _root_.Go.OpenSpec := { _root_.Go.OpenSpec.ofChange s with cond := some uptoSmall }

/-- 'cylinderlaw08.UnipolyMuls', WHERE WHAT IT READS IS OF BULK AT MOST 1048576: true; the input reads as it did. -/
def unipolyMulsUptoRow : OpenClaim := { program := "ytppegjbdencefaa", sum := "b9dea2eb25459f63874a503d60da99657e5f7e111bcbf988964fd103d09af271", func := "cylinder/cylinderlaw08.UnipolyMuls", spec := "unipolyMuls", unfollowed := true, recurses := true, apart := false, narrowed := true }
def UnipolyMulsUptoSaid : Prop := unipolyMulsUptoRow.holds Try.pinned (OpenSpec.upto unipolyMulsSpec)

/-- 'cylinderlaw08.UnipolyRing', WHERE WHAT IT READS IS OF BULK AT MOST 1048576: true; the input reads as it did. -/
def unipolyRingUptoRow : OpenClaim := { program := "ytppegjbdencefaa", sum := "b9dea2eb25459f63874a503d60da99657e5f7e111bcbf988964fd103d09af271", func := "cylinder/cylinderlaw08.UnipolyRing", spec := "unipolyRing", unfollowed := true, recurses := true, apart := false, narrowed := true }
def UnipolyRingUptoSaid : Prop := unipolyRingUptoRow.holds Try.pinned (OpenSpec.upto unipolyRingSpec)

/-- 'cylinderlaw08.UnipolyChanges', WHERE WHAT IT READS IS OF BULK AT MOST 1048576: true; the input reads as it did. -/
def unipolyChangesUptoRow : OpenClaim := { program := "ytppegjbdencefaa", sum := "b9dea2eb25459f63874a503d60da99657e5f7e111bcbf988964fd103d09af271", func := "cylinder/cylinderlaw08.UnipolyChanges", spec := "unipolyChanges", unfollowed := true, recurses := true, apart := false, narrowed := true }
def UnipolyChangesUptoSaid : Prop := unipolyChangesUptoRow.holds Try.pinned (OpenSpec.upto unipolyChangesSpec)

/-- 'cylinderlaw08.UnipolyAdds', WHERE WHAT IT READS IS OF BULK AT MOST 1048576: true; the input reads as it did. -/
def unipolyAddsUptoRow : OpenClaim := { program := "ytppegjbdencefaa", sum := "b9dea2eb25459f63874a503d60da99657e5f7e111bcbf988964fd103d09af271", func := "cylinder/cylinderlaw08.UnipolyAdds", spec := "unipolyAdds", unfollowed := true, recurses := true, apart := false, narrowed := true }
def UnipolyAddsUptoSaid : Prop := unipolyAddsUptoRow.holds Try.pinned (OpenSpec.upto unipolyAddsSpec)

/-- 'cylinderlaw08.UnipolyKeeps', WHERE WHAT IT READS IS OF BULK AT MOST 1048576: true; the input reads as it did. -/
def unipolyKeepsUptoRow : OpenClaim := { program := "ytppegjbdencefaa", sum := "b9dea2eb25459f63874a503d60da99657e5f7e111bcbf988964fd103d09af271", func := "cylinder/cylinderlaw08.UnipolyKeeps", spec := "unipolyKeeps", unfollowed := true, recurses := true, apart := false, narrowed := true }
def UnipolyKeepsUptoSaid : Prop := unipolyKeepsUptoRow.holds Try.pinned (OpenSpec.upto unipolyKeepsSpec)

/-- 'cylinderlaw08.UnipolyEvals', WHERE WHAT IT READS IS OF BULK AT MOST 1048576: true; the input reads as it did. -/
def unipolyEvalsUptoRow : OpenClaim := { program := "ytppegjbdencefaa", sum := "b9dea2eb25459f63874a503d60da99657e5f7e111bcbf988964fd103d09af271", func := "cylinder/cylinderlaw08.UnipolyEvals", spec := "unipolyEvals", unfollowed := true, recurses := true, named := ["math/bits.overflowError"], apart := false, narrowed := true }
def UnipolyEvalsUptoSaid : Prop := unipolyEvalsUptoRow.holds Try.pinned (OpenSpec.upto unipolyEvalsSpec)

/-- 'cylinderlaw08.UnipolyEnds', WHERE WHAT IT READS IS OF BULK AT MOST 1048576: true; the input reads as it did. -/
def unipolyEndsUptoRow : OpenClaim := { program := "ytppegjbdencefaa", sum := "b9dea2eb25459f63874a503d60da99657e5f7e111bcbf988964fd103d09af271", func := "cylinder/cylinderlaw08.UnipolyEnds", spec := "unipolyEnds", unfollowed := true, recurses := true, named := ["math/bits.overflowError"], apart := false, narrowed := true }
def UnipolyEndsUptoSaid : Prop := unipolyEndsUptoRow.holds Try.pinned (OpenSpec.upto unipolyEndsSpec)

/-- 'cylinderlaw08.UnipolyInverse', WHERE WHAT IT READS IS OF BULK AT MOST 1048576: true; the input reads as it did. -/
def unipolyInverseUptoRow : OpenClaim := { program := "ytppegjbdencefaa", sum := "b9dea2eb25459f63874a503d60da99657e5f7e111bcbf988964fd103d09af271", func := "cylinder/cylinderlaw08.UnipolyInverse", spec := "unipolyInverse", unfollowed := true, recurses := true, named := ["math/bits.overflowError"], apart := false, narrowed := true }
def UnipolyInverseUptoSaid : Prop := unipolyInverseUptoRow.holds Try.pinned (OpenSpec.upto unipolyInverseSpec)

/-- 'cylinderlaw08.UnipolyHomomorphism', WHERE WHAT IT READS IS OF BULK AT MOST 1048576: true; the input reads as it did. -/
def unipolyHomomorphismUptoRow : OpenClaim := { program := "ytppegjbdencefaa", sum := "b9dea2eb25459f63874a503d60da99657e5f7e111bcbf988964fd103d09af271", func := "cylinder/cylinderlaw08.UnipolyHomomorphism", spec := "unipolyHomomorphism", unfollowed := true, recurses := true, named := ["math/bits.overflowError"], apart := false, narrowed := true }
def UnipolyHomomorphismUptoSaid : Prop := unipolyHomomorphismUptoRow.holds Try.pinned (OpenSpec.upto unipolyHomomorphismSpec)

end Rows
end Go.Proofs.Ytppegjbdencefaa
