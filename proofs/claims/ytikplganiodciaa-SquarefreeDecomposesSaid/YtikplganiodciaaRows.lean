/-
  No cell of these rows narrows 'for every input' (looked for: loops, veiled, ifaces, maps, wideKeys, modest, calm, conditions, laid).
  DERIVED. THE GIVEN ROWS OF THIS SEAT. 5 by the template 'for every input the law returns true; each argument reads behind the call as it read before'; 0 by the template 'total and deterministic' (their statements: YtikplganiodciaaTotals.lean).
  GIVEN WITH THE SEED: the statements are not yours to turn. If you find one false, say at which input.
  Laid BY PROGRAM, IN A SANDBOX (cutbox-rows.mjs): the forced cells as the released guide's own fill.sh prints them over the translation 257a70e2930a90b0… (all of the seat's roots in one cut). By AI agents, Wed Nov 11 2026. No macro, syntax, notation, axiom, sorry.
-/
import Derived.Test.YtikplganiodciaaChecked
import GoSem.Claim
import GoSem.ClaimJoined
import GoSem.ClaimMapViews
import Derived.JoinedTies
import Derived.KernelRfl
namespace Go.Proofs.Ytikplganiodciaa
/- THE CELL 'sum', in the pinned program and in every row, IS THE sha256 OF THE DUMP (.gsa) THAT YtikplganiodciaaProg.lean LOADS. Nothing in Lean hashes anything: it is a label: what it is worth is what the hold of that sum in a sandbox is worth. -/
noncomputable def Try.pinned : Pinned := { name := "ytikplganiodciaa", sum := "257a70e2930a90b0bcb4e6d63939c8160325a9ec5195a9d169f9209f9d014da4", checked := Try.checked }
namespace Rows
def none {H : Type} : Left H := { results := [], args := [] }

/-- 'cylinderlaw11.SquarefreeParts': WHATEVER THE INPUT: true; the input reads as it did. -/
def squarefreePartsSpec : ChangeSpec := { name := "squarefreeParts", fn := fun _ => fun
  | [d] => { results := [.lit (.bool true)], args := [d] }
  | _ => none }
def squarefreePartsRow : OpenClaim := { program := "ytikplganiodciaa", sum := "257a70e2930a90b0bcb4e6d63939c8160325a9ec5195a9d169f9209f9d014da4", func := "cylinder/cylinderlaw11.SquarefreeParts", spec := "squarefreeParts", unfollowed := true, recurses := true, named := ["math/bits.overflowError"], apart := false }
def SquarefreePartsSaid : Prop := squarefreePartsRow.holds Try.pinned (OpenSpec.ofChange squarefreePartsSpec)

/-- ITS FALSE NEIGHBOUR: 'it returns false'. Refute it at one input. -/
def squarefreePartsWrong : ChangeSpec := { name := "squarefreeParts", fn := fun _ => fun
  | [d] => { results := [.lit (.bool false)], args := [d] }
  | _ => none }
def SquarefreePartsWrongFalsely : Prop := squarefreePartsRow.holds Try.pinned (OpenSpec.ofChange squarefreePartsWrong)

/-- 'cylinderlaw11.SquarefreeCovers': WHATEVER THE INPUT: true; the input reads as it did. -/
def squarefreeCoversSpec : ChangeSpec := { name := "squarefreeCovers", fn := fun _ => fun
  | [d] => { results := [.lit (.bool true)], args := [d] }
  | _ => none }
def squarefreeCoversRow : OpenClaim := { program := "ytikplganiodciaa", sum := "257a70e2930a90b0bcb4e6d63939c8160325a9ec5195a9d169f9209f9d014da4", func := "cylinder/cylinderlaw11.SquarefreeCovers", spec := "squarefreeCovers", unfollowed := true, recurses := true, named := ["math/bits.overflowError"], apart := false }
def SquarefreeCoversSaid : Prop := squarefreeCoversRow.holds Try.pinned (OpenSpec.ofChange squarefreeCoversSpec)

/-- ITS FALSE NEIGHBOUR: 'it returns false'. Refute it at one input. -/
def squarefreeCoversWrong : ChangeSpec := { name := "squarefreeCovers", fn := fun _ => fun
  | [d] => { results := [.lit (.bool false)], args := [d] }
  | _ => none }
def SquarefreeCoversWrongFalsely : Prop := squarefreeCoversRow.holds Try.pinned (OpenSpec.ofChange squarefreeCoversWrong)

/-- 'cylinderlaw11.SquarefreeExponents': WHATEVER THE INPUT: true; the input reads as it did. -/
def squarefreeExponentsSpec : ChangeSpec := { name := "squarefreeExponents", fn := fun _ => fun
  | [d1, d2, d3] => { results := [.lit (.bool true)], args := [d1, d2, d3] }
  | _ => none }
def squarefreeExponentsRow : OpenClaim := { program := "ytikplganiodciaa", sum := "257a70e2930a90b0bcb4e6d63939c8160325a9ec5195a9d169f9209f9d014da4", func := "cylinder/cylinderlaw11.SquarefreeExponents", spec := "squarefreeExponents", unfollowed := true, recurses := true, named := ["math/bits.overflowError"], apart := false }
def SquarefreeExponentsSaid : Prop := squarefreeExponentsRow.holds Try.pinned (OpenSpec.ofChange squarefreeExponentsSpec)

/-- ITS FALSE NEIGHBOUR: 'it returns false'. Refute it at one input. -/
def squarefreeExponentsWrong : ChangeSpec := { name := "squarefreeExponents", fn := fun _ => fun
  | [d1, d2, d3] => { results := [.lit (.bool false)], args := [d1, d2, d3] }
  | _ => none }
def SquarefreeExponentsWrongFalsely : Prop := squarefreeExponentsRow.holds Try.pinned (OpenSpec.ofChange squarefreeExponentsWrong)

/-- 'cylinderlaw11.SquarefreeDecomposes': WHATEVER THE INPUT: true; the input reads as it did. -/
def squarefreeDecomposesSpec : ChangeSpec := { name := "squarefreeDecomposes", fn := fun _ => fun
  | [d] => { results := [.lit (.bool true)], args := [d] }
  | _ => none }
def squarefreeDecomposesRow : OpenClaim := { program := "ytikplganiodciaa", sum := "257a70e2930a90b0bcb4e6d63939c8160325a9ec5195a9d169f9209f9d014da4", func := "cylinder/cylinderlaw11.SquarefreeDecomposes", spec := "squarefreeDecomposes", unfollowed := true, recurses := true, named := ["math/bits.overflowError"], apart := false }
def SquarefreeDecomposesSaid : Prop := squarefreeDecomposesRow.holds Try.pinned (OpenSpec.ofChange squarefreeDecomposesSpec)

/-- ITS FALSE NEIGHBOUR: 'it returns false'. Refute it at one input. -/
def squarefreeDecomposesWrong : ChangeSpec := { name := "squarefreeDecomposes", fn := fun _ => fun
  | [d] => { results := [.lit (.bool false)], args := [d] }
  | _ => none }
def SquarefreeDecomposesWrongFalsely : Prop := squarefreeDecomposesRow.holds Try.pinned (OpenSpec.ofChange squarefreeDecomposesWrong)

/-- 'cylinderlaw11.SquarefreeMultiplies': WHATEVER THE INPUT: true; the input reads as it did. -/
def squarefreeMultipliesSpec : ChangeSpec := { name := "squarefreeMultiplies", fn := fun _ => fun
  | [d] => { results := [.lit (.bool true)], args := [d] }
  | _ => none }
def squarefreeMultipliesRow : OpenClaim := { program := "ytikplganiodciaa", sum := "257a70e2930a90b0bcb4e6d63939c8160325a9ec5195a9d169f9209f9d014da4", func := "cylinder/cylinderlaw11.SquarefreeMultiplies", spec := "squarefreeMultiplies", unfollowed := true, recurses := true, named := ["math/bits.overflowError"], apart := false }
def SquarefreeMultipliesSaid : Prop := squarefreeMultipliesRow.holds Try.pinned (OpenSpec.ofChange squarefreeMultipliesSpec)

/-- ITS FALSE NEIGHBOUR: 'it returns false'. Refute it at one input. -/
def squarefreeMultipliesWrong : ChangeSpec := { name := "squarefreeMultiplies", fn := fun _ => fun
  | [d] => { results := [.lit (.bool false)], args := [d] }
  | _ => none }
def SquarefreeMultipliesWrongFalsely : Prop := squarefreeMultipliesRow.holds Try.pinned (OpenSpec.ofChange squarefreeMultipliesWrong)

/- THE SECOND FORM. 'bulk': how many values and letters a reading holds, each counted each time it is reached (what is shared counts as often as it is met; a slice's spare places count too). A statement '..UptoSaid' is the law's where the arguments, and the package variables that the reading takes, are together of bulk at most 1048576: NARROWER than '..Said'. Prove '..Said' where nothing that the law and all that it calls make is longer than what came in: it says more and counts as full. Else prove '..UptoSaid'. A law counts once. -/
mutual
def uptoBulk {H : Type} : DataW H → Nat
  | .lit (.string bytes) => bytes.length + 1
  | .lit _ => 1
  | .nil => 1
  | .ptr d => uptoBulk d + 1
  | .slice elems spare => uptoBulkAll elems + uptoBulkAll spare + 1
  | .agg parts => uptoBulkAll parts + 1
  | .iface _ d => uptoBulk d + 1
  | .map entries => uptoBulkEntries entries + 1
  | .held _ => 1
def uptoBulkAll {H : Type} : List (DataW H) → Nat
  | [] => 0
  | d :: r => uptoBulk d + uptoBulkAll r
def uptoBulkEntries {H : Type} : List (Lit × DataW H) → Nat
  | [] => 0
  | x :: r => uptoBulkEntry x + uptoBulkEntries r
def uptoBulkEntry {H : Type} : Lit × DataW H → Nat
  | (.string bytes, d) => bytes.length + uptoBulk d + 1
  | (_, d) => uptoBulk d + 1
 end
def uptoSmall : (H : Type) → List (DataW H) → Bool := fun _ ds => decide (uptoBulkAll ds ≤ 1048576)
def OpenSpec.upto (s : _root_.Go.ChangeSpec) : _root_.Go.OpenSpec := { _root_.Go.OpenSpec.ofChange s with cond := some uptoSmall }

/-- 'cylinderlaw11.SquarefreeParts', WHERE WHAT IT READS IS OF BULK AT MOST 1048576: true; the input reads as it did. -/
def squarefreePartsUptoRow : OpenClaim := { program := "ytikplganiodciaa", sum := "257a70e2930a90b0bcb4e6d63939c8160325a9ec5195a9d169f9209f9d014da4", func := "cylinder/cylinderlaw11.SquarefreeParts", spec := "squarefreeParts", unfollowed := true, recurses := true, named := ["math/bits.overflowError"], apart := false, narrowed := true }
def SquarefreePartsUptoSaid : Prop := squarefreePartsUptoRow.holds Try.pinned (OpenSpec.upto squarefreePartsSpec)

/-- 'cylinderlaw11.SquarefreeCovers', WHERE WHAT IT READS IS OF BULK AT MOST 1048576: true; the input reads as it did. -/
def squarefreeCoversUptoRow : OpenClaim := { program := "ytikplganiodciaa", sum := "257a70e2930a90b0bcb4e6d63939c8160325a9ec5195a9d169f9209f9d014da4", func := "cylinder/cylinderlaw11.SquarefreeCovers", spec := "squarefreeCovers", unfollowed := true, recurses := true, named := ["math/bits.overflowError"], apart := false, narrowed := true }
def SquarefreeCoversUptoSaid : Prop := squarefreeCoversUptoRow.holds Try.pinned (OpenSpec.upto squarefreeCoversSpec)

/-- 'cylinderlaw11.SquarefreeExponents', WHERE WHAT IT READS IS OF BULK AT MOST 1048576: true; the input reads as it did. -/
def squarefreeExponentsUptoRow : OpenClaim := { program := "ytikplganiodciaa", sum := "257a70e2930a90b0bcb4e6d63939c8160325a9ec5195a9d169f9209f9d014da4", func := "cylinder/cylinderlaw11.SquarefreeExponents", spec := "squarefreeExponents", unfollowed := true, recurses := true, named := ["math/bits.overflowError"], apart := false, narrowed := true }
def SquarefreeExponentsUptoSaid : Prop := squarefreeExponentsUptoRow.holds Try.pinned (OpenSpec.upto squarefreeExponentsSpec)

/-- 'cylinderlaw11.SquarefreeDecomposes', WHERE WHAT IT READS IS OF BULK AT MOST 1048576: true; the input reads as it did. -/
def squarefreeDecomposesUptoRow : OpenClaim := { program := "ytikplganiodciaa", sum := "257a70e2930a90b0bcb4e6d63939c8160325a9ec5195a9d169f9209f9d014da4", func := "cylinder/cylinderlaw11.SquarefreeDecomposes", spec := "squarefreeDecomposes", unfollowed := true, recurses := true, named := ["math/bits.overflowError"], apart := false, narrowed := true }
def SquarefreeDecomposesUptoSaid : Prop := squarefreeDecomposesUptoRow.holds Try.pinned (OpenSpec.upto squarefreeDecomposesSpec)

/-- 'cylinderlaw11.SquarefreeMultiplies', WHERE WHAT IT READS IS OF BULK AT MOST 1048576: true; the input reads as it did. -/
def squarefreeMultipliesUptoRow : OpenClaim := { program := "ytikplganiodciaa", sum := "257a70e2930a90b0bcb4e6d63939c8160325a9ec5195a9d169f9209f9d014da4", func := "cylinder/cylinderlaw11.SquarefreeMultiplies", spec := "squarefreeMultiplies", unfollowed := true, recurses := true, named := ["math/bits.overflowError"], apart := false, narrowed := true }
def SquarefreeMultipliesUptoSaid : Prop := squarefreeMultipliesUptoRow.holds Try.pinned (OpenSpec.upto squarefreeMultipliesSpec)

end Rows
end Go.Proofs.Ytikplganiodciaa
