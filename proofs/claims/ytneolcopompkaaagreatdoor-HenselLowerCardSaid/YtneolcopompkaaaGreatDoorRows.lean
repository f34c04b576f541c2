/-
  NARROWER THAN 'FOR EVERY INPUT', by the rows' own cells (each row's printed sentence says how): HenselExponent: laid · HenselReturns: laid · HenselReduce: laid · HenselBound: laid · HenselLower: laid · HenselLift: laid.
  DERIVED. THE GIVEN ROWS OF THIS SEAT. 6 by the template 'for every input the law returns true; each argument reads behind the call as it read before'; 0 by the template 'total and deterministic' (their statements: YtneolcopompkaaaGreatDoorTotals.lean).
  GIVEN WITH THE SEED: the statements are not yours to turn. If you find one false, say at which input.
  Laid BY PROGRAM, IN A SANDBOX (cutbox-rows.mjs): the forced cells as the released guide's own fill.sh prints them over the translation 92f452a88881b1c1… (all of the seat's roots in one cut). By AI agents, Wed Nov 11 2026. No macro, syntax, notation, axiom, sorry.
-/
import Derived.Test.YtneolcopompkaaaGreatDoorChecked
import GoSem.Claim
import GoSem.ClaimJoined
import GoSem.ClaimMapViews
import Derived.JoinedTies
import Derived.KernelRfl
namespace Go.Proofs.YtneolcopompkaaaGreatDoor
/- THE CELL 'sum', in the pinned program and in every row, IS THE sha256 OF THE DUMP (.gsa) THAT YtneolcopompkaaaGreatDoorProg.lean LOADS. Nothing in Lean hashes anything: it is a label: what it is worth is what the hold of that sum in a sandbox is worth. -/
noncomputable def Tryz.pinned : Pinned := { name := "ytneolcopompkaaagreatdoor", sum := "92f452a88881b1c105d302be395e08b4e7b92c41ec43bf0faf5b1887ac294f73", checked := Tryz.checked }
namespace Rows
def none {H : Type} : Left H := { results := [], args := [] }

/- WHAT THE LISTED PACKAGE-LEVEL VARIABLES READ AS WHEN THE CALL BEGINS. Each datum BY PROGRAM (the guide's laid-datum.mjs) off the statement by which the dump's own 'gosem.cut.vars' lays the variable. In a bare row this is a premise. The card (YtneolcopompkaaaGreatDoorCards.lean) ties it to the program's text. -/
def laid_math_bits_deBruijn32tab {H : Type} : DataW H := .agg [.lit (.int .u8 0), .lit (.int .u8 1), .lit (.int .u8 28), .lit (.int .u8 2), .lit (.int .u8 29), .lit (.int .u8 14), .lit (.int .u8 24), .lit (.int .u8 3), .lit (.int .u8 30), .lit (.int .u8 22), .lit (.int .u8 20), .lit (.int .u8 15), .lit (.int .u8 25), .lit (.int .u8 17), .lit (.int .u8 4), .lit (.int .u8 8), .lit (.int .u8 31), .lit (.int .u8 27), .lit (.int .u8 13), .lit (.int .u8 23), .lit (.int .u8 21), .lit (.int .u8 19), .lit (.int .u8 16), .lit (.int .u8 7), .lit (.int .u8 26), .lit (.int .u8 12), .lit (.int .u8 18), .lit (.int .u8 6), .lit (.int .u8 11), .lit (.int .u8 5), .lit (.int .u8 10), .lit (.int .u8 9)]

/-- 'cylinderlaw12.HenselExponent': WHATEVER THE INPUT: true; the input reads as it did. -/
def henselExponentSpec : ChangeSpec := { name := "henselExponent", fn := fun _ => fun
  | [d1, d2] => { results := [.lit (.bool true)], args := [d1, d2] }
  | _ => none }
def henselExponentRow : OpenClaim := { program := "ytneolcopompkaaagreatdoor", sum := "92f452a88881b1c105d302be395e08b4e7b92c41ec43bf0faf5b1887ac294f73", func := "cylinder/cylinderlaw12.HenselExponent", spec := "henselExponent", unfollowed := true, recurses := true, named := ["math/bits.deBruijn32tab", "math/bits.overflowError"], apart := false, laid := [("math/bits.deBruijn32tab", laid_math_bits_deBruijn32tab)] }
def HenselExponentSaid : Prop := henselExponentRow.holds Tryz.pinned (OpenSpec.ofChange henselExponentSpec)

/-- ITS FALSE NEIGHBOUR: 'it returns false'. Refute it at one input. -/
def henselExponentWrong : ChangeSpec := { name := "henselExponent", fn := fun _ => fun
  | [d1, d2] => { results := [.lit (.bool false)], args := [d1, d2] }
  | _ => none }
def HenselExponentWrongFalsely : Prop := henselExponentRow.holds Tryz.pinned (OpenSpec.ofChange henselExponentWrong)

/-- 'cylinderlaw12.HenselReturns': WHATEVER THE INPUT: true; the input reads as it did. -/
def henselReturnsSpec : ChangeSpec := { name := "henselReturns", fn := fun _ => fun
  | [d1, d2, d3] => { results := [.lit (.bool true)], args := [d1, d2, d3] }
  | _ => none }
def henselReturnsRow : OpenClaim := { program := "ytneolcopompkaaagreatdoor", sum := "92f452a88881b1c105d302be395e08b4e7b92c41ec43bf0faf5b1887ac294f73", func := "cylinder/cylinderlaw12.HenselReturns", spec := "henselReturns", unfollowed := true, recurses := true, named := ["math/bits.deBruijn32tab", "math/bits.overflowError"], apart := false, laid := [("math/bits.deBruijn32tab", laid_math_bits_deBruijn32tab)] }
def HenselReturnsSaid : Prop := henselReturnsRow.holds Tryz.pinned (OpenSpec.ofChange henselReturnsSpec)

/-- ITS FALSE NEIGHBOUR: 'it returns false'. Refute it at one input. -/
def henselReturnsWrong : ChangeSpec := { name := "henselReturns", fn := fun _ => fun
  | [d1, d2, d3] => { results := [.lit (.bool false)], args := [d1, d2, d3] }
  | _ => none }
def HenselReturnsWrongFalsely : Prop := henselReturnsRow.holds Tryz.pinned (OpenSpec.ofChange henselReturnsWrong)

/-- 'cylinderlaw12.HenselReduce': WHATEVER THE INPUT: true; the input reads as it did. -/
def henselReduceSpec : ChangeSpec := { name := "henselReduce", fn := fun _ => fun
  | [d1, d2, d3] => { results := [.lit (.bool true)], args := [d1, d2, d3] }
  | _ => none }
def henselReduceRow : OpenClaim := { program := "ytneolcopompkaaagreatdoor", sum := "92f452a88881b1c105d302be395e08b4e7b92c41ec43bf0faf5b1887ac294f73", func := "cylinder/cylinderlaw12.HenselReduce", spec := "henselReduce", unfollowed := true, recurses := true, named := ["math/bits.deBruijn32tab", "math/bits.overflowError"], apart := false, laid := [("math/bits.deBruijn32tab", laid_math_bits_deBruijn32tab)] }
def HenselReduceSaid : Prop := henselReduceRow.holds Tryz.pinned (OpenSpec.ofChange henselReduceSpec)

/-- ITS FALSE NEIGHBOUR: 'it returns false'. Refute it at one input. -/
def henselReduceWrong : ChangeSpec := { name := "henselReduce", fn := fun _ => fun
  | [d1, d2, d3] => { results := [.lit (.bool false)], args := [d1, d2, d3] }
  | _ => none }
def HenselReduceWrongFalsely : Prop := henselReduceRow.holds Tryz.pinned (OpenSpec.ofChange henselReduceWrong)

/-- 'cylinderlaw12.HenselBound': WHATEVER THE INPUT: true; the input reads as it did. -/
def henselBoundSpec : ChangeSpec := { name := "henselBound", fn := fun _ => fun
  | [d1, d2] => { results := [.lit (.bool true)], args := [d1, d2] }
  | _ => none }
def henselBoundRow : OpenClaim := { program := "ytneolcopompkaaagreatdoor", sum := "92f452a88881b1c105d302be395e08b4e7b92c41ec43bf0faf5b1887ac294f73", func := "cylinder/cylinderlaw12.HenselBound", spec := "henselBound", unfollowed := true, recurses := true, named := ["math/bits.deBruijn32tab", "math/bits.overflowError"], apart := false, laid := [("math/bits.deBruijn32tab", laid_math_bits_deBruijn32tab)] }
def HenselBoundSaid : Prop := henselBoundRow.holds Tryz.pinned (OpenSpec.ofChange henselBoundSpec)

/-- ITS FALSE NEIGHBOUR: 'it returns false'. Refute it at one input. -/
def henselBoundWrong : ChangeSpec := { name := "henselBound", fn := fun _ => fun
  | [d1, d2] => { results := [.lit (.bool false)], args := [d1, d2] }
  | _ => none }
def HenselBoundWrongFalsely : Prop := henselBoundRow.holds Tryz.pinned (OpenSpec.ofChange henselBoundWrong)

/-- 'cylinderlaw12.HenselLower': WHATEVER THE INPUT: true; the input reads as it did. -/
def henselLowerSpec : ChangeSpec := { name := "henselLower", fn := fun _ => fun
  | [d1, d2, d3] => { results := [.lit (.bool true)], args := [d1, d2, d3] }
  | _ => none }
def henselLowerRow : OpenClaim := { program := "ytneolcopompkaaagreatdoor", sum := "92f452a88881b1c105d302be395e08b4e7b92c41ec43bf0faf5b1887ac294f73", func := "cylinder/cylinderlaw12.HenselLower", spec := "henselLower", unfollowed := true, recurses := true, named := ["math/bits.deBruijn32tab", "math/bits.overflowError"], apart := false, laid := [("math/bits.deBruijn32tab", laid_math_bits_deBruijn32tab)] }
def HenselLowerSaid : Prop := henselLowerRow.holds Tryz.pinned (OpenSpec.ofChange henselLowerSpec)

/-- ITS FALSE NEIGHBOUR: 'it returns false'. Refute it at one input. -/
def henselLowerWrong : ChangeSpec := { name := "henselLower", fn := fun _ => fun
  | [d1, d2, d3] => { results := [.lit (.bool false)], args := [d1, d2, d3] }
  | _ => none }
def HenselLowerWrongFalsely : Prop := henselLowerRow.holds Tryz.pinned (OpenSpec.ofChange henselLowerWrong)

/-- 'cylinderlaw12.HenselLift': WHATEVER THE INPUT: true; the input reads as it did. -/
def henselLiftSpec : ChangeSpec := { name := "henselLift", fn := fun _ => fun
  | [d1, d2, d3] => { results := [.lit (.bool true)], args := [d1, d2, d3] }
  | _ => none }
def henselLiftRow : OpenClaim := { program := "ytneolcopompkaaagreatdoor", sum := "92f452a88881b1c105d302be395e08b4e7b92c41ec43bf0faf5b1887ac294f73", func := "cylinder/cylinderlaw12.HenselLift", spec := "henselLift", unfollowed := true, recurses := true, named := ["math/bits.deBruijn32tab", "math/bits.overflowError"], apart := false, laid := [("math/bits.deBruijn32tab", laid_math_bits_deBruijn32tab)] }
def HenselLiftSaid : Prop := henselLiftRow.holds Tryz.pinned (OpenSpec.ofChange henselLiftSpec)

/-- ITS FALSE NEIGHBOUR: 'it returns false'. Refute it at one input. -/
def henselLiftWrong : ChangeSpec := { name := "henselLift", fn := fun _ => fun
  | [d1, d2, d3] => { results := [.lit (.bool false)], args := [d1, d2, d3] }
  | _ => none }
def HenselLiftWrongFalsely : Prop := henselLiftRow.holds Tryz.pinned (OpenSpec.ofChange henselLiftWrong)

/- THE SECOND FORM. 'bulk': how many values and letters a reading holds, each counted each time it is reached (what is shared counts as often as it is met; a slice's spare places count too). A statement '..UptoSaid' is the law's where the arguments, and the package variables that the reading takes, are together of bulk at most 1048576: NARROWER than '..Said'. Prove '..Said' where nothing that the law and all that it calls make is longer than what came in: it says more and counts as full. Else prove '..UptoSaid'. A law counts once. -/
mutual
def uptoBulk {H : Type} : DataW H → Nat
  | .lit (.string bytes) => bytes.length + 1
  | .lit _ => 1
  | .nil => 1
  | .ptr d => uptoBulk d + 1
  | .slice elems spare => uptoBulkAll elems + uptoBulkAll spare + 1
  | .agg parts => uptoBulkAll parts + 1
  | .iface _ d => uptoBulk d + 1
  | .map entries => uptoBulkEntries entries + 1
  | .held _ => 1
def uptoBulkAll {H : Type} : List (DataW H) → Nat
  | [] => 0
  | d :: r => uptoBulk d + uptoBulkAll r
def uptoBulkEntries {H : Type} : List (Lit × DataW H) → Nat
  | [] => 0
  | x :: r => uptoBulkEntry x + uptoBulkEntries r
def uptoBulkEntry {H : Type} : Lit × DataW H → Nat
  | (.string bytes, d) => bytes.length + uptoBulk d + 1
  | (_, d) => uptoBulk d + 1
 end
def uptoSmall : (H : Type) → List (DataW H) → Bool := fun _ ds => decide (uptoBulkAll ds ≤ 1048576)
def OpenSpec.upto (s : _root_.Go.ChangeSpec) : _root_.Go.OpenSpec := { _root_.Go.OpenSpec.ofChange s with cond := some uptoSmall }

/-- 'cylinderlaw12.HenselExponent', WHERE WHAT IT READS IS OF BULK AT MOST 1048576: true; the input reads as it did. -/
def henselExponentUptoRow : OpenClaim := { program := "ytneolcopompkaaagreatdoor", sum := "92f452a88881b1c105d302be395e08b4e7b92c41ec43bf0faf5b1887ac294f73", func := "cylinder/cylinderlaw12.HenselExponent", spec := "henselExponent", unfollowed := true, recurses := true, named := ["math/bits.deBruijn32tab", "math/bits.overflowError"], apart := false, laid := [("math/bits.deBruijn32tab", laid_math_bits_deBruijn32tab)], narrowed := true }
def HenselExponentUptoSaid : Prop := henselExponentUptoRow.holds Tryz.pinned (OpenSpec.upto henselExponentSpec)

/-- 'cylinderlaw12.HenselReturns', WHERE WHAT IT READS IS OF BULK AT MOST 1048576: true; the input reads as it did. -/
def henselReturnsUptoRow : OpenClaim := { program := "ytneolcopompkaaagreatdoor", sum := "92f452a88881b1c105d302be395e08b4e7b92c41ec43bf0faf5b1887ac294f73", func := "cylinder/cylinderlaw12.HenselReturns", spec := "henselReturns", unfollowed := true, recurses := true, named := ["math/bits.deBruijn32tab", "math/bits.overflowError"], apart := false, laid := [("math/bits.deBruijn32tab", laid_math_bits_deBruijn32tab)], narrowed := true }
def HenselReturnsUptoSaid : Prop := henselReturnsUptoRow.holds Tryz.pinned (OpenSpec.upto henselReturnsSpec)

/-- 'cylinderlaw12.HenselReduce', WHERE WHAT IT READS IS OF BULK AT MOST 1048576: true; the input reads as it did. -/
def henselReduceUptoRow : OpenClaim := { program := "ytneolcopompkaaagreatdoor", sum := "92f452a88881b1c105d302be395e08b4e7b92c41ec43bf0faf5b1887ac294f73", func := "cylinder/cylinderlaw12.HenselReduce", spec := "henselReduce", unfollowed := true, recurses := true, named := ["math/bits.deBruijn32tab", "math/bits.overflowError"], apart := false, laid := [("math/bits.deBruijn32tab", laid_math_bits_deBruijn32tab)], narrowed := true }
def HenselReduceUptoSaid : Prop := henselReduceUptoRow.holds Tryz.pinned (OpenSpec.upto henselReduceSpec)

/-- 'cylinderlaw12.HenselBound', WHERE WHAT IT READS IS OF BULK AT MOST 1048576: true; the input reads as it did. -/
def henselBoundUptoRow : OpenClaim := { program := "ytneolcopompkaaagreatdoor", sum := "92f452a88881b1c105d302be395e08b4e7b92c41ec43bf0faf5b1887ac294f73", func := "cylinder/cylinderlaw12.HenselBound", spec := "henselBound", unfollowed := true, recurses := true, named := ["math/bits.deBruijn32tab", "math/bits.overflowError"], apart := false, laid := [("math/bits.deBruijn32tab", laid_math_bits_deBruijn32tab)], narrowed := true }
def HenselBoundUptoSaid : Prop := henselBoundUptoRow.holds Tryz.pinned (OpenSpec.upto henselBoundSpec)

/-- 'cylinderlaw12.HenselLower', WHERE WHAT IT READS IS OF BULK AT MOST 1048576: true; the input reads as it did. -/
def henselLowerUptoRow : OpenClaim := { program := "ytneolcopompkaaagreatdoor", sum := "92f452a88881b1c105d302be395e08b4e7b92c41ec43bf0faf5b1887ac294f73", func := "cylinder/cylinderlaw12.HenselLower", spec := "henselLower", unfollowed := true, recurses := true, named := ["math/bits.deBruijn32tab", "math/bits.overflowError"], apart := false, laid := [("math/bits.deBruijn32tab", laid_math_bits_deBruijn32tab)], narrowed := true }
def HenselLowerUptoSaid : Prop := henselLowerUptoRow.holds Tryz.pinned (OpenSpec.upto henselLowerSpec)

/-- 'cylinderlaw12.HenselLift', WHERE WHAT IT READS IS OF BULK AT MOST 1048576: true; the input reads as it did. -/
def henselLiftUptoRow : OpenClaim := { program := "ytneolcopompkaaagreatdoor", sum := "92f452a88881b1c105d302be395e08b4e7b92c41ec43bf0faf5b1887ac294f73", func := "cylinder/cylinderlaw12.HenselLift", spec := "henselLift", unfollowed := true, recurses := true, named := ["math/bits.deBruijn32tab", "math/bits.overflowError"], apart := false, laid := [("math/bits.deBruijn32tab", laid_math_bits_deBruijn32tab)], narrowed := true }
def HenselLiftUptoSaid : Prop := henselLiftUptoRow.holds Tryz.pinned (OpenSpec.upto henselLiftSpec)

end Rows
end Go.Proofs.YtneolcopompkaaaGreatDoor
