/-
  NARROWER THAN 'FOR EVERY INPUT', by the rows' own cells (each row's printed sentence says how): FactorKnown: laid · FactorEisenstein: laid · FactorUnique: laid · FactorSplit: laid · FactorShift: laid · FactorPrime: laid · FactorModular: laid · FactorExpand: laid · FactorCyclotomic: laid · FactorRoots: laid.
  DERIVED. THE GIVEN ROWS OF THIS SEAT. 10 by the template 'for every input the law returns true; each argument reads behind the call as it read before'; 0 by the template 'total and deterministic' (their statements: YtjdpemcnlejpfaaGreatDoorTotals.lean).
  GIVEN WITH THE SEED: the statements are not yours to turn. If you find one false, say at which input.
  Laid BY PROGRAM, IN A SANDBOX (cutbox-rows.mjs): the forced cells as the released guide's own fill.sh prints them over the translation dd37434c8f6084c4… (all of the seat's roots in one cut). By AI agents, Wed Nov 11 2026. No macro, syntax, notation, axiom, sorry.
-/
import Derived.Test.YtjdpemcnlejpfaaGreatDoorChecked
import GoSem.Claim
import GoSem.ClaimJoined
import GoSem.ClaimMapViews
import Derived.JoinedTies
import Derived.KernelRfl
namespace Go.Proofs.YtjdpemcnlejpfaaGreatDoor
/- THE CELL 'sum', in the pinned program and in every row, IS THE sha256 OF THE DUMP (.gsa) THAT YtjdpemcnlejpfaaGreatDoorProg.lean LOADS. Nothing in Lean hashes anything: it is a label: what it is worth is what the hold of that sum in a sandbox is worth. -/
noncomputable def Tryz.pinned : Pinned := { name := "ytjdpemcnlejpfaagreatdoor", sum := "dd37434c8f6084c4788391e2d130c021bdac17b635d786355a284bfb452c61b4", checked := Tryz.checked }
namespace Rows
def none {H : Type} : Left H := { results := [], args := [] }

/- WHAT THE LISTED PACKAGE-LEVEL VARIABLES READ AS WHEN THE CALL BEGINS. Each datum BY PROGRAM (the guide's laid-datum.mjs) off the statement by which the dump's own 'gosem.cut.vars' lays the variable. In a bare row this is a premise. The card (YtjdpemcnlejpfaaGreatDoorCards.lean) ties it to the program's text. -/
def laid_math_bits_deBruijn32tab {H : Type} : DataW H := .agg [.lit (.int .u8 0), .lit (.int .u8 1), .lit (.int .u8 28), .lit (.int .u8 2), .lit (.int .u8 29), .lit (.int .u8 14), .lit (.int .u8 24), .lit (.int .u8 3), .lit (.int .u8 30), .lit (.int .u8 22), .lit (.int .u8 20), .lit (.int .u8 15), .lit (.int .u8 25), .lit (.int .u8 17), .lit (.int .u8 4), .lit (.int .u8 8), .lit (.int .u8 31), .lit (.int .u8 27), .lit (.int .u8 13), .lit (.int .u8 23), .lit (.int .u8 21), .lit (.int .u8 19), .lit (.int .u8 16), .lit (.int .u8 7), .lit (.int .u8 26), .lit (.int .u8 12), .lit (.int .u8 18), .lit (.int .u8 6), .lit (.int .u8 11), .lit (.int .u8 5), .lit (.int .u8 10), .lit (.int .u8 9)]

/-- 'cylinderlaw13.FactorKnown': WHATEVER THE INPUT: true; the input reads as it did. -/
def factorKnownSpec : ChangeSpec := { name := "factorKnown", fn := fun _ => fun
  | [d1, d2] => { results := [.lit (.bool true)], args := [d1, d2] }
  | _ => none }
def factorKnownRow : OpenClaim := { program := "ytjdpemcnlejpfaagreatdoor", sum := "dd37434c8f6084c4788391e2d130c021bdac17b635d786355a284bfb452c61b4", func := "cylinder/cylinderlaw13.FactorKnown", spec := "factorKnown", unfollowed := true, recurses := true, named := ["math/bits.overflowError", "math/bits.deBruijn32tab"], apart := false, laid := [("math/bits.deBruijn32tab", laid_math_bits_deBruijn32tab)] }
def FactorKnownSaid : Prop := factorKnownRow.holds Tryz.pinned (OpenSpec.ofChange factorKnownSpec)

/-- ITS FALSE NEIGHBOUR: 'it returns false'. Refute it at one input. -/
def factorKnownWrong : ChangeSpec := { name := "factorKnown", fn := fun _ => fun
  | [d1, d2] => { results := [.lit (.bool false)], args := [d1, d2] }
  | _ => none }
def FactorKnownWrongFalsely : Prop := factorKnownRow.holds Tryz.pinned (OpenSpec.ofChange factorKnownWrong)

/-- 'cylinderlaw13.FactorEisenstein': WHATEVER THE INPUT: true; the input reads as it did. -/
def factorEisensteinSpec : ChangeSpec := { name := "factorEisenstein", fn := fun _ => fun
  | [d1, d2] => { results := [.lit (.bool true)], args := [d1, d2] }
  | _ => none }
def factorEisensteinRow : OpenClaim := { program := "ytjdpemcnlejpfaagreatdoor", sum := "dd37434c8f6084c4788391e2d130c021bdac17b635d786355a284bfb452c61b4", func := "cylinder/cylinderlaw13.FactorEisenstein", spec := "factorEisenstein", unfollowed := true, recurses := true, named := ["math/bits.overflowError", "math/bits.deBruijn32tab"], apart := false, laid := [("math/bits.deBruijn32tab", laid_math_bits_deBruijn32tab)] }
def FactorEisensteinSaid : Prop := factorEisensteinRow.holds Tryz.pinned (OpenSpec.ofChange factorEisensteinSpec)

/-- ITS FALSE NEIGHBOUR: 'it returns false'. Refute it at one input. -/
def factorEisensteinWrong : ChangeSpec := { name := "factorEisenstein", fn := fun _ => fun
  | [d1, d2] => { results := [.lit (.bool false)], args := [d1, d2] }
  | _ => none }
def FactorEisensteinWrongFalsely : Prop := factorEisensteinRow.holds Tryz.pinned (OpenSpec.ofChange factorEisensteinWrong)

/-- 'cylinderlaw13.FactorUnique': WHATEVER THE INPUT: true; the input reads as it did. -/
def factorUniqueSpec : ChangeSpec := { name := "factorUnique", fn := fun _ => fun
  | [d1, d2] => { results := [.lit (.bool true)], args := [d1, d2] }
  | _ => none }
def factorUniqueRow : OpenClaim := { program := "ytjdpemcnlejpfaagreatdoor", sum := "dd37434c8f6084c4788391e2d130c021bdac17b635d786355a284bfb452c61b4", func := "cylinder/cylinderlaw13.FactorUnique", spec := "factorUnique", unfollowed := true, recurses := true, named := ["math/bits.overflowError", "math/bits.deBruijn32tab"], apart := false, laid := [("math/bits.deBruijn32tab", laid_math_bits_deBruijn32tab)] }
def FactorUniqueSaid : Prop := factorUniqueRow.holds Tryz.pinned (OpenSpec.ofChange factorUniqueSpec)

/-- ITS FALSE NEIGHBOUR: 'it returns false'. Refute it at one input. -/
def factorUniqueWrong : ChangeSpec := { name := "factorUnique", fn := fun _ => fun
  | [d1, d2] => { results := [.lit (.bool false)], args := [d1, d2] }
  | _ => none }
def FactorUniqueWrongFalsely : Prop := factorUniqueRow.holds Tryz.pinned (OpenSpec.ofChange factorUniqueWrong)

/-- 'cylinderlaw13.FactorSplit': WHATEVER THE INPUT: true; the input reads as it did. -/
def factorSplitSpec : ChangeSpec := { name := "factorSplit", fn := fun _ => fun
  | [d] => { results := [.lit (.bool true)], args := [d] }
  | _ => none }
def factorSplitRow : OpenClaim := { program := "ytjdpemcnlejpfaagreatdoor", sum := "dd37434c8f6084c4788391e2d130c021bdac17b635d786355a284bfb452c61b4", func := "cylinder/cylinderlaw13.FactorSplit", spec := "factorSplit", unfollowed := true, recurses := true, named := ["math/bits.overflowError", "math/bits.deBruijn32tab"], apart := false, laid := [("math/bits.deBruijn32tab", laid_math_bits_deBruijn32tab)] }
def FactorSplitSaid : Prop := factorSplitRow.holds Tryz.pinned (OpenSpec.ofChange factorSplitSpec)

/-- ITS FALSE NEIGHBOUR: 'it returns false'. Refute it at one input. -/
def factorSplitWrong : ChangeSpec := { name := "factorSplit", fn := fun _ => fun
  | [d] => { results := [.lit (.bool false)], args := [d] }
  | _ => none }
def FactorSplitWrongFalsely : Prop := factorSplitRow.holds Tryz.pinned (OpenSpec.ofChange factorSplitWrong)

/-- 'cylinderlaw13.FactorShift': WHATEVER THE INPUT: true; the input reads as it did. -/
def factorShiftSpec : ChangeSpec := { name := "factorShift", fn := fun _ => fun
  | [d1, d2] => { results := [.lit (.bool true)], args := [d1, d2] }
  | _ => none }
def factorShiftRow : OpenClaim := { program := "ytjdpemcnlejpfaagreatdoor", sum := "dd37434c8f6084c4788391e2d130c021bdac17b635d786355a284bfb452c61b4", func := "cylinder/cylinderlaw13.FactorShift", spec := "factorShift", unfollowed := true, recurses := true, named := ["math/bits.overflowError", "math/bits.deBruijn32tab"], apart := false, laid := [("math/bits.deBruijn32tab", laid_math_bits_deBruijn32tab)] }
def FactorShiftSaid : Prop := factorShiftRow.holds Tryz.pinned (OpenSpec.ofChange factorShiftSpec)

/-- ITS FALSE NEIGHBOUR: 'it returns false'. Refute it at one input. -/
def factorShiftWrong : ChangeSpec := { name := "factorShift", fn := fun _ => fun
  | [d1, d2] => { results := [.lit (.bool false)], args := [d1, d2] }
  | _ => none }
def FactorShiftWrongFalsely : Prop := factorShiftRow.holds Tryz.pinned (OpenSpec.ofChange factorShiftWrong)

/-- 'cylinderlaw13.FactorPrime': WHATEVER THE INPUT: true; the input reads as it did. -/
def factorPrimeSpec : ChangeSpec := { name := "factorPrime", fn := fun _ => fun
  | [d] => { results := [.lit (.bool true)], args := [d] }
  | _ => none }
def factorPrimeRow : OpenClaim := { program := "ytjdpemcnlejpfaagreatdoor", sum := "dd37434c8f6084c4788391e2d130c021bdac17b635d786355a284bfb452c61b4", func := "cylinder/cylinderlaw13.FactorPrime", spec := "factorPrime", unfollowed := true, recurses := true, named := ["math/bits.overflowError", "math/bits.deBruijn32tab"], apart := false, laid := [("math/bits.deBruijn32tab", laid_math_bits_deBruijn32tab)] }
def FactorPrimeSaid : Prop := factorPrimeRow.holds Tryz.pinned (OpenSpec.ofChange factorPrimeSpec)

/-- ITS FALSE NEIGHBOUR: 'it returns false'. Refute it at one input. -/
def factorPrimeWrong : ChangeSpec := { name := "factorPrime", fn := fun _ => fun
  | [d] => { results := [.lit (.bool false)], args := [d] }
  | _ => none }
def FactorPrimeWrongFalsely : Prop := factorPrimeRow.holds Tryz.pinned (OpenSpec.ofChange factorPrimeWrong)

/-- 'cylinderlaw13.FactorModular': WHATEVER THE INPUT: true; the input reads as it did. -/
def factorModularSpec : ChangeSpec := { name := "factorModular", fn := fun _ => fun
  | [d1, d2, d3] => { results := [.lit (.bool true)], args := [d1, d2, d3] }
  | _ => none }
def factorModularRow : OpenClaim := { program := "ytjdpemcnlejpfaagreatdoor", sum := "dd37434c8f6084c4788391e2d130c021bdac17b635d786355a284bfb452c61b4", func := "cylinder/cylinderlaw13.FactorModular", spec := "factorModular", unfollowed := true, recurses := true, named := ["math/bits.overflowError", "math/bits.deBruijn32tab"], apart := false, laid := [("math/bits.deBruijn32tab", laid_math_bits_deBruijn32tab)] }
def FactorModularSaid : Prop := factorModularRow.holds Tryz.pinned (OpenSpec.ofChange factorModularSpec)

/-- ITS FALSE NEIGHBOUR: 'it returns false'. Refute it at one input. -/
def factorModularWrong : ChangeSpec := { name := "factorModular", fn := fun _ => fun
  | [d1, d2, d3] => { results := [.lit (.bool false)], args := [d1, d2, d3] }
  | _ => none }
def FactorModularWrongFalsely : Prop := factorModularRow.holds Tryz.pinned (OpenSpec.ofChange factorModularWrong)

/-- 'cylinderlaw13.FactorExpand': WHATEVER THE INPUT: true; the input reads as it did. -/
def factorExpandSpec : ChangeSpec := { name := "factorExpand", fn := fun _ => fun
  | [d] => { results := [.lit (.bool true)], args := [d] }
  | _ => none }
def factorExpandRow : OpenClaim := { program := "ytjdpemcnlejpfaagreatdoor", sum := "dd37434c8f6084c4788391e2d130c021bdac17b635d786355a284bfb452c61b4", func := "cylinder/cylinderlaw13.FactorExpand", spec := "factorExpand", unfollowed := true, recurses := true, named := ["math/bits.overflowError", "math/bits.deBruijn32tab"], apart := false, laid := [("math/bits.deBruijn32tab", laid_math_bits_deBruijn32tab)] }
def FactorExpandSaid : Prop := factorExpandRow.holds Tryz.pinned (OpenSpec.ofChange factorExpandSpec)

/-- ITS FALSE NEIGHBOUR: 'it returns false'. Refute it at one input. -/
def factorExpandWrong : ChangeSpec := { name := "factorExpand", fn := fun _ => fun
  | [d] => { results := [.lit (.bool false)], args := [d] }
  | _ => none }
def FactorExpandWrongFalsely : Prop := factorExpandRow.holds Tryz.pinned (OpenSpec.ofChange factorExpandWrong)

/-- 'cylinderlaw13.FactorCyclotomic': WHATEVER THE INPUT: true; the input reads as it did. -/
def factorCyclotomicSpec : ChangeSpec := { name := "factorCyclotomic", fn := fun _ => fun
  | [d1, d2] => { results := [.lit (.bool true)], args := [d1, d2] }
  | _ => none }
def factorCyclotomicRow : OpenClaim := { program := "ytjdpemcnlejpfaagreatdoor", sum := "dd37434c8f6084c4788391e2d130c021bdac17b635d786355a284bfb452c61b4", func := "cylinder/cylinderlaw13.FactorCyclotomic", spec := "factorCyclotomic", unfollowed := true, recurses := true, named := ["math/bits.overflowError", "math/bits.deBruijn32tab"], apart := false, laid := [("math/bits.deBruijn32tab", laid_math_bits_deBruijn32tab)] }
def FactorCyclotomicSaid : Prop := factorCyclotomicRow.holds Tryz.pinned (OpenSpec.ofChange factorCyclotomicSpec)

/-- ITS FALSE NEIGHBOUR: 'it returns false'. Refute it at one input. -/
def factorCyclotomicWrong : ChangeSpec := { name := "factorCyclotomic", fn := fun _ => fun
  | [d1, d2] => { results := [.lit (.bool false)], args := [d1, d2] }
  | _ => none }
def FactorCyclotomicWrongFalsely : Prop := factorCyclotomicRow.holds Tryz.pinned (OpenSpec.ofChange factorCyclotomicWrong)

/-- 'cylinderlaw13.FactorRoots': WHATEVER THE INPUT: true; the input reads as it did. -/
def factorRootsSpec : ChangeSpec := { name := "factorRoots", fn := fun _ => fun
  | [d1, d2] => { results := [.lit (.bool true)], args := [d1, d2] }
  | _ => none }
def factorRootsRow : OpenClaim := { program := "ytjdpemcnlejpfaagreatdoor", sum := "dd37434c8f6084c4788391e2d130c021bdac17b635d786355a284bfb452c61b4", func := "cylinder/cylinderlaw13.FactorRoots", spec := "factorRoots", unfollowed := true, recurses := true, named := ["math/bits.overflowError", "math/bits.deBruijn32tab"], apart := false, laid := [("math/bits.deBruijn32tab", laid_math_bits_deBruijn32tab)] }
def FactorRootsSaid : Prop := factorRootsRow.holds Tryz.pinned (OpenSpec.ofChange factorRootsSpec)

/-- ITS FALSE NEIGHBOUR: 'it returns false'. Refute it at one input. -/
def factorRootsWrong : ChangeSpec := { name := "factorRoots", fn := fun _ => fun
  | [d1, d2] => { results := [.lit (.bool false)], args := [d1, d2] }
  | _ => none }
def FactorRootsWrongFalsely : Prop := factorRootsRow.holds Tryz.pinned (OpenSpec.ofChange factorRootsWrong)

/- THE SECOND FORM. 'bulk': how many values and letters a reading holds, each counted each time it is reached (what is shared counts as often as it is met; a slice's spare places count too). A statement '..UptoSaid' is the law's where the arguments, and the package variables that the reading takes, are together of bulk at most 1048576: NARROWER than '..Said'. Prove '..Said' where nothing that the law and all that it calls make is longer than what came in: it says more and counts as full. Else prove '..UptoSaid'. A law counts once. -/
mutual
def uptoBulk {H : Type} : DataW H → Nat
  | .lit (.string bytes) => bytes.length + 1
  | .lit _ => 1
  | .nil => 1
  | .ptr d => uptoBulk d + 1
  | .slice elems spare => uptoBulkAll elems + uptoBulkAll spare + 1
  | .agg parts => uptoBulkAll parts + 1
  | .iface _ d => uptoBulk d + 1
  | .map entries => uptoBulkEntries entries + 1
  | .held _ => 1
def uptoBulkAll {H : Type} : List (DataW H) → Nat
  | [] => 0
  | d :: r => uptoBulk d + uptoBulkAll r
def uptoBulkEntries {H : Type} : List (Lit × DataW H) → Nat
  | [] => 0
  | x :: r => uptoBulkEntry x + uptoBulkEntries r
def uptoBulkEntry {H : Type} : Lit × DataW H → Nat
  | (.string bytes, d) => bytes.length + uptoBulk d + 1
  | (_, d) => uptoBulk d + 1
 end
def uptoSmall : (H : Type) → List (DataW H) → Bool := fun _ ds => decide (uptoBulkAll ds ≤ 1048576)
def OpenSpec.upto (s : _root_.Go.ChangeSpec) : _root_.Go.OpenSpec := { _root_.Go.OpenSpec.ofChange s with cond := some uptoSmall }

/-- 'cylinderlaw13.FactorKnown', WHERE WHAT IT READS IS OF BULK AT MOST 1048576: true; the input reads as it did. -/
def factorKnownUptoRow : OpenClaim := { program := "ytjdpemcnlejpfaagreatdoor", sum := "dd37434c8f6084c4788391e2d130c021bdac17b635d786355a284bfb452c61b4", func := "cylinder/cylinderlaw13.FactorKnown", spec := "factorKnown", unfollowed := true, recurses := true, named := ["math/bits.overflowError", "math/bits.deBruijn32tab"], apart := false, laid := [("math/bits.deBruijn32tab", laid_math_bits_deBruijn32tab)], narrowed := true }
def FactorKnownUptoSaid : Prop := factorKnownUptoRow.holds Tryz.pinned (OpenSpec.upto factorKnownSpec)

/-- 'cylinderlaw13.FactorEisenstein', WHERE WHAT IT READS IS OF BULK AT MOST 1048576: true; the input reads as it did. -/
def factorEisensteinUptoRow : OpenClaim := { program := "ytjdpemcnlejpfaagreatdoor", sum := "dd37434c8f6084c4788391e2d130c021bdac17b635d786355a284bfb452c61b4", func := "cylinder/cylinderlaw13.FactorEisenstein", spec := "factorEisenstein", unfollowed := true, recurses := true, named := ["math/bits.overflowError", "math/bits.deBruijn32tab"], apart := false, laid := [("math/bits.deBruijn32tab", laid_math_bits_deBruijn32tab)], narrowed := true }
def FactorEisensteinUptoSaid : Prop := factorEisensteinUptoRow.holds Tryz.pinned (OpenSpec.upto factorEisensteinSpec)

/-- 'cylinderlaw13.FactorUnique', WHERE WHAT IT READS IS OF BULK AT MOST 1048576: true; the input reads as it did. -/
def factorUniqueUptoRow : OpenClaim := { program := "ytjdpemcnlejpfaagreatdoor", sum := "dd37434c8f6084c4788391e2d130c021bdac17b635d786355a284bfb452c61b4", func := "cylinder/cylinderlaw13.FactorUnique", spec := "factorUnique", unfollowed := true, recurses := true, named := ["math/bits.overflowError", "math/bits.deBruijn32tab"], apart := false, laid := [("math/bits.deBruijn32tab", laid_math_bits_deBruijn32tab)], narrowed := true }
def FactorUniqueUptoSaid : Prop := factorUniqueUptoRow.holds Tryz.pinned (OpenSpec.upto factorUniqueSpec)

/-- 'cylinderlaw13.FactorSplit', WHERE WHAT IT READS IS OF BULK AT MOST 1048576: true; the input reads as it did. -/
def factorSplitUptoRow : OpenClaim := { program := "ytjdpemcnlejpfaagreatdoor", sum := "dd37434c8f6084c4788391e2d130c021bdac17b635d786355a284bfb452c61b4", func := "cylinder/cylinderlaw13.FactorSplit", spec := "factorSplit", unfollowed := true, recurses := true, named := ["math/bits.overflowError", "math/bits.deBruijn32tab"], apart := false, laid := [("math/bits.deBruijn32tab", laid_math_bits_deBruijn32tab)], narrowed := true }
def FactorSplitUptoSaid : Prop := factorSplitUptoRow.holds Tryz.pinned (OpenSpec.upto factorSplitSpec)

/-- 'cylinderlaw13.FactorShift', WHERE WHAT IT READS IS OF BULK AT MOST 1048576: true; the input reads as it did. -/
def factorShiftUptoRow : OpenClaim := { program := "ytjdpemcnlejpfaagreatdoor", sum := "dd37434c8f6084c4788391e2d130c021bdac17b635d786355a284bfb452c61b4", func := "cylinder/cylinderlaw13.FactorShift", spec := "factorShift", unfollowed := true, recurses := true, named := ["math/bits.overflowError", "math/bits.deBruijn32tab"], apart := false, laid := [("math/bits.deBruijn32tab", laid_math_bits_deBruijn32tab)], narrowed := true }
def FactorShiftUptoSaid : Prop := factorShiftUptoRow.holds Tryz.pinned (OpenSpec.upto factorShiftSpec)

/-- 'cylinderlaw13.FactorPrime', WHERE WHAT IT READS IS OF BULK AT MOST 1048576: true; the input reads as it did. -/
def factorPrimeUptoRow : OpenClaim := { program := "ytjdpemcnlejpfaagreatdoor", sum := "dd37434c8f6084c4788391e2d130c021bdac17b635d786355a284bfb452c61b4", func := "cylinder/cylinderlaw13.FactorPrime", spec := "factorPrime", unfollowed := true, recurses := true, named := ["math/bits.overflowError", "math/bits.deBruijn32tab"], apart := false, laid := [("math/bits.deBruijn32tab", laid_math_bits_deBruijn32tab)], narrowed := true }
def FactorPrimeUptoSaid : Prop := factorPrimeUptoRow.holds Tryz.pinned (OpenSpec.upto factorPrimeSpec)

/-- 'cylinderlaw13.FactorModular', WHERE WHAT IT READS IS OF BULK AT MOST 1048576: true; the input reads as it did. -/
def factorModularUptoRow : OpenClaim := { program := "ytjdpemcnlejpfaagreatdoor", sum := "dd37434c8f6084c4788391e2d130c021bdac17b635d786355a284bfb452c61b4", func := "cylinder/cylinderlaw13.FactorModular", spec := "factorModular", unfollowed := true, recurses := true, named := ["math/bits.overflowError", "math/bits.deBruijn32tab"], apart := false, laid := [("math/bits.deBruijn32tab", laid_math_bits_deBruijn32tab)], narrowed := true }
def FactorModularUptoSaid : Prop := factorModularUptoRow.holds Tryz.pinned (OpenSpec.upto factorModularSpec)

/-- 'cylinderlaw13.FactorExpand', WHERE WHAT IT READS IS OF BULK AT MOST 1048576: true; the input reads as it did. -/
def factorExpandUptoRow : OpenClaim := { program := "ytjdpemcnlejpfaagreatdoor", sum := "dd37434c8f6084c4788391e2d130c021bdac17b635d786355a284bfb452c61b4", func := "cylinder/cylinderlaw13.FactorExpand", spec := "factorExpand", unfollowed := true, recurses := true, named := ["math/bits.overflowError", "math/bits.deBruijn32tab"], apart := false, laid := [("math/bits.deBruijn32tab", laid_math_bits_deBruijn32tab)], narrowed := true }
def FactorExpandUptoSaid : Prop := factorExpandUptoRow.holds Tryz.pinned (OpenSpec.upto factorExpandSpec)

/-- 'cylinderlaw13.FactorCyclotomic', WHERE WHAT IT READS IS OF BULK AT MOST 1048576: true; the input reads as it did. -/
def factorCyclotomicUptoRow : OpenClaim := { program := "ytjdpemcnlejpfaagreatdoor", sum := "dd37434c8f6084c4788391e2d130c021bdac17b635d786355a284bfb452c61b4", func := "cylinder/cylinderlaw13.FactorCyclotomic", spec := "factorCyclotomic", unfollowed := true, recurses := true, named := ["math/bits.overflowError", "math/bits.deBruijn32tab"], apart := false, laid := [("math/bits.deBruijn32tab", laid_math_bits_deBruijn32tab)], narrowed := true }
def FactorCyclotomicUptoSaid : Prop := factorCyclotomicUptoRow.holds Tryz.pinned (OpenSpec.upto factorCyclotomicSpec)

/-- 'cylinderlaw13.FactorRoots', WHERE WHAT IT READS IS OF BULK AT MOST 1048576: true; the input reads as it did. -/
def factorRootsUptoRow : OpenClaim := { program := "ytjdpemcnlejpfaagreatdoor", sum := "dd37434c8f6084c4788391e2d130c021bdac17b635d786355a284bfb452c61b4", func := "cylinder/cylinderlaw13.FactorRoots", spec := "factorRoots", unfollowed := true, recurses := true, named := ["math/bits.overflowError", "math/bits.deBruijn32tab"], apart := false, laid := [("math/bits.deBruijn32tab", laid_math_bits_deBruijn32tab)], narrowed := true }
def FactorRootsUptoSaid : Prop := factorRootsUptoRow.holds Tryz.pinned (OpenSpec.upto factorRootsSpec)

end Rows
end Go.Proofs.YtjdpemcnlejpfaaGreatDoor
