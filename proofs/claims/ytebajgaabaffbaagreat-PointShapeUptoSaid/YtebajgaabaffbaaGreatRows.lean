/-
  No cell of these rows narrows 'for every input' (looked for: loops, veiled, ifaces, maps, wideKeys, modest, calm, conditions, laid).
  DERIVED. THE GIVEN ROWS OF THIS SEAT. 7 by the template 'for every input the law returns true; each argument reads behind the call as it read before'; 0 by the template 'total and deterministic' (their statements: YtebajgaabaffbaaGreatTotals.lean).
  GIVEN WITH THE SEED: the statements are not yours to turn. If you find one false, say at which input.
  Laid BY PROGRAM, IN A SANDBOX (cutbox-rows.mjs): the forced cells as the released guide's own fill.sh prints them over the translation 29c31f0313cd3077… (all of the seat's roots in one cut). By AI agents, Wed Nov 11 2026. No macro, syntax, notation, axiom, sorry.
-/
import Derived.Test.YtebajgaabaffbaaGreatChecked
import GoSem.Claim
import GoSem.ClaimJoined
import GoSem.ClaimMapViews
import Derived.JoinedTies
import Derived.KernelRfl
namespace Go.Proofs.YtebajgaabaffbaaGreat
/- THE CELL 'sum', in the pinned program and in every row, IS THE sha256 OF THE DUMP (.gsa) THAT YtebajgaabaffbaaGreatProg.lean LOADS. Nothing in Lean hashes anything: it is a label: what it is worth is what the hold of that sum in a sandbox is worth. -/
noncomputable def Tryz.pinned : Pinned := { name := "ytebajgaabaffbaagreat", sum := "29c31f0313cd3077684ceb935ec966b24371cfbe6c71bae5afacea8120b1bd02", checked := Tryz.checked }
namespace Rows
def none {H : Type} : Left H := { results := [], args := [] }

/-- 'cylinderlaw31.PointRationals': WHATEVER THE INPUT: true; the input reads as it did. -/
def pointRationalsSpec : ChangeSpec := { name := "pointRationals", fn := fun _ => fun
  | [d1, d2] => { results := [.lit (.bool true)], args := [d1, d2] }
  | _ => none }
def pointRationalsRow : OpenClaim := { program := "ytebajgaabaffbaagreat", sum := "29c31f0313cd3077684ceb935ec966b24371cfbe6c71bae5afacea8120b1bd02", func := "cylinder/cylinderlaw31.PointRationals", spec := "pointRationals", unfollowed := true, recurses := true, named := ["math/bits.overflowError"], plainKeys := false, apart := false }
def PointRationalsSaid : Prop := pointRationalsRow.holds Tryz.pinned (OpenSpec.ofChange pointRationalsSpec)

/-- ITS FALSE NEIGHBOUR: 'it returns false'. Refute it at one input. -/
def pointRationalsWrong : ChangeSpec := { name := "pointRationals", fn := fun _ => fun
  | [d1, d2] => { results := [.lit (.bool false)], args := [d1, d2] }
  | _ => none }
def PointRationalsWrongFalsely : Prop := pointRationalsRow.holds Tryz.pinned (OpenSpec.ofChange pointRationalsWrong)

/-- 'cylinderlaw31.PointShape': WHATEVER THE INPUT: true; the input reads as it did. -/
def pointShapeSpec : ChangeSpec := { name := "pointShape", fn := fun _ => fun
  | [d] => { results := [.lit (.bool true)], args := [d] }
  | _ => none }
def pointShapeRow : OpenClaim := { program := "ytebajgaabaffbaagreat", sum := "29c31f0313cd3077684ceb935ec966b24371cfbe6c71bae5afacea8120b1bd02", func := "cylinder/cylinderlaw31.PointShape", spec := "pointShape", unfollowed := true, recurses := true, named := ["math/bits.overflowError"], plainKeys := false, apart := false }
def PointShapeSaid : Prop := pointShapeRow.holds Tryz.pinned (OpenSpec.ofChange pointShapeSpec)

/-- ITS FALSE NEIGHBOUR: 'it returns false'. Refute it at one input. -/
def pointShapeWrong : ChangeSpec := { name := "pointShape", fn := fun _ => fun
  | [d] => { results := [.lit (.bool false)], args := [d] }
  | _ => none }
def PointShapeWrongFalsely : Prop := pointShapeRow.holds Tryz.pinned (OpenSpec.ofChange pointShapeWrong)

/-- 'cylinderlaw31.PointParts': WHATEVER THE INPUT: true; the input reads as it did. -/
def pointPartsSpec : ChangeSpec := { name := "pointParts", fn := fun _ => fun
  | [d1, d2, d3] => { results := [.lit (.bool true)], args := [d1, d2, d3] }
  | _ => none }
def pointPartsRow : OpenClaim := { program := "ytebajgaabaffbaagreat", sum := "29c31f0313cd3077684ceb935ec966b24371cfbe6c71bae5afacea8120b1bd02", func := "cylinder/cylinderlaw31.PointParts", spec := "pointParts", unfollowed := true, recurses := true, named := ["math/bits.overflowError"], plainKeys := false, apart := false }
def PointPartsSaid : Prop := pointPartsRow.holds Tryz.pinned (OpenSpec.ofChange pointPartsSpec)

/-- ITS FALSE NEIGHBOUR: 'it returns false'. Refute it at one input. -/
def pointPartsWrong : ChangeSpec := { name := "pointParts", fn := fun _ => fun
  | [d1, d2, d3] => { results := [.lit (.bool false)], args := [d1, d2, d3] }
  | _ => none }
def PointPartsWrongFalsely : Prop := pointPartsRow.holds Tryz.pinned (OpenSpec.ofChange pointPartsWrong)

/-- 'cylinderlaw31.PointNormal': WHATEVER THE INPUT: true; the input reads as it did. -/
def pointNormalSpec : ChangeSpec := { name := "pointNormal", fn := fun _ => fun
  | [d1, d2] => { results := [.lit (.bool true)], args := [d1, d2] }
  | _ => none }
def pointNormalRow : OpenClaim := { program := "ytebajgaabaffbaagreat", sum := "29c31f0313cd3077684ceb935ec966b24371cfbe6c71bae5afacea8120b1bd02", func := "cylinder/cylinderlaw31.PointNormal", spec := "pointNormal", unfollowed := true, recurses := true, named := ["math/bits.overflowError"], plainKeys := false, apart := false }
def PointNormalSaid : Prop := pointNormalRow.holds Tryz.pinned (OpenSpec.ofChange pointNormalSpec)

/-- ITS FALSE NEIGHBOUR: 'it returns false'. Refute it at one input. -/
def pointNormalWrong : ChangeSpec := { name := "pointNormal", fn := fun _ => fun
  | [d1, d2] => { results := [.lit (.bool false)], args := [d1, d2] }
  | _ => none }
def PointNormalWrongFalsely : Prop := pointNormalRow.holds Tryz.pinned (OpenSpec.ofChange pointNormalWrong)

/-- 'cylinderlaw31.PointExact': WHATEVER THE INPUT: true; the input reads as it did. -/
def pointExactSpec : ChangeSpec := { name := "pointExact", fn := fun _ => fun
  | [d1, d2] => { results := [.lit (.bool true)], args := [d1, d2] }
  | _ => none }
def pointExactRow : OpenClaim := { program := "ytebajgaabaffbaagreat", sum := "29c31f0313cd3077684ceb935ec966b24371cfbe6c71bae5afacea8120b1bd02", func := "cylinder/cylinderlaw31.PointExact", spec := "pointExact", unfollowed := true, recurses := true, named := ["math/bits.overflowError"], plainKeys := false, apart := false }
def PointExactSaid : Prop := pointExactRow.holds Tryz.pinned (OpenSpec.ofChange pointExactSpec)

/-- ITS FALSE NEIGHBOUR: 'it returns false'. Refute it at one input. -/
def pointExactWrong : ChangeSpec := { name := "pointExact", fn := fun _ => fun
  | [d1, d2] => { results := [.lit (.bool false)], args := [d1, d2] }
  | _ => none }
def PointExactWrongFalsely : Prop := pointExactRow.holds Tryz.pinned (OpenSpec.ofChange pointExactWrong)

/-- 'cylinderlaw31.PointEncloses': WHATEVER THE INPUT: true; the input reads as it did. -/
def pointEnclosesSpec : ChangeSpec := { name := "pointEncloses", fn := fun _ => fun
  | [d1, d2] => { results := [.lit (.bool true)], args := [d1, d2] }
  | _ => none }
def pointEnclosesRow : OpenClaim := { program := "ytebajgaabaffbaagreat", sum := "29c31f0313cd3077684ceb935ec966b24371cfbe6c71bae5afacea8120b1bd02", func := "cylinder/cylinderlaw31.PointEncloses", spec := "pointEncloses", unfollowed := true, recurses := true, named := ["math/bits.overflowError"], plainKeys := false, apart := false }
def PointEnclosesSaid : Prop := pointEnclosesRow.holds Tryz.pinned (OpenSpec.ofChange pointEnclosesSpec)

/-- ITS FALSE NEIGHBOUR: 'it returns false'. Refute it at one input. -/
def pointEnclosesWrong : ChangeSpec := { name := "pointEncloses", fn := fun _ => fun
  | [d1, d2] => { results := [.lit (.bool false)], args := [d1, d2] }
  | _ => none }
def PointEnclosesWrongFalsely : Prop := pointEnclosesRow.holds Tryz.pinned (OpenSpec.ofChange pointEnclosesWrong)

/-- 'cylinderlaw31.PointShrinks': WHATEVER THE INPUT: true; the input reads as it did. -/
def pointShrinksSpec : ChangeSpec := { name := "pointShrinks", fn := fun _ => fun
  | [d1, d2, d3] => { results := [.lit (.bool true)], args := [d1, d2, d3] }
  | _ => none }
def pointShrinksRow : OpenClaim := { program := "ytebajgaabaffbaagreat", sum := "29c31f0313cd3077684ceb935ec966b24371cfbe6c71bae5afacea8120b1bd02", func := "cylinder/cylinderlaw31.PointShrinks", spec := "pointShrinks", unfollowed := true, recurses := true, named := ["math/bits.overflowError"], plainKeys := false, apart := false }
def PointShrinksSaid : Prop := pointShrinksRow.holds Tryz.pinned (OpenSpec.ofChange pointShrinksSpec)

/-- ITS FALSE NEIGHBOUR: 'it returns false'. Refute it at one input. -/
def pointShrinksWrong : ChangeSpec := { name := "pointShrinks", fn := fun _ => fun
  | [d1, d2, d3] => { results := [.lit (.bool false)], args := [d1, d2, d3] }
  | _ => none }
def PointShrinksWrongFalsely : Prop := pointShrinksRow.holds Tryz.pinned (OpenSpec.ofChange pointShrinksWrong)

/- THE SECOND FORM. 'bulk': how many values and letters a reading holds, each counted each time it is reached (what is shared counts as often as it is met; a slice's spare places count too). A statement '..UptoSaid' is the law's where the arguments, and the package variables that the reading takes, are together of bulk at most 1048576: NARROWER than '..Said'. Prove '..Said' where nothing that the law and all that it calls make is longer than what came in: it says more and counts as full. Else prove '..UptoSaid'. A law counts once. -/
mutual
def uptoBulk {H : Type} : DataW H → Nat
  | .lit (.string bytes) => bytes.length + 1
  | .lit _ => 1
  | .nil => 1
  | .ptr d => uptoBulk d + 1
  | .slice elems spare => uptoBulkAll elems + uptoBulkAll spare + 1
  | .agg parts => uptoBulkAll parts + 1
  | .iface _ d => uptoBulk d + 1
  | .map entries => uptoBulkEntries entries + 1
  | .held _ => 1
def uptoBulkAll {H : Type} : List (DataW H) → Nat
  | [] => 0
  | d :: r => uptoBulk d + uptoBulkAll r
def uptoBulkEntries {H : Type} : List (Lit × DataW H) → Nat
  | [] => 0
  | x :: r => uptoBulkEntry x + uptoBulkEntries r
def uptoBulkEntry {H : Type} : Lit × DataW H → Nat
  | (.string bytes, d) => bytes.length + uptoBulk d + 1
  | (_, d) => uptoBulk d + 1
 end
def uptoSmall : (H : Type) → List (DataW H) → Bool := fun _ ds => decide (uptoBulkAll ds ≤ 1048576)
def OpenSpec.upto (s : _root_.Go.ChangeSpec) : _root_.Go.OpenSpec := { _root_.Go.OpenSpec.ofChange s with cond := some uptoSmall }

/-- 'cylinderlaw31.PointRationals', WHERE WHAT IT READS IS OF BULK AT MOST 1048576: true; the input reads as it did. -/
def pointRationalsUptoRow : OpenClaim := { program := "ytebajgaabaffbaagreat", sum := "29c31f0313cd3077684ceb935ec966b24371cfbe6c71bae5afacea8120b1bd02", func := "cylinder/cylinderlaw31.PointRationals", spec := "pointRationals", unfollowed := true, recurses := true, named := ["math/bits.overflowError"], plainKeys := false, apart := false, narrowed := true }
def PointRationalsUptoSaid : Prop := pointRationalsUptoRow.holds Tryz.pinned (OpenSpec.upto pointRationalsSpec)

/-- 'cylinderlaw31.PointShape', WHERE WHAT IT READS IS OF BULK AT MOST 1048576: true; the input reads as it did. -/
def pointShapeUptoRow : OpenClaim := { program := "ytebajgaabaffbaagreat", sum := "29c31f0313cd3077684ceb935ec966b24371cfbe6c71bae5afacea8120b1bd02", func := "cylinder/cylinderlaw31.PointShape", spec := "pointShape", unfollowed := true, recurses := true, named := ["math/bits.overflowError"], plainKeys := false, apart := false, narrowed := true }
def PointShapeUptoSaid : Prop := pointShapeUptoRow.holds Tryz.pinned (OpenSpec.upto pointShapeSpec)

/-- 'cylinderlaw31.PointParts', WHERE WHAT IT READS IS OF BULK AT MOST 1048576: true; the input reads as it did. -/
def pointPartsUptoRow : OpenClaim := { program := "ytebajgaabaffbaagreat", sum := "29c31f0313cd3077684ceb935ec966b24371cfbe6c71bae5afacea8120b1bd02", func := "cylinder/cylinderlaw31.PointParts", spec := "pointParts", unfollowed := true, recurses := true, named := ["math/bits.overflowError"], plainKeys := false, apart := false, narrowed := true }
def PointPartsUptoSaid : Prop := pointPartsUptoRow.holds Tryz.pinned (OpenSpec.upto pointPartsSpec)

/-- 'cylinderlaw31.PointNormal', WHERE WHAT IT READS IS OF BULK AT MOST 1048576: true; the input reads as it did. -/
def pointNormalUptoRow : OpenClaim := { program := "ytebajgaabaffbaagreat", sum := "29c31f0313cd3077684ceb935ec966b24371cfbe6c71bae5afacea8120b1bd02", func := "cylinder/cylinderlaw31.PointNormal", spec := "pointNormal", unfollowed := true, recurses := true, named := ["math/bits.overflowError"], plainKeys := false, apart := false, narrowed := true }
def PointNormalUptoSaid : Prop := pointNormalUptoRow.holds Tryz.pinned (OpenSpec.upto pointNormalSpec)

/-- 'cylinderlaw31.PointExact', WHERE WHAT IT READS IS OF BULK AT MOST 1048576: true; the input reads as it did. -/
def pointExactUptoRow : OpenClaim := { program := "ytebajgaabaffbaagreat", sum := "29c31f0313cd3077684ceb935ec966b24371cfbe6c71bae5afacea8120b1bd02", func := "cylinder/cylinderlaw31.PointExact", spec := "pointExact", unfollowed := true, recurses := true, named := ["math/bits.overflowError"], plainKeys := false, apart := false, narrowed := true }
def PointExactUptoSaid : Prop := pointExactUptoRow.holds Tryz.pinned (OpenSpec.upto pointExactSpec)

/-- 'cylinderlaw31.PointEncloses', WHERE WHAT IT READS IS OF BULK AT MOST 1048576: true; the input reads as it did. -/
def pointEnclosesUptoRow : OpenClaim := { program := "ytebajgaabaffbaagreat", sum := "29c31f0313cd3077684ceb935ec966b24371cfbe6c71bae5afacea8120b1bd02", func := "cylinder/cylinderlaw31.PointEncloses", spec := "pointEncloses", unfollowed := true, recurses := true, named := ["math/bits.overflowError"], plainKeys := false, apart := false, narrowed := true }
def PointEnclosesUptoSaid : Prop := pointEnclosesUptoRow.holds Tryz.pinned (OpenSpec.upto pointEnclosesSpec)

/-- 'cylinderlaw31.PointShrinks', WHERE WHAT IT READS IS OF BULK AT MOST 1048576: true; the input reads as it did. -/
def pointShrinksUptoRow : OpenClaim := { program := "ytebajgaabaffbaagreat", sum := "29c31f0313cd3077684ceb935ec966b24371cfbe6c71bae5afacea8120b1bd02", func := "cylinder/cylinderlaw31.PointShrinks", spec := "pointShrinks", unfollowed := true, recurses := true, named := ["math/bits.overflowError"], plainKeys := false, apart := false, narrowed := true }
def PointShrinksUptoSaid : Prop := pointShrinksUptoRow.holds Tryz.pinned (OpenSpec.upto pointShrinksSpec)

end Rows
end Go.Proofs.YtebajgaabaffbaaGreat
