/-
  DERIVED. GIVEN WITH THE SEED: THE CARDS: each row of YtneolcopompkaaaGreatDoorRows.lean that lists a variable, with what it lists TIED to the program's text (the seventh form; the later family's looks); each row that meets fmt, with fmt's text TOLD by the authors' own Lean function (tested against real Go, not proved from fmt's source: count such statements apart). THE CARD IS WHAT COUNTS. Prove the row's statement (the work); the ties are given (YtneolcopompkaaaGreatDoorTie.lean); close each card by the builder's one call (the guide's Derived/Test/ToyasCard.lean, 'card_holds'). Laid BY PROGRAM, IN A SANDBOX (cutbox-door.mjs). By AI agents, Wed Nov 11 2026. No macro, syntax, notation, axiom, sorry.
-/
import Derived.Test.YtneolcopompkaaaGreatDoorRows
import GoSem.ClaimSeven
namespace Go.Proofs.YtneolcopompkaaaGreatDoor
namespace Rows

/-- THE TIED CARD OF 'cylinderlaw12.HenselExponent'. -/
def henselExponentCard : Claim7 := { stood := { row := henselExponentRow, standIns := [], harness := (true, "7a552a6a96560da9937484c57cc68b033d3c89f654b6f0d43afa19aa685370dd"), looks := false }, kinds := [], alts := [], laidByText := true, laidKinds := [.data], laidTests := true, laidLooks := .later }
def HenselExponentCardSaid : Prop := Claim7.holds Tryz.pinned (.plain (OpenSpec.ofChange henselExponentSpec)) henselExponentCard

/-- THE TIED CARD OF 'cylinderlaw12.HenselReturns'. -/
def henselReturnsCard : Claim7 := { stood := { row := henselReturnsRow, standIns := [], harness := (true, "7a552a6a96560da9937484c57cc68b033d3c89f654b6f0d43afa19aa685370dd"), looks := false }, kinds := [], alts := [], laidByText := true, laidKinds := [.data], laidTests := true, laidLooks := .later }
def HenselReturnsCardSaid : Prop := Claim7.holds Tryz.pinned (.plain (OpenSpec.ofChange henselReturnsSpec)) henselReturnsCard

/-- THE TIED CARD OF 'cylinderlaw12.HenselReduce'. -/
def henselReduceCard : Claim7 := { stood := { row := henselReduceRow, standIns := [], harness := (true, "7a552a6a96560da9937484c57cc68b033d3c89f654b6f0d43afa19aa685370dd"), looks := false }, kinds := [], alts := [], laidByText := true, laidKinds := [.data], laidTests := true, laidLooks := .later }
def HenselReduceCardSaid : Prop := Claim7.holds Tryz.pinned (.plain (OpenSpec.ofChange henselReduceSpec)) henselReduceCard

/-- THE TIED CARD OF 'cylinderlaw12.HenselBound'. -/
def henselBoundCard : Claim7 := { stood := { row := henselBoundRow, standIns := [], harness := (true, "7a552a6a96560da9937484c57cc68b033d3c89f654b6f0d43afa19aa685370dd"), looks := false }, kinds := [], alts := [], laidByText := true, laidKinds := [.data], laidTests := true, laidLooks := .later }
def HenselBoundCardSaid : Prop := Claim7.holds Tryz.pinned (.plain (OpenSpec.ofChange henselBoundSpec)) henselBoundCard

/-- THE TIED CARD OF 'cylinderlaw12.HenselLower'. -/
def henselLowerCard : Claim7 := { stood := { row := henselLowerRow, standIns := [], harness := (true, "7a552a6a96560da9937484c57cc68b033d3c89f654b6f0d43afa19aa685370dd"), looks := false }, kinds := [], alts := [], laidByText := true, laidKinds := [.data], laidTests := true, laidLooks := .later }
def HenselLowerCardSaid : Prop := Claim7.holds Tryz.pinned (.plain (OpenSpec.ofChange henselLowerSpec)) henselLowerCard

/-- THE TIED CARD OF 'cylinderlaw12.HenselLift'. -/
def henselLiftCard : Claim7 := { stood := { row := henselLiftRow, standIns := [], harness := (true, "7a552a6a96560da9937484c57cc68b033d3c89f654b6f0d43afa19aa685370dd"), looks := false }, kinds := [], alts := [], laidByText := true, laidKinds := [.data], laidTests := true, laidLooks := .later }
def HenselLiftCardSaid : Prop := Claim7.holds Tryz.pinned (.plain (OpenSpec.ofChange henselLiftSpec)) henselLiftCard

/-- THE SECOND FORM's CARD OF 'cylinderlaw12.HenselExponent'. -/
def henselExponentUptoCard : Claim7 := { stood := { row := henselExponentUptoRow, standIns := [], harness := (true, "7a552a6a96560da9937484c57cc68b033d3c89f654b6f0d43afa19aa685370dd"), looks := false }, kinds := [], alts := [], laidByText := true, laidKinds := [.data], laidTests := true, laidLooks := .later }
def HenselExponentUptoCardSaid : Prop := Claim7.holds Tryz.pinned (.plain (OpenSpec.upto henselExponentSpec)) henselExponentUptoCard

/-- THE SECOND FORM's CARD OF 'cylinderlaw12.HenselReturns'. -/
def henselReturnsUptoCard : Claim7 := { stood := { row := henselReturnsUptoRow, standIns := [], harness := (true, "7a552a6a96560da9937484c57cc68b033d3c89f654b6f0d43afa19aa685370dd"), looks := false }, kinds := [], alts := [], laidByText := true, laidKinds := [.data], laidTests := true, laidLooks := .later }
def HenselReturnsUptoCardSaid : Prop := Claim7.holds Tryz.pinned (.plain (OpenSpec.upto henselReturnsSpec)) henselReturnsUptoCard

/-- THE SECOND FORM's CARD OF 'cylinderlaw12.HenselReduce'. -/
def henselReduceUptoCard : Claim7 := { stood := { row := henselReduceUptoRow, standIns := [], harness := (true, "7a552a6a96560da9937484c57cc68b033d3c89f654b6f0d43afa19aa685370dd"), looks := false }, kinds := [], alts := [], laidByText := true, laidKinds := [.data], laidTests := true, laidLooks := .later }
def HenselReduceUptoCardSaid : Prop := Claim7.holds Tryz.pinned (.plain (OpenSpec.upto henselReduceSpec)) henselReduceUptoCard

/-- THE SECOND FORM's CARD OF 'cylinderlaw12.HenselBound'. -/
def henselBoundUptoCard : Claim7 := { stood := { row := henselBoundUptoRow, standIns := [], harness := (true, "7a552a6a96560da9937484c57cc68b033d3c89f654b6f0d43afa19aa685370dd"), looks := false }, kinds := [], alts := [], laidByText := true, laidKinds := [.data], laidTests := true, laidLooks := .later }
def HenselBoundUptoCardSaid : Prop := Claim7.holds Tryz.pinned (.plain (OpenSpec.upto henselBoundSpec)) henselBoundUptoCard

/-- THE SECOND FORM's CARD OF 'cylinderlaw12.HenselLower'. -/
def henselLowerUptoCard : Claim7 := { stood := { row := henselLowerUptoRow, standIns := [], harness := (true, "7a552a6a96560da9937484c57cc68b033d3c89f654b6f0d43afa19aa685370dd"), looks := false }, kinds := [], alts := [], laidByText := true, laidKinds := [.data], laidTests := true, laidLooks := .later }
def HenselLowerUptoCardSaid : Prop := Claim7.holds Tryz.pinned (.plain (OpenSpec.upto henselLowerSpec)) henselLowerUptoCard

/-- THE SECOND FORM's CARD OF 'cylinderlaw12.HenselLift'. -/
def henselLiftUptoCard : Claim7 := { stood := { row := henselLiftUptoRow, standIns := [], harness := (true, "7a552a6a96560da9937484c57cc68b033d3c89f654b6f0d43afa19aa685370dd"), looks := false }, kinds := [], alts := [], laidByText := true, laidKinds := [.data], laidTests := true, laidLooks := .later }
def HenselLiftUptoCardSaid : Prop := Claim7.holds Tryz.pinned (.plain (OpenSpec.upto henselLiftSpec)) henselLiftUptoCard
end Rows
end Go.Proofs.YtneolcopompkaaaGreatDoor
