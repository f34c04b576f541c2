/-
  DERIVED. GIVEN WITH THE SEED: THE CARDS: each row of YtjdpemcnlejpfaaGreatDoorRows.lean that lists a variable, with what it lists TIED to the program's text (the seventh form; the later family's looks); each row that meets fmt, with fmt's text TOLD by the authors' own Lean function (tested against real Go, not proved from fmt's source: count such statements apart). THE CARD IS WHAT COUNTS. Prove the row's statement (the work); the ties are given (YtjdpemcnlejpfaaGreatDoorTie.lean); close each card by the builder's one call (the guide's Derived/Test/ToyasCard.lean, 'card_holds'). Laid BY PROGRAM, IN A SANDBOX (cutbox-door.mjs). By AI agents, Wed Nov 11 2026. No macro, syntax, notation, axiom, sorry.
-/
import Derived.Test.YtjdpemcnlejpfaaGreatDoorRows
import GoSem.ClaimSeven
namespace Go.Proofs.YtjdpemcnlejpfaaGreatDoor
namespace Rows

/-- THE TIED CARD OF 'cylinderlaw13.FactorKnown'. -/
def factorKnownCard : Claim7 := { stood := { row := factorKnownRow, standIns := [], harness := (true, "e714b9fd499034b9678e4dff6b0ef337c50f450e99089250cfd49241dc3ba423"), looks := false }, kinds := [], alts := [], laidByText := true, laidKinds := [.data], laidTests := true, laidLooks := .later }
def FactorKnownCardSaid : Prop := Claim7.holds Tryz.pinned (.plain (OpenSpec.ofChange factorKnownSpec)) factorKnownCard

/-- THE TIED CARD OF 'cylinderlaw13.FactorEisenstein'. -/
def factorEisensteinCard : Claim7 := { stood := { row := factorEisensteinRow, standIns := [], harness := (true, "e714b9fd499034b9678e4dff6b0ef337c50f450e99089250cfd49241dc3ba423"), looks := false }, kinds := [], alts := [], laidByText := true, laidKinds := [.data], laidTests := true, laidLooks := .later }
def FactorEisensteinCardSaid : Prop := Claim7.holds Tryz.pinned (.plain (OpenSpec.ofChange factorEisensteinSpec)) factorEisensteinCard

/-- THE TIED CARD OF 'cylinderlaw13.FactorUnique'. -/
def factorUniqueCard : Claim7 := { stood := { row := factorUniqueRow, standIns := [], harness := (true, "e714b9fd499034b9678e4dff6b0ef337c50f450e99089250cfd49241dc3ba423"), looks := false }, kinds := [], alts := [], laidByText := true, laidKinds := [.data], laidTests := true, laidLooks := .later }
def FactorUniqueCardSaid : Prop := Claim7.holds Tryz.pinned (.plain (OpenSpec.ofChange factorUniqueSpec)) factorUniqueCard

/-- THE TIED CARD OF 'cylinderlaw13.FactorSplit'. -/
def factorSplitCard : Claim7 := { stood := { row := factorSplitRow, standIns := [], harness := (true, "e714b9fd499034b9678e4dff6b0ef337c50f450e99089250cfd49241dc3ba423"), looks := false }, kinds := [], alts := [], laidByText := true, laidKinds := [.data], laidTests := true, laidLooks := .later }
def FactorSplitCardSaid : Prop := Claim7.holds Tryz.pinned (.plain (OpenSpec.ofChange factorSplitSpec)) factorSplitCard

/-- THE TIED CARD OF 'cylinderlaw13.FactorShift'. -/
def factorShiftCard : Claim7 := { stood := { row := factorShiftRow, standIns := [], harness := (true, "e714b9fd499034b9678e4dff6b0ef337c50f450e99089250cfd49241dc3ba423"), looks := false }, kinds := [], alts := [], laidByText := true, laidKinds := [.data], laidTests := true, laidLooks := .later }
def FactorShiftCardSaid : Prop := Claim7.holds Tryz.pinned (.plain (OpenSpec.ofChange factorShiftSpec)) factorShiftCard

/-- THE TIED CARD OF 'cylinderlaw13.FactorPrime'. -/
def factorPrimeCard : Claim7 := { stood := { row := factorPrimeRow, standIns := [], harness := (true, "e714b9fd499034b9678e4dff6b0ef337c50f450e99089250cfd49241dc3ba423"), looks := false }, kinds := [], alts := [], laidByText := true, laidKinds := [.data], laidTests := true, laidLooks := .later }
def FactorPrimeCardSaid : Prop := Claim7.holds Tryz.pinned (.plain (OpenSpec.ofChange factorPrimeSpec)) factorPrimeCard

/-- THE TIED CARD OF 'cylinderlaw13.FactorModular'. -/
def factorModularCard : Claim7 := { stood := { row := factorModularRow, standIns := [], harness := (true, "e714b9fd499034b9678e4dff6b0ef337c50f450e99089250cfd49241dc3ba423"), looks := false }, kinds := [], alts := [], laidByText := true, laidKinds := [.data], laidTests := true, laidLooks := .later }
def FactorModularCardSaid : Prop := Claim7.holds Tryz.pinned (.plain (OpenSpec.ofChange factorModularSpec)) factorModularCard

/-- THE TIED CARD OF 'cylinderlaw13.FactorExpand'. -/
def factorExpandCard : Claim7 := { stood := { row := factorExpandRow, standIns := [], harness := (true, "e714b9fd499034b9678e4dff6b0ef337c50f450e99089250cfd49241dc3ba423"), looks := false }, kinds := [], alts := [], laidByText := true, laidKinds := [.data], laidTests := true, laidLooks := .later }
def FactorExpandCardSaid : Prop := Claim7.holds Tryz.pinned (.plain (OpenSpec.ofChange factorExpandSpec)) factorExpandCard

/-- THE TIED CARD OF 'cylinderlaw13.FactorCyclotomic'. -/
def factorCyclotomicCard : Claim7 := { stood := { row := factorCyclotomicRow, standIns := [], harness := (true, "e714b9fd499034b9678e4dff6b0ef337c50f450e99089250cfd49241dc3ba423"), looks := false }, kinds := [], alts := [], laidByText := true, laidKinds := [.data], laidTests := true, laidLooks := .later }
def FactorCyclotomicCardSaid : Prop := Claim7.holds Tryz.pinned (.plain (OpenSpec.ofChange factorCyclotomicSpec)) factorCyclotomicCard

/-- THE TIED CARD OF 'cylinderlaw13.FactorRoots'. -/
def factorRootsCard : Claim7 := { stood := { row := factorRootsRow, standIns := [], harness := (true, "e714b9fd499034b9678e4dff6b0ef337c50f450e99089250cfd49241dc3ba423"), looks := false }, kinds := [], alts := [], laidByText := true, laidKinds := [.data], laidTests := true, laidLooks := .later }
def FactorRootsCardSaid : Prop := Claim7.holds Tryz.pinned (.plain (OpenSpec.ofChange factorRootsSpec)) factorRootsCard

/-- THE SECOND FORM's CARD OF 'cylinderlaw13.FactorKnown'. -/
def factorKnownUptoCard : Claim7 := { stood := { row := factorKnownUptoRow, standIns := [], harness := (true, "e714b9fd499034b9678e4dff6b0ef337c50f450e99089250cfd49241dc3ba423"), looks := false }, kinds := [], alts := [], laidByText := true, laidKinds := [.data], laidTests := true, laidLooks := .later }
def FactorKnownUptoCardSaid : Prop := Claim7.holds Tryz.pinned (.plain (OpenSpec.upto factorKnownSpec)) factorKnownUptoCard

/-- THE SECOND FORM's CARD OF 'cylinderlaw13.FactorEisenstein'. -/
def factorEisensteinUptoCard : Claim7 := { stood := { row := factorEisensteinUptoRow, standIns := [], harness := (true, "e714b9fd499034b9678e4dff6b0ef337c50f450e99089250cfd49241dc3ba423"), looks := false }, kinds := [], alts := [], laidByText := true, laidKinds := [.data], laidTests := true, laidLooks := .later }
def FactorEisensteinUptoCardSaid : Prop := Claim7.holds Tryz.pinned (.plain (OpenSpec.upto factorEisensteinSpec)) factorEisensteinUptoCard

/-- THE SECOND FORM's CARD OF 'cylinderlaw13.FactorUnique'. -/
def factorUniqueUptoCard : Claim7 := { stood := { row := factorUniqueUptoRow, standIns := [], harness := (true, "e714b9fd499034b9678e4dff6b0ef337c50f450e99089250cfd49241dc3ba423"), looks := false }, kinds := [], alts := [], laidByText := true, laidKinds := [.data], laidTests := true, laidLooks := .later }
def FactorUniqueUptoCardSaid : Prop := Claim7.holds Tryz.pinned (.plain (OpenSpec.upto factorUniqueSpec)) factorUniqueUptoCard

/-- THE SECOND FORM's CARD OF 'cylinderlaw13.FactorSplit'. -/
def factorSplitUptoCard : Claim7 := { stood := { row := factorSplitUptoRow, standIns := [], harness := (true, "e714b9fd499034b9678e4dff6b0ef337c50f450e99089250cfd49241dc3ba423"), looks := false }, kinds := [], alts := [], laidByText := true, laidKinds := [.data], laidTests := true, laidLooks := .later }
def FactorSplitUptoCardSaid : Prop := Claim7.holds Tryz.pinned (.plain (OpenSpec.upto factorSplitSpec)) factorSplitUptoCard

/-- THE SECOND FORM's CARD OF 'cylinderlaw13.FactorShift'. -/
def factorShiftUptoCard : Claim7 := { stood := { row := factorShiftUptoRow, standIns := [], harness := (true, "e714b9fd499034b9678e4dff6b0ef337c50f450e99089250cfd49241dc3ba423"), looks := false }, kinds := [], alts := [], laidByText := true, laidKinds := [.data], laidTests := true, laidLooks := .later }
def FactorShiftUptoCardSaid : Prop := Claim7.holds Tryz.pinned (.plain (OpenSpec.upto factorShiftSpec)) factorShiftUptoCard

/-- THE SECOND FORM's CARD OF 'cylinderlaw13.FactorPrime'. -/
def factorPrimeUptoCard : Claim7 := { stood := { row := factorPrimeUptoRow, standIns := [], harness := (true, "e714b9fd499034b9678e4dff6b0ef337c50f450e99089250cfd49241dc3ba423"), looks := false }, kinds := [], alts := [], laidByText := true, laidKinds := [.data], laidTests := true, laidLooks := .later }
def FactorPrimeUptoCardSaid : Prop := Claim7.holds Tryz.pinned (.plain (OpenSpec.upto factorPrimeSpec)) factorPrimeUptoCard

/-- THE SECOND FORM's CARD OF 'cylinderlaw13.FactorModular'. -/
def factorModularUptoCard : Claim7 := { stood := { row := factorModularUptoRow, standIns := [], harness := (true, "e714b9fd499034b9678e4dff6b0ef337c50f450e99089250cfd49241dc3ba423"), looks := false }, kinds := [], alts := [], laidByText := true, laidKinds := [.data], laidTests := true, laidLooks := .later }
def FactorModularUptoCardSaid : Prop := Claim7.holds Tryz.pinned (.plain (OpenSpec.upto factorModularSpec)) factorModularUptoCard

/-- THE SECOND FORM's CARD OF 'cylinderlaw13.FactorExpand'. -/
def factorExpandUptoCard : Claim7 := { stood := { row := factorExpandUptoRow, standIns := [], harness := (true, "e714b9fd499034b9678e4dff6b0ef337c50f450e99089250cfd49241dc3ba423"), looks := false }, kinds := [], alts := [], laidByText := true, laidKinds := [.data], laidTests := true, laidLooks := .later }
def FactorExpandUptoCardSaid : Prop := Claim7.holds Tryz.pinned (.plain (OpenSpec.upto factorExpandSpec)) factorExpandUptoCard

/-- THE SECOND FORM's CARD OF 'cylinderlaw13.FactorCyclotomic'. -/
def factorCyclotomicUptoCard : Claim7 := { stood := { row := factorCyclotomicUptoRow, standIns := [], harness := (true, "e714b9fd499034b9678e4dff6b0ef337c50f450e99089250cfd49241dc3ba423"), looks := false }, kinds := [], alts := [], laidByText := true, laidKinds := [.data], laidTests := true, laidLooks := .later }
def FactorCyclotomicUptoCardSaid : Prop := Claim7.holds Tryz.pinned (.plain (OpenSpec.upto factorCyclotomicSpec)) factorCyclotomicUptoCard

/-- THE SECOND FORM's CARD OF 'cylinderlaw13.FactorRoots'. -/
def factorRootsUptoCard : Claim7 := { stood := { row := factorRootsUptoRow, standIns := [], harness := (true, "e714b9fd499034b9678e4dff6b0ef337c50f450e99089250cfd49241dc3ba423"), looks := false }, kinds := [], alts := [], laidByText := true, laidKinds := [.data], laidTests := true, laidLooks := .later }
def FactorRootsUptoCardSaid : Prop := Claim7.holds Tryz.pinned (.plain (OpenSpec.upto factorRootsSpec)) factorRootsUptoCard
end Rows
end Go.Proofs.YtjdpemcnlejpfaaGreatDoor
