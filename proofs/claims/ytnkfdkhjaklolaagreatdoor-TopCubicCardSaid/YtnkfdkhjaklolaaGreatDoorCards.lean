/-
  DERIVED. GIVEN WITH THE SEED: THE CARDS: each row of YtnkfdkhjaklolaaGreatDoorRows.lean that lists a variable, with what it lists TIED to the program's text (the seventh form; the later family's looks); each row that meets fmt, with fmt's text TOLD by the authors' own Lean function (tested against real Go, not proved from fmt's source: count such statements apart). THE CARD IS WHAT COUNTS. Prove the row's statement (the work); the ties are given (YtnkfdkhjaklolaaGreatDoorTie.lean); close each card by the builder's one call (the guide's Derived/Test/ToyasCard.lean, 'card_holds'). Laid BY PROGRAM, IN A SANDBOX (cutbox-door.mjs). By AI agents, Wed Nov 11 2026. No macro, syntax, notation, axiom, sorry.
-/
import Derived.Test.YtnkfdkhjaklolaaGreatDoorRows
import GoSem.ClaimSeven
namespace Go.Proofs.YtnkfdkhjaklolaaGreatDoor
namespace Rows

/-- THE TIED CARD OF 'cylindertop.TopCubic'. -/
def topCubicCard : Claim7 := { stood := { row := topCubicRow, standIns := [], harness := (true, "d84d94d8a3444f20bcce3231b227b8d3d81ad8185d5f5c333d728cc2be0afd0c"), looks := false }, kinds := [], alts := [], laidByText := true, laidKinds := [.data], laidTests := true, laidLooks := .later }
def TopCubicCardSaid : Prop := Claim7.holds Tryz.pinned (.plain (OpenSpec.ofChange topCubicSpec)) topCubicCard

/-- THE SECOND FORM's CARD OF 'cylindertop.TopCubic'. -/
def topCubicUptoCard : Claim7 := { stood := { row := topCubicUptoRow, standIns := [], harness := (true, "d84d94d8a3444f20bcce3231b227b8d3d81ad8185d5f5c333d728cc2be0afd0c"), looks := false }, kinds := [], alts := [], laidByText := true, laidKinds := [.data], laidTests := true, laidLooks := .later }
def TopCubicUptoCardSaid : Prop := Claim7.holds Tryz.pinned (.plain (OpenSpec.upto topCubicSpec)) topCubicUptoCard
end Rows
end Go.Proofs.YtnkfdkhjaklolaaGreatDoor
