/-
  DERIVED. GIVEN WITH THE SEED: THE CARDS: each row of YtgmbeedbeahblaaGreatDoorRows.lean that lists a variable, with what it lists TIED to the program's text (the seventh form; the later family's looks); each row that meets fmt, with fmt's text TOLD by the authors' own Lean function (tested against real Go, not proved from fmt's source: count such statements apart). THE CARD IS WHAT COUNTS. Prove the row's statement (the work); the ties are given (YtgmbeedbeahblaaGreatDoorTie.lean); close each card by the builder's one call (the guide's Derived/Test/ToyasCard.lean, 'card_holds'). Laid BY PROGRAM, IN A SANDBOX (cutbox-door.mjs). By AI agents, Wed Nov 11 2026. No macro, syntax, notation, axiom, sorry.
-/
import Derived.Test.YtgmbeedbeahblaaGreatDoorRows
import GoSem.ClaimSeven
namespace Go.Proofs.YtgmbeedbeahblaaGreatDoor
namespace Rows

/-- THE TIED CARD OF 'inequalitylaw07.CheckShapes'. -/
def checkShapesCard : Claim7 := { stood := { row := checkShapesRow, standIns := [], harness := (true, "181c3bd732634b8aef9020aeabb40c5105769fd2336ede8efaa599d320eb71c5"), looks := true }, kinds := [], alts := [], laidByText := true, laidKinds := [.data, .data, .data], laidTests := true, laidLooks := .later }
def CheckShapesCardSaid : Prop := Claim7.holds Tryz.pinned (.plain (OpenSpec.ofChange checkShapesSpec)) checkShapesCard

/-- THE SECOND FORM's CARD OF 'inequalitylaw07.CheckShapes'. -/
def checkShapesUptoCard : Claim7 := { stood := { row := checkShapesUptoRow, standIns := [], harness := (true, "181c3bd732634b8aef9020aeabb40c5105769fd2336ede8efaa599d320eb71c5"), looks := true }, kinds := [], alts := [], laidByText := true, laidKinds := [.data, .data, .data], laidTests := true, laidLooks := .later }
def CheckShapesUptoCardSaid : Prop := Claim7.holds Tryz.pinned (.plain (OpenSpec.upto checkShapesSpec)) checkShapesUptoCard
end Rows
end Go.Proofs.YtgmbeedbeahblaaGreatDoor
