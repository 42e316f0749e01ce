/-
  DERIVED. GIVEN WITH THE SEED: THE CARDS: each row of YtnnhofmknilopaaGreatDoorRows.lean that lists a variable, with what it lists TIED to the program's text (the seventh form; the later family's looks); each row that meets fmt, with fmt's text TOLD by the authors' own Lean function (tested against real Go, not proved from fmt's source: count such statements apart). THE CARD IS WHAT COUNTS. Prove the row's statement (the work); the ties are given (YtnnhofmknilopaaGreatDoorTie.lean); close each card by the builder's one call (the guide's Derived/Test/ToyasCard.lean, 'card_holds'). Laid BY PROGRAM, IN A SANDBOX (cutbox-door.mjs). By AI agents, Wed Nov 11 2026. No macro, syntax, notation, axiom, sorry.
-/
import Derived.Test.YtnnhofmknilopaaGreatDoorRows
import GoSem.ClaimSeven
namespace Go.Proofs.YtnnhofmknilopaaGreatDoor
namespace Rows

/-- THE TIED CARD OF 'inequalitylaw07.CheckPrints'. -/
def checkPrintsCard : Claim7 := { stood := { row := checkPrintsRow, standIns := [], harness := (true, "82f384cae31b6094ea276a14fa41fa54041375e2fc80a1e4baad042252543d6b"), looks := true }, kinds := [], alts := [], laidByText := true, laidKinds := [.data, .data, .data], laidTests := true, laidLooks := .later }
def CheckPrintsCardSaid : Prop := Claim7.holds Tryz.pinned (.plain (OpenSpec.ofChange checkPrintsSpec)) checkPrintsCard

/-- THE SECOND FORM's CARD OF 'inequalitylaw07.CheckPrints'. -/
def checkPrintsUptoCard : Claim7 := { stood := { row := checkPrintsUptoRow, standIns := [], harness := (true, "82f384cae31b6094ea276a14fa41fa54041375e2fc80a1e4baad042252543d6b"), looks := true }, kinds := [], alts := [], laidByText := true, laidKinds := [.data, .data, .data], laidTests := true, laidLooks := .later }
def CheckPrintsUptoCardSaid : Prop := Claim7.holds Tryz.pinned (.plain (OpenSpec.upto checkPrintsSpec)) checkPrintsUptoCard
end Rows
end Go.Proofs.YtnnhofmknilopaaGreatDoor
