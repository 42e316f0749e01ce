/-
  DERIVED. GIVEN WITH THE SEED: THE CARDS: each row of YtaonejnicgbifaaGreatDoorRows.lean that lists a variable, with what it lists TIED to the program's text (the seventh form; the later family's looks); each row that meets fmt, with fmt's text TOLD by the authors' own Lean function (tested against real Go, not proved from fmt's source: count such statements apart). THE CARD IS WHAT COUNTS. Prove the row's statement (the work); the ties are given (YtaonejnicgbifaaGreatDoorTie.lean); close each card by the builder's one call (the guide's Derived/Test/ToyasCard.lean, 'card_holds'). Laid BY PROGRAM, IN A SANDBOX (cutbox-door.mjs). By AI agents, Wed Nov 11 2026. No macro, syntax, notation, axiom, sorry.
-/
import Derived.Test.YtaonejnicgbifaaGreatDoorRows
import GoSem.ClaimSeven
namespace Go.Proofs.YtaonejnicgbifaaGreatDoor
namespace Rows

/-- THE TIED CARD OF 'inequalitylaw09.LibraryCovers'. -/
def libraryCoversCard : Claim7 := { stood := { row := libraryCoversRow, standIns := [], harness := (true, "084f8cf9313c8ab824eee4588c3e006f36495a76a3df82115150615801bb7428"), looks := true }, kinds := [], alts := [], laidByText := true, laidKinds := [.data, .data, .data], laidTests := true, laidLooks := .later }
def LibraryCoversCardSaid : Prop := Claim7.holds Tryz.pinned (.plain (OpenSpec.ofChange libraryCoversSpec)) libraryCoversCard

/-- THE TIED CARD OF 'inequalitylaw09.LibraryReflexive'. -/
def libraryReflexiveCard : Claim7 := { stood := { row := libraryReflexiveRow, standIns := [], harness := (true, "084f8cf9313c8ab824eee4588c3e006f36495a76a3df82115150615801bb7428"), looks := true }, kinds := [], alts := [], laidByText := true, laidKinds := [.data, .data, .data], laidTests := true, laidLooks := .later }
def LibraryReflexiveCardSaid : Prop := Claim7.holds Tryz.pinned (.plain (OpenSpec.ofChange libraryReflexiveSpec)) libraryReflexiveCard

/-- THE SECOND FORM's CARD OF 'inequalitylaw09.LibraryCovers'. -/
def libraryCoversUptoCard : Claim7 := { stood := { row := libraryCoversUptoRow, standIns := [], harness := (true, "084f8cf9313c8ab824eee4588c3e006f36495a76a3df82115150615801bb7428"), looks := true }, kinds := [], alts := [], laidByText := true, laidKinds := [.data, .data, .data], laidTests := true, laidLooks := .later }
def LibraryCoversUptoCardSaid : Prop := Claim7.holds Tryz.pinned (.plain (OpenSpec.upto libraryCoversSpec)) libraryCoversUptoCard

/-- THE SECOND FORM's CARD OF 'inequalitylaw09.LibraryReflexive'. -/
def libraryReflexiveUptoCard : Claim7 := { stood := { row := libraryReflexiveUptoRow, standIns := [], harness := (true, "084f8cf9313c8ab824eee4588c3e006f36495a76a3df82115150615801bb7428"), looks := true }, kinds := [], alts := [], laidByText := true, laidKinds := [.data, .data, .data], laidTests := true, laidLooks := .later }
def LibraryReflexiveUptoCardSaid : Prop := Claim7.holds Tryz.pinned (.plain (OpenSpec.upto libraryReflexiveSpec)) libraryReflexiveUptoCard
end Rows
end Go.Proofs.YtaonejnicgbifaaGreatDoor
