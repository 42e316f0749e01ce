/-
  DERIVED. GIVEN WITH THE SEED: THE CARDS: each row of YtfhjhnofkaiceaaGreatDoorRows.lean that lists a variable, with what it lists TIED to the program's text (the seventh form; the later family's looks); each row that meets fmt, with fmt's text TOLD by the authors' own Lean function (tested against real Go, not proved from fmt's source: count such statements apart). THE CARD IS WHAT COUNTS. Prove the row's statement (the work); the ties are given (YtfhjhnofkaiceaaGreatDoorTie.lean); close each card by the builder's one call (the guide's Derived/Test/ToyasCard.lean, 'card_holds'). Laid BY PROGRAM, IN A SANDBOX (cutbox-door.mjs). By AI agents, Wed Nov 11 2026. No macro, syntax, notation, axiom, sorry.
-/
import Derived.Test.YtfhjhnofkaiceaaGreatDoorRows
import GoSem.ClaimSeven
namespace Go.Proofs.YtfhjhnofkaiceaaGreatDoor
namespace Rows

/-- THE TIED CARD OF 'inequalitylaw09.LibraryFinds'. -/
def libraryFindsCard : Claim7 := { stood := { row := libraryFindsRow, standIns := [], harness := (true, "410ae262b8f2e4a8f54c34644c50fa7ead35ced0e21298ee458244ffabee3422"), looks := true }, kinds := [], alts := [], laidByText := true, laidKinds := [.data, .data, .data], laidTests := true, laidLooks := .later }
def LibraryFindsCardSaid : Prop := Claim7.holds Tryz.pinned (.plain (OpenSpec.ofChange libraryFindsSpec)) libraryFindsCard

/-- THE TIED CARD OF 'inequalitylaw09.LibraryDrops'. -/
def libraryDropsCard : Claim7 := { stood := { row := libraryDropsRow, standIns := [], harness := (true, "410ae262b8f2e4a8f54c34644c50fa7ead35ced0e21298ee458244ffabee3422"), looks := true }, kinds := [], alts := [], laidByText := true, laidKinds := [.data, .data, .data], laidTests := true, laidLooks := .later }
def LibraryDropsCardSaid : Prop := Claim7.holds Tryz.pinned (.plain (OpenSpec.ofChange libraryDropsSpec)) libraryDropsCard

/-- THE TIED CARD OF 'inequalitylaw09.LibraryInverse'. -/
def libraryInverseCard : Claim7 := { stood := { row := libraryInverseRow, standIns := [], harness := (true, "410ae262b8f2e4a8f54c34644c50fa7ead35ced0e21298ee458244ffabee3422"), looks := true }, kinds := [], alts := [], laidByText := true, laidKinds := [.data, .data, .data], laidTests := true, laidLooks := .later }
def LibraryInverseCardSaid : Prop := Claim7.holds Tryz.pinned (.plain (OpenSpec.ofChange libraryInverseSpec)) libraryInverseCard

/-- THE TIED CARD OF 'inequalitylaw09.LibraryUses'. -/
def libraryUsesCard : Claim7 := { stood := { row := libraryUsesRow, standIns := [], harness := (true, "410ae262b8f2e4a8f54c34644c50fa7ead35ced0e21298ee458244ffabee3422"), looks := true }, kinds := [], alts := [], laidByText := true, laidKinds := [.data, .data, .data], laidTests := true, laidLooks := .later }
def LibraryUsesCardSaid : Prop := Claim7.holds Tryz.pinned (.plain (OpenSpec.ofChange libraryUsesSpec)) libraryUsesCard

/-- THE SECOND FORM's CARD OF 'inequalitylaw09.LibraryFinds'. -/
def libraryFindsUptoCard : Claim7 := { stood := { row := libraryFindsUptoRow, standIns := [], harness := (true, "410ae262b8f2e4a8f54c34644c50fa7ead35ced0e21298ee458244ffabee3422"), looks := true }, kinds := [], alts := [], laidByText := true, laidKinds := [.data, .data, .data], laidTests := true, laidLooks := .later }
def LibraryFindsUptoCardSaid : Prop := Claim7.holds Tryz.pinned (.plain (OpenSpec.upto libraryFindsSpec)) libraryFindsUptoCard

/-- THE SECOND FORM's CARD OF 'inequalitylaw09.LibraryDrops'. -/
def libraryDropsUptoCard : Claim7 := { stood := { row := libraryDropsUptoRow, standIns := [], harness := (true, "410ae262b8f2e4a8f54c34644c50fa7ead35ced0e21298ee458244ffabee3422"), looks := true }, kinds := [], alts := [], laidByText := true, laidKinds := [.data, .data, .data], laidTests := true, laidLooks := .later }
def LibraryDropsUptoCardSaid : Prop := Claim7.holds Tryz.pinned (.plain (OpenSpec.upto libraryDropsSpec)) libraryDropsUptoCard

/-- THE SECOND FORM's CARD OF 'inequalitylaw09.LibraryInverse'. -/
def libraryInverseUptoCard : Claim7 := { stood := { row := libraryInverseUptoRow, standIns := [], harness := (true, "410ae262b8f2e4a8f54c34644c50fa7ead35ced0e21298ee458244ffabee3422"), looks := true }, kinds := [], alts := [], laidByText := true, laidKinds := [.data, .data, .data], laidTests := true, laidLooks := .later }
def LibraryInverseUptoCardSaid : Prop := Claim7.holds Tryz.pinned (.plain (OpenSpec.upto libraryInverseSpec)) libraryInverseUptoCard

/-- THE SECOND FORM's CARD OF 'inequalitylaw09.LibraryUses'. -/
def libraryUsesUptoCard : Claim7 := { stood := { row := libraryUsesUptoRow, standIns := [], harness := (true, "410ae262b8f2e4a8f54c34644c50fa7ead35ced0e21298ee458244ffabee3422"), looks := true }, kinds := [], alts := [], laidByText := true, laidKinds := [.data, .data, .data], laidTests := true, laidLooks := .later }
def LibraryUsesUptoCardSaid : Prop := Claim7.holds Tryz.pinned (.plain (OpenSpec.upto libraryUsesSpec)) libraryUsesUptoCard
end Rows
end Go.Proofs.YtfhjhnofkaiceaaGreatDoor
