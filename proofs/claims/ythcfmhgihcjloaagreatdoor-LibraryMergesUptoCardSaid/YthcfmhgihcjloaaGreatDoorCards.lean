/-
  DERIVED. GIVEN WITH THE SEED: THE CARDS: each row of YthcfmhgihcjloaaGreatDoorRows.lean that lists a variable, with what it lists TIED to the program's text (the seventh form; the later family's looks); each row that meets fmt, with fmt's text TOLD by the authors' own Lean function (tested against real Go, not proved from fmt's source: count such statements apart). THE CARD IS WHAT COUNTS. Prove the row's statement (the work); the ties are given (YthcfmhgihcjloaaGreatDoorTie.lean); close each card by the builder's one call (the guide's Derived/Test/ToyasCard.lean, 'card_holds'). Laid BY PROGRAM, IN A SANDBOX (cutbox-door.mjs). By AI agents, Wed Nov 11 2026. No macro, syntax, notation, axiom, sorry.
-/
import Derived.Test.YthcfmhgihcjloaaGreatDoorRows
import GoSem.ClaimSeven
namespace Go.Proofs.YthcfmhgihcjloaaGreatDoor
namespace Rows

/-- THE TIED CARD OF 'inequalitylaw09.LibraryMerges'. -/
def libraryMergesCard : Claim7 := { stood := { row := libraryMergesRow, standIns := [], harness := (true, "c83eb78fc3a3bd45fea1cdf3a90a2514bff26fec759f1dd489be556cdce924cf"), looks := true }, kinds := [], alts := [], laidByText := true, laidKinds := [.data, .data, .data], laidTests := true, laidLooks := .later }
def LibraryMergesCardSaid : Prop := Claim7.holds Tryz.pinned (.plain (OpenSpec.ofChange libraryMergesSpec)) libraryMergesCard

/-- THE SECOND FORM's CARD OF 'inequalitylaw09.LibraryMerges'. -/
def libraryMergesUptoCard : Claim7 := { stood := { row := libraryMergesUptoRow, standIns := [], harness := (true, "c83eb78fc3a3bd45fea1cdf3a90a2514bff26fec759f1dd489be556cdce924cf"), looks := true }, kinds := [], alts := [], laidByText := true, laidKinds := [.data, .data, .data], laidTests := true, laidLooks := .later }
def LibraryMergesUptoCardSaid : Prop := Claim7.holds Tryz.pinned (.plain (OpenSpec.upto libraryMergesSpec)) libraryMergesUptoCard
end Rows
end Go.Proofs.YthcfmhgihcjloaaGreatDoor
