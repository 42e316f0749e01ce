/-
  DERIVED. GIVEN WITH THE SEED: THE CARDS: each row of YtlmifjdbjhcceaaGreatDoorRows.lean that lists a variable, with what it lists TIED to the program's text (the seventh form; the later family's looks); each row that meets fmt, with fmt's text TOLD by the authors' own Lean function (tested against real Go, not proved from fmt's source: count such statements apart). THE CARD IS WHAT COUNTS. Prove the row's statement (the work); the ties are given (YtlmifjdbjhcceaaGreatDoorTie.lean); close each card by the builder's one call (the guide's Derived/Test/ToyasCard.lean, 'card_holds'). Laid BY PROGRAM, IN A SANDBOX (cutbox-door.mjs). By AI agents, Wed Nov 11 2026. No macro, syntax, notation, axiom, sorry.
-/
import Derived.Test.YtlmifjdbjhcceaaGreatDoorRows
import GoSem.ClaimSeven
namespace Go.Proofs.YtlmifjdbjhcceaaGreatDoor
namespace Rows

/-- THE TIED CARD OF 'inequalitylaw07.CheckUses'. -/
def checkUsesCard : Claim7 := { stood := { row := checkUsesRow, standIns := [], harness := (true, "88c45fa4585b11c45fdae2c48d27ccc1c1ae2529512d396720a27d983e9d3344"), looks := true }, kinds := [], alts := [], laidByText := true, laidKinds := [.data, .data, .data], laidTests := true, laidLooks := .later }
def CheckUsesCardSaid : Prop := Claim7.holds Tryz.pinned (.plain (OpenSpec.ofChange checkUsesSpec)) checkUsesCard

/-- THE TIED CARD OF 'inequalitylaw07.CheckEquals'. -/
def checkEqualsCard : Claim7 := { stood := { row := checkEqualsRow, standIns := [], harness := (true, "88c45fa4585b11c45fdae2c48d27ccc1c1ae2529512d396720a27d983e9d3344"), looks := true }, kinds := [], alts := [], laidByText := true, laidKinds := [.data, .data, .data], laidTests := true, laidLooks := .later }
def CheckEqualsCardSaid : Prop := Claim7.holds Tryz.pinned (.plain (OpenSpec.ofChange checkEqualsSpec)) checkEqualsCard

/-- THE TIED CARD OF 'inequalitylaw07.CheckPicks'. -/
def checkPicksCard : Claim7 := { stood := { row := checkPicksRow, standIns := [], harness := (true, "88c45fa4585b11c45fdae2c48d27ccc1c1ae2529512d396720a27d983e9d3344"), looks := true }, kinds := [], alts := [], laidByText := true, laidKinds := [.data, .data, .data], laidTests := true, laidLooks := .later }
def CheckPicksCardSaid : Prop := Claim7.holds Tryz.pinned (.plain (OpenSpec.ofChange checkPicksSpec)) checkPicksCard

/-- THE TIED CARD OF 'inequalitylaw07.CheckGrafts'. -/
def checkGraftsCard : Claim7 := { stood := { row := checkGraftsRow, standIns := [], harness := (true, "88c45fa4585b11c45fdae2c48d27ccc1c1ae2529512d396720a27d983e9d3344"), looks := true }, kinds := [], alts := [], laidByText := true, laidKinds := [.data, .data, .data], laidTests := true, laidLooks := .later }
def CheckGraftsCardSaid : Prop := Claim7.holds Tryz.pinned (.plain (OpenSpec.ofChange checkGraftsSpec)) checkGraftsCard

/-- THE SECOND FORM's CARD OF 'inequalitylaw07.CheckUses'. -/
def checkUsesUptoCard : Claim7 := { stood := { row := checkUsesUptoRow, standIns := [], harness := (true, "88c45fa4585b11c45fdae2c48d27ccc1c1ae2529512d396720a27d983e9d3344"), looks := true }, kinds := [], alts := [], laidByText := true, laidKinds := [.data, .data, .data], laidTests := true, laidLooks := .later }
def CheckUsesUptoCardSaid : Prop := Claim7.holds Tryz.pinned (.plain (OpenSpec.upto checkUsesSpec)) checkUsesUptoCard

/-- THE SECOND FORM's CARD OF 'inequalitylaw07.CheckEquals'. -/
def checkEqualsUptoCard : Claim7 := { stood := { row := checkEqualsUptoRow, standIns := [], harness := (true, "88c45fa4585b11c45fdae2c48d27ccc1c1ae2529512d396720a27d983e9d3344"), looks := true }, kinds := [], alts := [], laidByText := true, laidKinds := [.data, .data, .data], laidTests := true, laidLooks := .later }
def CheckEqualsUptoCardSaid : Prop := Claim7.holds Tryz.pinned (.plain (OpenSpec.upto checkEqualsSpec)) checkEqualsUptoCard

/-- THE SECOND FORM's CARD OF 'inequalitylaw07.CheckPicks'. -/
def checkPicksUptoCard : Claim7 := { stood := { row := checkPicksUptoRow, standIns := [], harness := (true, "88c45fa4585b11c45fdae2c48d27ccc1c1ae2529512d396720a27d983e9d3344"), looks := true }, kinds := [], alts := [], laidByText := true, laidKinds := [.data, .data, .data], laidTests := true, laidLooks := .later }
def CheckPicksUptoCardSaid : Prop := Claim7.holds Tryz.pinned (.plain (OpenSpec.upto checkPicksSpec)) checkPicksUptoCard

/-- THE SECOND FORM's CARD OF 'inequalitylaw07.CheckGrafts'. -/
def checkGraftsUptoCard : Claim7 := { stood := { row := checkGraftsUptoRow, standIns := [], harness := (true, "88c45fa4585b11c45fdae2c48d27ccc1c1ae2529512d396720a27d983e9d3344"), looks := true }, kinds := [], alts := [], laidByText := true, laidKinds := [.data, .data, .data], laidTests := true, laidLooks := .later }
def CheckGraftsUptoCardSaid : Prop := Claim7.holds Tryz.pinned (.plain (OpenSpec.upto checkGraftsSpec)) checkGraftsUptoCard
end Rows
end Go.Proofs.YtlmifjdbjhcceaaGreatDoor
