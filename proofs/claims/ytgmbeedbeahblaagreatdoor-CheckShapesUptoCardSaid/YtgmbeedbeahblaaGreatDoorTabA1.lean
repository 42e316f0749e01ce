/-
  A part of the proof.
-/
import Derived.Test.YtgmbeedbeahblaaGreatDoorTabA
namespace Go.Proofs.YtgmbeedbeahblaaGreatDoor
open Go Go.Proofs.YtgmbeedbeahblaaGreatDoor.Gx
theorem chk1 : chkT P0 G0 X0 pol0 fuel0 tw0 d1 = true := by decide +kernel
theorem chk5 : chkT P0 G0 X0 pol0 fuel0 tw4 d5 = true := by decide +kernel
theorem chk9 : chkT P0 G0 X0 pol0 fuel0 tw8 d9 = true := by decide +kernel
theorem chk13 : chkT P0 G0 X0 pol0 fuel0 tw12 d13 = true := by decide +kernel
end Go.Proofs.YtgmbeedbeahblaaGreatDoor
