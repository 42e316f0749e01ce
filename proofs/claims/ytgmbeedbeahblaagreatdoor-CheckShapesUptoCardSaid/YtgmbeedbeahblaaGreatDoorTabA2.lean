/-
  A part of the proof.
-/
import Derived.Test.YtgmbeedbeahblaaGreatDoorTabA
namespace Go.Proofs.YtgmbeedbeahblaaGreatDoor
open Go Go.Proofs.YtgmbeedbeahblaaGreatDoor.Gx
theorem chk2 : chkT P0 G0 X0 pol0 fuel0 tw1 d2 = true := by decide +kernel
theorem chk6 : chkT P0 G0 X0 pol0 fuel0 tw5 d6 = true := by decide +kernel
theorem chk10 : chkT P0 G0 X0 pol0 fuel0 tw9 d10 = true := by decide +kernel
theorem chk14 : chkT P0 G0 X0 pol0 fuel0 tw13 d14 = true := by decide +kernel
end Go.Proofs.YtgmbeedbeahblaaGreatDoor
