/-
  A part of the proof.
-/
import Derived.Test.YtgmbeedbeahblaaGreatDoorTabA
namespace Go.Proofs.YtgmbeedbeahblaaGreatDoor
open Go Go.Proofs.YtgmbeedbeahblaaGreatDoor.Gx
theorem chk3 : chkT P0 G0 X0 pol0 fuel0 tw2 d3 = true := by decide +kernel
theorem chk7 : chkT P0 G0 X0 pol0 fuel0 tw6 d7 = true := by decide +kernel
theorem chk11 : chkT P0 G0 X0 pol0 fuel0 tw10 d11 = true := by decide +kernel
theorem chk15 : chkT P0 G0 X0 pol0 fuel0 tw14 d15 = true := by decide +kernel
end Go.Proofs.YtgmbeedbeahblaaGreatDoor
