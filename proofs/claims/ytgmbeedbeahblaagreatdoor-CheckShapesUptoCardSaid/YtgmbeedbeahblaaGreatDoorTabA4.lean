/-
  A part of the proof.
-/
import Derived.Test.YtgmbeedbeahblaaGreatDoorTabA
namespace Go.Proofs.YtgmbeedbeahblaaGreatDoor
open Go Go.Proofs.YtgmbeedbeahblaaGreatDoor.Gx
theorem chk4 : chkT P0 G0 X0 pol0 fuel0 tw3 d4 = true := by decide +kernel
theorem chk8 : chkT P0 G0 X0 pol0 fuel0 tw7 d8 = true := by decide +kernel
theorem chk12 : chkT P0 G0 X0 pol0 fuel0 tw11 d12 = true := by decide +kernel
end Go.Proofs.YtgmbeedbeahblaaGreatDoor
