/-
  A part of the proof.
-/
import Derived.Test.YtbjhjladdkbnmaaGreatDoorTabN
namespace Go.Proofs.YtbjhjladdkbnmaaGreatDoor
open Go Go.Proofs.YtbjhjladdkbnmaaGreatDoor.Gx
theorem chk4 : chkT P0 G0 pol0 fuel0 t3 c4 = true := by decide +kernel
theorem chk8 : chkT P0 G0 pol0 fuel0 t7 c8 = true := by decide +kernel
theorem chk12 : chkT P0 G0 pol0 fuel0 t11 c12 = true := by decide +kernel
theorem chk16 : chkT P0 G0 pol0 fuel0 t15 c16 = true := by decide +kernel
end Go.Proofs.YtbjhjladdkbnmaaGreatDoor
