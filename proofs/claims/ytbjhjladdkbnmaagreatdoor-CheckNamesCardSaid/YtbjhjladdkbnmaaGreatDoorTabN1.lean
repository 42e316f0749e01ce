/-
  A part of the proof.
-/
import Derived.Test.YtbjhjladdkbnmaaGreatDoorTabN
namespace Go.Proofs.YtbjhjladdkbnmaaGreatDoor
open Go Go.Proofs.YtbjhjladdkbnmaaGreatDoor.Gx
theorem chk1 : chkT P0 G0 pol0 fuel0 t0 c1 = true := by decide +kernel
theorem chk5 : chkT P0 G0 pol0 fuel0 t4 c5 = true := by decide +kernel
theorem chk9 : chkT P0 G0 pol0 fuel0 t8 c9 = true := by decide +kernel
theorem chk13 : chkT P0 G0 pol0 fuel0 t12 c13 = true := by decide +kernel
theorem chk17 : chkT P0 G0 pol0 fuel0 t16 c17 = true := by decide +kernel
end Go.Proofs.YtbjhjladdkbnmaaGreatDoor
