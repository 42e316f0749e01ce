/-
  A part of the proof.
-/
import Derived.Test.YtbjhjladdkbnmaaGreatDoorTabN
namespace Go.Proofs.YtbjhjladdkbnmaaGreatDoor
open Go Go.Proofs.YtbjhjladdkbnmaaGreatDoor.Gx
theorem chk2 : chkT P0 G0 pol0 fuel0 t1 c2 = true := by decide +kernel
theorem chk6 : chkT P0 G0 pol0 fuel0 t5 c6 = true := by decide +kernel
theorem chk10 : chkT P0 G0 pol0 fuel0 t9 c10 = true := by decide +kernel
theorem chk14 : chkT P0 G0 pol0 fuel0 t13 c14 = true := by decide +kernel
theorem chk18 : chkT P0 G0 pol0 fuel0 t17 c18 = true := by decide +kernel
end Go.Proofs.YtbjhjladdkbnmaaGreatDoor
