/-
  A part of the proof.
-/
import Derived.Test.YtbjhjladdkbnmaaGreatDoorTabN
namespace Go.Proofs.YtbjhjladdkbnmaaGreatDoor
open Go Go.Proofs.YtbjhjladdkbnmaaGreatDoor.Gx
theorem chk3 : chkT P0 G0 pol0 fuel0 t2 c3 = true := by decide +kernel
theorem chk7 : chkT P0 G0 pol0 fuel0 t6 c7 = true := by decide +kernel
theorem chk11 : chkT P0 G0 pol0 fuel0 t10 c11 = true := by decide +kernel
theorem chk15 : chkT P0 G0 pol0 fuel0 t14 c15 = true := by decide +kernel
theorem chk19 : chkT P0 G0 pol0 fuel0 t18 c19 = true := by decide +kernel
end Go.Proofs.YtbjhjladdkbnmaaGreatDoor
