/-
  A part of the proof.
-/
import Derived.Test.YtbjhjladdkbnmaaGreatDoorTabN
namespace Go.Proofs.YtbjhjladdkbnmaaGreatDoor
open Go Go.Proofs.YtbjhjladdkbnmaaGreatDoor.Gx
noncomputable def okAt (x : AV) : Bool := texts.all fun y => agrees (callS (tenv P0 G0 pol0 tN) fuel0 3 [x, y]) (.bool true)
theorem names_r1 : okAt (.int .i64 1) = true := by decide +kernel
theorem names_r2 : okAt (.int .i64 2) = true := by decide +kernel
theorem names_r3 : okAt (.int .i64 3) = true := by decide +kernel
theorem names_r4 : okAt (.int .i64 4) = true := by decide +kernel
theorem names_r5 : okAt (.int .i64 5) = true := by decide +kernel
theorem names_r6 : okAt (.int .i64 6) = true := by decide +kernel
theorem names_r7 : okAt (.int .i64 7) = true := by decide +kernel
theorem names_r8 : okAt (.int .i64 8) = true := by decide +kernel
end Go.Proofs.YtbjhjladdkbnmaaGreatDoor
