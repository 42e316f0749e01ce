/-
  A part of the proof.
-/
import Derived.Test.YtbjhjladdkbnmaaGreatDoorTabN5
namespace Go.Proofs.YtbjhjladdkbnmaaGreatDoor
open Go Go.Proofs.YtbjhjladdkbnmaaGreatDoor.Gx
theorem names_r9 : okAt (.int .i64 9) = true := by decide +kernel
theorem names_r10 : okAt (.int .i64 10) = true := by decide +kernel
theorem names_r11 : okAt (.int .i64 11) = true := by decide +kernel
theorem names_r12 : okAt (.int .i64 12) = true := by decide +kernel
theorem names_r13 : okAt (.int .i64 13) = true := by decide +kernel
theorem names_r14 : okAt (.int .i64 14) = true := by decide +kernel
theorem names_r15 : okAt (.int .i64 15) = true := by decide +kernel
theorem names_r16 : okAt (.int .i64 16) = true := by decide +kernel
end Go.Proofs.YtbjhjladdkbnmaaGreatDoor
