/-
  A part of the proof.
-/
import Derived.Test.YtbjhjladdkbnmaaGreatDoorTabN6
namespace Go.Proofs.YtbjhjladdkbnmaaGreatDoor
open Go Go.Proofs.YtbjhjladdkbnmaaGreatDoor.Gx
theorem names_r17 : okAt (.int .i64 17) = true := by decide +kernel
theorem names_r18 : okAt (.int .i64 18) = true := by decide +kernel
theorem names_r19 : okAt (.int .i64 19) = true := by decide +kernel
theorem names_r20 : okAt (.int .i64 20) = true := by decide +kernel
theorem names_r21 : okAt (.int .i64 21) = true := by decide +kernel
theorem names_r22 : okAt (.oint .i64 (-9223372036854775808) 0) = true := by decide +kernel
theorem names_r23 : okAt (.oint .i64 22 9223372036854775807) = true := by decide +kernel
theorem names_all : ∀ x ∈ rules, okAt x = true := by
  intro x hx
  simp only [rules, List.mem_cons, List.not_mem_nil, or_false] at hx
  rcases hx with rfl | rfl | rfl | rfl | rfl | rfl | rfl | rfl | rfl | rfl | rfl | rfl | rfl | rfl | rfl | rfl | rfl | rfl | rfl | rfl | rfl | rfl | rfl
  · exact names_r1
  · exact names_r2
  · exact names_r3
  · exact names_r4
  · exact names_r5
  · exact names_r6
  · exact names_r7
  · exact names_r8
  · exact names_r9
  · exact names_r10
  · exact names_r11
  · exact names_r12
  · exact names_r13
  · exact names_r14
  · exact names_r15
  · exact names_r16
  · exact names_r17
  · exact names_r18
  · exact names_r19
  · exact names_r20
  · exact names_r21
  · exact names_r22
  · exact names_r23
end Go.Proofs.YtbjhjladdkbnmaaGreatDoor
