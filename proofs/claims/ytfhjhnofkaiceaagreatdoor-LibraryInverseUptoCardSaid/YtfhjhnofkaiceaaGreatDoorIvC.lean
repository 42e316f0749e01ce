/-
  LibraryInverse returns true for every library whose data are of bulk at most 1048576, and every two bytes, whatever the tape; its input reads behind the call as it read before. The package tables that it comes to hold what the program's text lays.
-/
import Derived.Test.YtfhjhnofkaiceaaGreatDoorIvP
import Derived.Test.YtfhjhnofkaiceaaGreatDoorFiT
namespace Go.Proofs.YtfhjhnofkaiceaaGreatDoor
open Go Go.Proofs.YtfhjhnofkaiceaaGreatDoor.Gx
theorem rowTie5 : Rows.libraryInverseUptoRow.laidByTextAt .later Tryz.pinned [.data, .data, .data] true :=
  OpenClaim.laidByTextAt_later rfl rfl tieAll noUnsafe
theorem name5 : Tryz.prog.funcNamed "inequality/inequalitylaw09.LibraryInverse" = some 5 := by kernel_rfl
theorem look5 : Tryz.prog.looks [] = true := by kernel_rfl
theorem alone5_22 : Tryz.prog.wantsStandIn 22 = false := by kernel_rfl
theorem alone5_5 : Tryz.prog.wantsStandIn 5 = false := by kernel_rfl
theorem goes5 : Rows.libraryInverseUptoRow.goesBy Tryz.prog = false := by
  show (Program.goesFrom Tryz.prog "inequality/inequalitylaw09.LibraryInverse" || false) = false
  rw [Bool.or_false, Program.goesFrom, name5, Option.any_some]
  exact goes_none noGo _

set_option maxRecDepth 100000 in
theorem plain5 (f : FuncId) (fn : Func) (hf : Tryz.pinned.checked.prog.funcNamed Rows.libraryInverseUptoRow.func = some f) (hfn : Tryz.pinned.checked.prog.funcs[f]? = some fn) :
    true = Tryz.pinned.checked.prog.looks [] ∧ ∀ (j : Nat) t, fn.params[j]? = some t → Tryz.pinned.checked.prog.wantsStandIn t = false := by
  obtain rfl : f = 5 := Option.some.inj (name5.symm.trans hf) |>.symm
  obtain rfl : fn = Tryz.f5 := (Option.some.inj (fn5.symm.trans hfn)).symm
  refine ⟨look5.symm, fun j t ht => ?_⟩
  rw [ps5] at ht
  have hm : t ∈ #[22, 5, 5] := Array.mem_of_getElem? ht
  have : t = 22 ∨ t = 5 := by simpa using hm
  rcases this with rfl | rfl
  · exact alone5_22
  · exact alone5_5

theorem main5 : Tryz.prog.mainIs = some (true, Rows.libraryInverseUptoCard.stood.harness.2.toList) := by kernel_rfl
theorem wf5 : Rows.libraryInverseUptoRow.wfByText (Rows.OpenSpec.upto Rows.libraryInverseSpec) = true := by kernel_rfl

set_option maxRecDepth 100000 in
/-- LibraryInverse returns true for every library whose data are of bulk at most 1048576, and every two bytes. The package tables are laid as the program's text lays them. -/
theorem inverseCard : Rows.LibraryInverseUptoCardSaid :=
  Claim7.holds_tied_plain_at .later [] _ _ _ _ said5 (fun _ h => by cases h) wf5 (fun _ h => by cases h) rowTie5 rfl ⟨rfl, rfl⟩ main5 rfl plain5 goes5.symm
end Go.Proofs.YtfhjhnofkaiceaaGreatDoor
