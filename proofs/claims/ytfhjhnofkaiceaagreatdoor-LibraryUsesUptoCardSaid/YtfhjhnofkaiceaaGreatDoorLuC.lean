/-
  LibraryUses returns true for every library and key whose data are of bulk at most 1048576, whatever the tape; its input reads behind the call as it read before. The package tables that it comes to hold what the program's text lays.
-/
import Derived.Test.YtfhjhnofkaiceaaGreatDoorLuP
import Derived.Test.YtfhjhnofkaiceaaGreatDoorFiT
namespace Go.Proofs.YtfhjhnofkaiceaaGreatDoor
open Go Go.Proofs.YtfhjhnofkaiceaaGreatDoor.Gx
theorem rowTie6 : Rows.libraryUsesUptoRow.laidByTextAt .later Tryz.pinned [.data, .data, .data] true :=
  OpenClaim.laidByTextAt_later rfl rfl tieAll noUnsafe
theorem name6 : Tryz.prog.funcNamed "inequality/inequalitylaw09.LibraryUses" = some 6 := by kernel_rfl
theorem look6 : Tryz.prog.looks [] = true := by kernel_rfl
theorem alone6_22 : Tryz.prog.wantsStandIn 22 = false := by kernel_rfl
theorem alone6_24 : Tryz.prog.wantsStandIn 24 = false := by kernel_rfl
theorem goes6 : Rows.libraryUsesUptoRow.goesBy Tryz.prog = false := by
  show (Program.goesFrom Tryz.prog "inequality/inequalitylaw09.LibraryUses" || false) = false
  rw [Bool.or_false, Program.goesFrom, name6, Option.any_some]
  exact goes_none noGo _

set_option maxRecDepth 100000 in
theorem plain6 (f : FuncId) (fn : Func) (hf : Tryz.pinned.checked.prog.funcNamed Rows.libraryUsesUptoRow.func = some f) (hfn : Tryz.pinned.checked.prog.funcs[f]? = some fn) :
    true = Tryz.pinned.checked.prog.looks [] ∧ ∀ (j : Nat) t, fn.params[j]? = some t → Tryz.pinned.checked.prog.wantsStandIn t = false := by
  obtain rfl : f = 6 := Option.some.inj (name6.symm.trans hf) |>.symm
  obtain rfl : fn = Tryz.f6 := (Option.some.inj (fn6.symm.trans hfn)).symm
  refine ⟨look6.symm, fun j t ht => ?_⟩
  rw [ps6] at ht
  have hm : t ∈ #[22, 24] := Array.mem_of_getElem? ht
  have : t = 22 ∨ t = 24 := by simpa using hm
  rcases this with rfl | rfl
  · exact alone6_22
  · exact alone6_24

theorem main6 : Tryz.prog.mainIs = some (true, Rows.libraryUsesUptoCard.stood.harness.2.toList) := by kernel_rfl
theorem wf6 : Rows.libraryUsesUptoRow.wfByText (Rows.OpenSpec.upto Rows.libraryUsesSpec) = true := by kernel_rfl

set_option maxRecDepth 100000 in
/-- LibraryUses returns true for every library and key whose data are of bulk at most 1048576. The package tables are laid as the program's text lays them. -/
theorem usesLibCard : Rows.LibraryUsesUptoCardSaid :=
  Claim7.holds_tied_plain_at .later [] _ _ _ _ said6 (fun _ h => by cases h) wf6 (fun _ h => by cases h) rowTie6 rfl ⟨rfl, rfl⟩ main6 rfl plain6 goes6.symm
end Go.Proofs.YtfhjhnofkaiceaaGreatDoor
