/-
  CheckNames returns true for every rule and every text, whatever the tape; its input reads behind the call as it read before. The package tables that it comes to hold what the program's text lays.
-/
import Derived.Test.YtbjhjladdkbnmaaGreatDoorNamesP
namespace Go.Proofs.YtbjhjladdkbnmaaGreatDoor
open Go Go.Proofs.YtbjhjladdkbnmaaGreatDoor.Gx
theorem fname : Tryz.prog.funcNamed "inequality/inequalitylaw07.CheckNames" = some 3 := by kernel_rfl
theorem look : Tryz.prog.looks [] = true := by kernel_rfl
theorem alone3 : Tryz.prog.wantsStandIn 3 = false := by kernel_rfl
theorem alone9 : Tryz.prog.wantsStandIn 9 = false := by kernel_rfl
theorem goes : Rows.checkNamesRow.goesBy Tryz.prog = false := by
  show (Program.goesFrom Tryz.prog "inequality/inequalitylaw07.CheckNames" || false) = false
  rw [Bool.or_false, Program.goesFrom, fname, Option.any_some]
  exact goes_none noGo _

set_option maxRecDepth 100000 in
theorem plain (f : FuncId) (fn : Func) (hf : Tryz.pinned.checked.prog.funcNamed Rows.checkNamesRow.func = some f) (hfn : Tryz.pinned.checked.prog.funcs[f]? = some fn) :
    true = Tryz.pinned.checked.prog.looks [] ∧ ∀ (j : Nat) t, fn.params[j]? = some t → Tryz.pinned.checked.prog.wantsStandIn t = false := by
  obtain rfl : f = 3 := Option.some.inj (fname.symm.trans hf) |>.symm
  obtain rfl : fn = Tryz.f3 := (Option.some.inj (fn3.symm.trans hfn)).symm
  refine ⟨look.symm, fun j t ht => ?_⟩
  rw [ps3] at ht
  have hm : t ∈ #[3, 9] := Array.mem_of_getElem? ht
  have hm' : t = 3 ∨ t = 9 := by simpa using hm
  rcases hm' with rfl | rfl
  · exact alone3
  · exact alone9

theorem mainIs : Tryz.prog.mainIs = some (true, Rows.checkNamesCard.stood.harness.2.toList) := by kernel_rfl
theorem wfText : Rows.checkNamesRow.wfByText (OpenSpec.ofChange Rows.checkNamesSpec) = true := by kernel_rfl

set_option maxRecDepth 100000 in
/-- CheckNames returns true for every rule and every text; the package tables are laid as the program's text lays them. -/
theorem card : Rows.CheckNamesCardSaid :=
  Claim7.holds_tied_plain_at .later [] _ _ _ _ said (fun _ h => by cases h) wfText (fun _ h => by cases h) checkNames_row_tie rfl ⟨rfl, rfl⟩ mainIs rfl plain goes.symm
end Go.Proofs.YtbjhjladdkbnmaaGreatDoor
