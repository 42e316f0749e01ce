/-
  CheckShapes returns true for every proof whose data are of bulk at most 1048576, whatever the tape; its input reads behind the call as it read before. The package tables that it comes to hold what the program's text lays.
-/
import Derived.Test.YtgmbeedbeahblaaGreatDoorShJn
import Derived.Test.YtgmbeedbeahblaaGreatDoorTie
namespace Go.Proofs.YtgmbeedbeahblaaGreatDoor
open Go Go.Proofs.YtgmbeedbeahblaaGreatDoor.Gx
theorem uTie : Rows.checkShapesUptoRow.laidByTextAt .later Tryz.pinned [.data, .data, .data] true :=
  OpenClaim.laidByTextAt_later rfl rfl tie noOwnUnsafe
theorem uName : Tryz.prog.funcNamed "inequality/inequalitylaw07.CheckShapes" = some 3 := by kernel_rfl
theorem uLook : Tryz.prog.looks [] = true := by kernel_rfl
theorem uAlone32 : Tryz.prog.wantsStandIn 32 = false := by kernel_rfl
theorem uGoes : Rows.checkShapesUptoRow.goesBy Tryz.prog = false := by
  show (Program.goesFrom Tryz.prog "inequality/inequalitylaw07.CheckShapes" || false) = false
  rw [Bool.or_false, Program.goesFrom, uName, Option.any_some]
  exact goes_none noGo _

set_option maxRecDepth 100000 in
theorem uPlain (f : FuncId) (fn : Func) (hf : Tryz.pinned.checked.prog.funcNamed Rows.checkShapesUptoRow.func = some f) (hfn : Tryz.pinned.checked.prog.funcs[f]? = some fn) :
    true = Tryz.pinned.checked.prog.looks [] ∧ ∀ (j : Nat) t, fn.params[j]? = some t → Tryz.pinned.checked.prog.wantsStandIn t = false := by
  obtain rfl : f = 3 := Option.some.inj (uName.symm.trans hf) |>.symm
  obtain rfl : fn = Tryz.f3 := (Option.some.inj (fn3.symm.trans hfn)).symm
  refine ⟨uLook.symm, fun j t ht => ?_⟩
  rw [ps3] at ht
  have hm : t ∈ #[32] := Array.mem_of_getElem? ht
  obtain rfl : t = 32 := by simpa using hm
  exact uAlone32

theorem uMainIs : Tryz.prog.mainIs = some (true, Rows.checkShapesUptoCard.stood.harness.2.toList) := by kernel_rfl
theorem uWfText : Rows.checkShapesUptoRow.wfByText (Rows.OpenSpec.upto Rows.checkShapesSpec) = true := by kernel_rfl

set_option maxRecDepth 100000 in
/-- CheckShapes returns true for every proof of bounded bulk; the package tables are laid as the program's text lays them. -/
theorem shapesCard : Rows.CheckShapesUptoCardSaid :=
  Claim7.holds_tied_plain_at .later [] _ _ _ _ uSaid (fun _ h => by cases h) uWfText (fun _ h => by cases h) uTie rfl ⟨rfl, rfl⟩ uMainIs rfl uPlain uGoes.symm
end Go.Proofs.YtgmbeedbeahblaaGreatDoor
