/-
  CheckGrafts returns true for every two steps and every path whose data are together of bulk at most 1048576, whatever the tape; its input reads behind the call as it read before. The package tables that it comes to hold what the program's text lays.
-/
import Derived.Test.YtlmifjdbjhcceaaGreatDoorGrP
import Derived.Test.YtlmifjdbjhcceaaGreatDoorEqT
namespace Go.Proofs.YtlmifjdbjhcceaaGreatDoor
open Go Go.Proofs.YtlmifjdbjhcceaaGreatDoor.Gx
theorem gTie : Rows.checkGraftsUptoRow.laidByTextAt .later Tryz.pinned [.data, .data, .data] true :=
  OpenClaim.laidByTextAt_later rfl rfl tieAll noUnsafe
theorem gName : Tryz.prog.funcNamed "inequality/inequalitylaw07.CheckGrafts" = some 6 := by kernel_rfl
theorem gLook : Tryz.prog.looks [] = true := by kernel_rfl
theorem gAlone32 : Tryz.prog.wantsStandIn 32 = false := by kernel_rfl
theorem gAlone40 : Tryz.prog.wantsStandIn 40 = false := by kernel_rfl
theorem gGoes : Rows.checkGraftsUptoRow.goesBy Tryz.prog = false := by
  show (Program.goesFrom Tryz.prog "inequality/inequalitylaw07.CheckGrafts" || false) = false
  rw [Bool.or_false, Program.goesFrom, gName, Option.any_some]
  exact goes_none noGo _

set_option maxRecDepth 100000 in
theorem gPlain (f : FuncId) (fn : Func) (hf : Tryz.pinned.checked.prog.funcNamed Rows.checkGraftsUptoRow.func = some f) (hfn : Tryz.pinned.checked.prog.funcs[f]? = some fn) :
    true = Tryz.pinned.checked.prog.looks [] ∧ ∀ (j : Nat) t, fn.params[j]? = some t → Tryz.pinned.checked.prog.wantsStandIn t = false := by
  obtain rfl : f = 6 := Option.some.inj (gName.symm.trans hf) |>.symm
  obtain rfl : fn = Tryz.f6 := (Option.some.inj (fn6.symm.trans hfn)).symm
  refine ⟨gLook.symm, fun j t ht => ?_⟩
  rw [ps6] at ht
  have hm : t ∈ #[32, 32, 40] := Array.mem_of_getElem? ht
  have hm' : t = 32 ∨ t = 40 := by simpa using hm
  rcases hm' with rfl | rfl
  · exact gAlone32
  · exact gAlone40

theorem gMainIs : Tryz.prog.mainIs = some (true, Rows.checkGraftsUptoCard.stood.harness.2.toList) := by kernel_rfl
theorem gWfText : Rows.checkGraftsUptoRow.wfByText (Rows.OpenSpec.upto Rows.checkGraftsSpec) = true := by kernel_rfl

set_option maxRecDepth 100000 in
/-- CheckGrafts returns true for every two steps and every path of bounded bulk; the package tables are laid as the program's text lays them. -/
theorem gCard : Rows.CheckGraftsUptoCardSaid :=
  Claim7.holds_tied_plain_at .later [] _ _ _ _ gSaid (fun _ h => by cases h) gWfText (fun _ h => by cases h) gTie rfl ⟨rfl, rfl⟩ gMainIs rfl gPlain gGoes.symm
end Go.Proofs.YtlmifjdbjhcceaaGreatDoor
