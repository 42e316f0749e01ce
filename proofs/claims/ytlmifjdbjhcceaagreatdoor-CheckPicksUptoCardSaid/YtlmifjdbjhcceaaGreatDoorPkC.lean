/-
  CheckPicks returns true for every two steps and every path whose data are together of bulk at most 1048576, whatever the tape; its input reads behind the call as it read before. The package tables that it comes to hold what the program's text lays.
-/
import Derived.Test.YtlmifjdbjhcceaaGreatDoorPkP
import Derived.Test.YtlmifjdbjhcceaaGreatDoorEqT
namespace Go.Proofs.YtlmifjdbjhcceaaGreatDoor
open Go Go.Proofs.YtlmifjdbjhcceaaGreatDoor.Gx
theorem kTie : Rows.checkPicksUptoRow.laidByTextAt .later Tryz.pinned [.data, .data, .data] true :=
  OpenClaim.laidByTextAt_later rfl rfl tieAll noUnsafe
theorem kName : Tryz.prog.funcNamed "inequality/inequalitylaw07.CheckPicks" = some 5 := by kernel_rfl
theorem kLook : Tryz.prog.looks [] = true := by kernel_rfl
theorem kAlone32 : Tryz.prog.wantsStandIn 32 = false := by kernel_rfl
theorem kAlone40 : Tryz.prog.wantsStandIn 40 = false := by kernel_rfl
theorem kGoes : Rows.checkPicksUptoRow.goesBy Tryz.prog = false := by
  show (Program.goesFrom Tryz.prog "inequality/inequalitylaw07.CheckPicks" || false) = false
  rw [Bool.or_false, Program.goesFrom, kName, Option.any_some]
  exact goes_none noGo _

set_option maxRecDepth 100000 in
theorem kPlain (f : FuncId) (fn : Func) (hf : Tryz.pinned.checked.prog.funcNamed Rows.checkPicksUptoRow.func = some f) (hfn : Tryz.pinned.checked.prog.funcs[f]? = some fn) :
    true = Tryz.pinned.checked.prog.looks [] ∧ ∀ (j : Nat) t, fn.params[j]? = some t → Tryz.pinned.checked.prog.wantsStandIn t = false := by
  obtain rfl : f = 5 := Option.some.inj (kName.symm.trans hf) |>.symm
  obtain rfl : fn = Tryz.f5 := (Option.some.inj (fn5.symm.trans hfn)).symm
  refine ⟨kLook.symm, fun j t ht => ?_⟩
  rw [ps5] at ht
  have hm : t ∈ #[32, 32, 40] := Array.mem_of_getElem? ht
  have hm' : t = 32 ∨ t = 40 := by simpa using hm
  rcases hm' with rfl | rfl
  · exact kAlone32
  · exact kAlone40

theorem kMainIs : Tryz.prog.mainIs = some (true, Rows.checkPicksUptoCard.stood.harness.2.toList) := by kernel_rfl
theorem kWfText : Rows.checkPicksUptoRow.wfByText (Rows.OpenSpec.upto Rows.checkPicksSpec) = true := by kernel_rfl

set_option maxRecDepth 100000 in
/-- CheckPicks returns true for every two steps and every path of bounded bulk; the package tables are laid as the program's text lays them. -/
theorem kCard : Rows.CheckPicksUptoCardSaid :=
  Claim7.holds_tied_plain_at .later [] _ _ _ _ kSaid (fun _ h => by cases h) kWfText (fun _ h => by cases h) kTie rfl ⟨rfl, rfl⟩ kMainIs rfl kPlain kGoes.symm
end Go.Proofs.YtlmifjdbjhcceaaGreatDoor
