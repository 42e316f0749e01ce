/-
  CheckEquals returns true for every two steps whose data are together of bulk at most 1048576, whatever the tape; its input reads behind the call as it read before. The package tables that it comes to hold what the program's text lays.
-/
import Derived.Test.YtlmifjdbjhcceaaGreatDoorEqP
import Derived.Test.YtlmifjdbjhcceaaGreatDoorEqT
namespace Go.Proofs.YtlmifjdbjhcceaaGreatDoor
open Go Go.Proofs.YtlmifjdbjhcceaaGreatDoor.Gx
theorem fname : Tryz.prog.funcNamed "inequality/inequalitylaw07.CheckEquals" = some 4 := by kernel_rfl
theorem look : Tryz.prog.looks [] = true := by kernel_rfl
theorem alone32 : Tryz.prog.wantsStandIn 32 = false := by kernel_rfl
theorem goes : Rows.checkEqualsUptoRow.goesBy Tryz.prog = false := by
  show (Program.goesFrom Tryz.prog "inequality/inequalitylaw07.CheckEquals" || false) = false
  rw [Bool.or_false, Program.goesFrom, fname, Option.any_some]
  exact goes_none noGo _

set_option maxRecDepth 100000 in
theorem plain (f : FuncId) (fn : Func) (hf : Tryz.pinned.checked.prog.funcNamed Rows.checkEqualsUptoRow.func = some f) (hfn : Tryz.pinned.checked.prog.funcs[f]? = some fn) :
    true = Tryz.pinned.checked.prog.looks [] ∧ ∀ (j : Nat) t, fn.params[j]? = some t → Tryz.pinned.checked.prog.wantsStandIn t = false := by
  obtain rfl : f = 4 := Option.some.inj (fname.symm.trans hf) |>.symm
  obtain rfl : fn = Tryz.f4 := (Option.some.inj (fn4.symm.trans hfn)).symm
  refine ⟨look.symm, fun j t ht => ?_⟩
  rw [ps4] at ht
  have hm : t ∈ #[32, 32] := Array.mem_of_getElem? ht
  have hm' : t = 32 := by simpa using hm
  subst hm'
  exact alone32

theorem mainIs : Tryz.prog.mainIs = some (true, Rows.checkEqualsUptoCard.stood.harness.2.toList) := by kernel_rfl
theorem wfText : Rows.checkEqualsUptoRow.wfByText (Rows.OpenSpec.upto Rows.checkEqualsSpec) = true := by kernel_rfl

set_option maxRecDepth 100000 in
/-- CheckEquals returns true for every two steps of bounded bulk; the package tables are laid as the program's text lays them. -/
theorem card : Rows.CheckEqualsUptoCardSaid :=
  Claim7.holds_tied_plain_at .later [] _ _ _ _ said (fun _ h => by cases h) wfText (fun _ h => by cases h) row_tie rfl ⟨rfl, rfl⟩ mainIs rfl plain goes.symm
end Go.Proofs.YtlmifjdbjhcceaaGreatDoor
