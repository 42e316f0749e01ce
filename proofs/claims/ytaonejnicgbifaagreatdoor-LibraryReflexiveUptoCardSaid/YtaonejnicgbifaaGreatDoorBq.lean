import Derived.Test.YtaonejnicgbifaaGreatDoorBp
import Derived.Test.YtaonejnicgbifaaGreatDoorAt
namespace Go.Proofs.YtaonejnicgbifaaGreatDoor
open Go Go.Proofs.YtaonejnicgbifaaGreatDoor.Gx
theorem rowTie4 : Rows.libraryReflexiveUptoRow.laidByTextAt .later Tryz.pinned [.data, .data, .data] true :=
  OpenClaim.laidByTextAt_later rfl rfl tieAll noUnsafe
theorem name4 : Tryz.prog.funcNamed "inequality/inequalitylaw09.LibraryReflexive" = some 4 := by kernel_rfl
theorem look4 : Tryz.prog.looks [] = true := by kernel_rfl
theorem alone4_22 : Tryz.prog.wantsStandIn 22 = false := by kernel_rfl
theorem alone4_24 : Tryz.prog.wantsStandIn 24 = false := by kernel_rfl
theorem alone4_34 : Tryz.prog.wantsStandIn 34 = false := by kernel_rfl
theorem goes4 : Rows.libraryReflexiveUptoRow.goesBy Tryz.prog = false := by
  show (Program.goesFrom Tryz.prog "inequality/inequalitylaw09.LibraryReflexive" || false) = false
  rw [Bool.or_false, Program.goesFrom, name4, Option.any_some]
  exact goes_none noGo _

set_option maxRecDepth 100000 in
theorem plain4 (f : FuncId) (fn : Func) (hf : Tryz.pinned.checked.prog.funcNamed Rows.libraryReflexiveUptoRow.func = some f) (hfn : Tryz.pinned.checked.prog.funcs[f]? = some fn) :
    true = Tryz.pinned.checked.prog.looks [] ∧ ∀ (j : Nat) t, fn.params[j]? = some t → Tryz.pinned.checked.prog.wantsStandIn t = false := by
  obtain rfl : f = 4 := Option.some.inj (name4.symm.trans hf) |>.symm
  obtain rfl : fn = Tryz.f4 := (Option.some.inj (fn4.symm.trans hfn)).symm
  refine ⟨look4.symm, fun j t ht => ?_⟩
  rw [ps4] at ht
  have hm : t ∈ #[22, 24, 34] := Array.mem_of_getElem? ht
  have : t = 22 ∨ t = 24 ∨ t = 34 := by simpa using hm
  rcases this with rfl | rfl | rfl
  · exact alone4_22
  · exact alone4_24
  · exact alone4_34

theorem main4 : Tryz.prog.mainIs = some (true, Rows.libraryReflexiveUptoCard.stood.harness.2.toList) := by kernel_rfl
theorem wf4 : Rows.libraryReflexiveUptoRow.wfByText (Rows.OpenSpec.upto Rows.libraryReflexiveSpec) = true := by kernel_rfl

set_option maxRecDepth 100000 in
/-- LibraryReflexive returns true for every library, key and claim whose data are of bulk at most 1048576. The package tables are laid as the program's text lays them. -/
theorem reflexiveCard : Rows.LibraryReflexiveUptoCardSaid :=
  Claim7.holds_tied_plain_at .later [] _ _ _ _ said4 (fun _ h => by cases h) wf4 (fun _ h => by cases h) rowTie4 rfl ⟨rfl, rfl⟩ main4 rfl plain4 goes4.symm
end Go.Proofs.YtaonejnicgbifaaGreatDoor
