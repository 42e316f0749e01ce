import Derived.Test.YtaonejnicgbifaaGreatDoorTabA1
import Derived.Test.YtaonejnicgbifaaGreatDoorTabA2
import Derived.Test.YtaonejnicgbifaaGreatDoorTabA3
import Derived.Test.YtaonejnicgbifaaGreatDoorTabA4
import Derived.Test.YtaonejnicgbifaaGreatDoorGxF
import Derived.Lib.LaidTab
import Derived.LaidSub
import Derived.MakeChecks
import Derived.ChangeMaps5
namespace Go.Proofs.YtaonejnicgbifaaGreatDoor
open Go Go.Proofs.YtaonejnicgbifaaGreatDoor.Gx Go.RowKit Go.ChangeShapes

theorem mixed : Tryz.prog.follows .mixedOrders = true := by kernel_rfl
theorem noNum : NoNum Tryz.prog := by
  have h : (Tryz.prog.funcs.toList.all fun fn => !fn.body.isSome || !(fn.name == "runtime.NumGoroutine")) = true := by kernel_rfl
  intro f fn hf hb
  have hm : fn ∈ Tryz.prog.funcs.toList := by
    rw [Array.mem_toList_iff]; exact Array.mem_of_getElem? hf
  have := List.all_eq_true.1 h fn hm
  simp only [hb, Bool.not_true, Bool.false_or, Bool.not_eq_true'] at this
  exact this
theorem noX : XOk P0 X0 := fun f k h => by cases h

theorem ok0 : TabOk P0 G0 tw0 := TabOk.nil _ _
theorem ok1 : TabOk P0 G0 tw1 := TabOk.chk ok0 noNum mixed noX chk1
theorem ok2 : TabOk P0 G0 tw2 := TabOk.chk ok1 noNum mixed noX chk2
theorem ok3 : TabOk P0 G0 tw3 := TabOk.chk ok2 noNum mixed noX chk3
theorem ok4 : TabOk P0 G0 tw4 := TabOk.chk ok3 noNum mixed noX chk4
theorem ok5 : TabOk P0 G0 tw5 := TabOk.chk ok4 noNum mixed noX chk5
theorem ok6 : TabOk P0 G0 tw6 := TabOk.chk ok5 noNum mixed noX chk6
theorem ok7 : TabOk P0 G0 tw7 := TabOk.chk ok6 noNum mixed noX chk7
theorem ok8 : TabOk P0 G0 tw8 := TabOk.chk ok7 noNum mixed noX chk8
theorem ok9 : TabOk P0 G0 tw9 := TabOk.chk ok8 noNum mixed noX chk9
theorem ok10 : TabOk P0 G0 tw10 := TabOk.chk ok9 noNum mixed noX chk10
theorem ok11 : TabOk P0 G0 tw11 := TabOk.chk ok10 noNum mixed noX chk11
theorem ok12 : TabOk P0 G0 tw12 := TabOk.chk ok11 noNum mixed noX chk12
theorem ok13 : TabOk P0 G0 tw13 := TabOk.chk ok12 noNum mixed noX chk13
theorem ok14 : TabOk P0 G0 tw14 := TabOk.chk ok13 noNum mixed noX chk14
theorem ok15 : TabOk P0 G0 tw15 := TabOk.chk ok14 noNum mixed noX chk15
theorem ok16 : TabOk P0 G0 tw16 := TabOk.chk ok15 noNum mixed noX chk16
theorem ok17 : TabOk P0 G0 tw17 := TabOk.chk ok16 noNum mixed noX chk17

/-- awake(), sealed. -/
theorem awake_seal : SealOk (tenv P0 G0 (fun _ => none) (fun _ => true) []) 7 [] (.ret (.bool true)) := ok17 (7, [], .bool true) (List.mem_append_left _ (by unfold dw17; simp))

def zs32 : List Int := [0, 1, 28, 2, 29, 14, 24, 3, 30, 22, 20, 15, 25, 17, 4, 8, 31, 27, 13, 23, 21, 19, 16, 7, 26, 12, 18, 6, 11, 5, 10, 9]
theorem gTab : Tryz.prog.globalNamed "math/bits.deBruijn32tab" = some 0 := by kernel_rfl

theorem tabs {w : World} (ht : Lib.TabIs Tryz.prog w "math/bits.deBruijn32tab" .u8 zs32) : ∀ g cs, G0 g = some cs → VRel (fun _ => False) w phi0 (.iptr cs) (.pointer (some ⟨g, 0, none⟩)) := by
  intro g cs hg
  have h0 := tab_rel ht gTab (by simp [zs32])
  unfold G0 at hg
  split at hg
  · simp only [Option.some.injEq] at hg; subst hg; exact h0
  · cases hg

theorem awake_calls {w : World} (ht : Lib.TabIs Tryz.prog w "math/bits.deBruijn32tab" .u8 zs32) : Calls Tryz.prog 7 #[] w fun e w' => e = .returned (.bool true) ∧ Below w.heap.size w w' :=
  (awake_seal.true_calls (tabs ht) .nil).mono fun _e _w' he => ⟨he.1, he.2.below⟩
end Go.Proofs.YtaonejnicgbifaaGreatDoor
