/-
  CheckNames returns true for every rule and every text, and awake() with it.
-/
import Derived.Test.YtbjhjladdkbnmaaGreatDoorCards
import Derived.Test.YtbjhjladdkbnmaaGreatDoorTie
import Derived.Test.YtbjhjladdkbnmaaGreatDoorGxJoin
import Derived.Test.YtbjhjladdkbnmaaGreatDoorTabN1
import Derived.Test.YtbjhjladdkbnmaaGreatDoorTabN2
import Derived.Test.YtbjhjladdkbnmaaGreatDoorTabN3
import Derived.Test.YtbjhjladdkbnmaaGreatDoorTabN4
import Derived.Test.YtbjhjladdkbnmaaGreatDoorTabN7
import Derived.Test.YtbjhjladdkbnmaaGreatDoorNmClos
import Derived.WalkKit
import Derived.ProofKit
import Derived.OpenShut
import Derived.Deep.DeepHandedRow
import Derived.Lib.LaidTab
import Derived.ChangeMaps5
namespace Go.Proofs.YtbjhjladdkbnmaaGreatDoor
open Go Go.Proofs.YtbjhjladdkbnmaaGreatDoor.Gx Go.ChangeShapes Go.WideShapes Go.ChangeAt Go.RowKit

theorem own : ownKnob Tryz.prog.godebug = none := by kernel_rfl
theorem gTab : Tryz.prog.globalNamed "math/bits.deBruijn32tab" = some 0 := by kernel_rfl
theorem gTabType : (Tryz.prog.globals[0]?).map (·.type) = some 473 := by kernel_rfl
theorem uTab : Tryz.prog.underlying 473 = some (.array 32 5) := by kernel_rfl
theorem uByte : Tryz.prog.underlying 5 = some (.int .u8) := by kernel_rfl
theorem uInt : Tryz.prog.underlying 3 = some (.int .i64) := by kernel_rfl
theorem uStr : Tryz.prog.underlying 9 = some .string := by kernel_rfl
theorem uBool : Tryz.prog.underlying 4 = some .bool := by kernel_rfl
theorem cTab : Tryz.prog.cellsOf 473 = 32 := by kernel_rfl
theorem cell8 : Tryz.prog.cellsOf 5 = 1 := by kernel_rfl
theorem fn3 : Tryz.prog.funcs[3]? = some Tryz.f3 := by kernel_rfl
theorem ps3 : Tryz.f3.params = #[3, 9] := by kernel_rfl
theorem mixed : Tryz.prog.follows .mixedOrders = true := by kernel_rfl
theorem noNum : NoNum Tryz.prog := by
  have h : (Tryz.prog.funcs.toList.all fun fn => !fn.body.isSome || !(fn.name == "runtime.NumGoroutine")) = true := by kernel_rfl
  intro f fn hf hb
  have hm : fn ∈ Tryz.prog.funcs.toList := by
    rw [Array.mem_toList_iff]; exact Array.mem_of_getElem? hf
  have := List.all_eq_true.1 h fn hm
  simp only [hb, Bool.not_true, Bool.false_or, Bool.not_eq_true'] at this
  exact this

/-- The tables: each row is what the call comes to. -/
theorem ok0 : TabOk P0 G0 t0 := TabOk.nil _ _
theorem ok1 : TabOk P0 G0 t1 := TabOk.chk ok0 noNum mixed chk1
theorem ok2 : TabOk P0 G0 t2 := TabOk.chk ok1 noNum mixed chk2
theorem ok3 : TabOk P0 G0 t3 := TabOk.chk ok2 noNum mixed chk3
theorem ok4 : TabOk P0 G0 t4 := TabOk.chk ok3 noNum mixed chk4
theorem ok5 : TabOk P0 G0 t5 := TabOk.chk ok4 noNum mixed chk5
theorem ok6 : TabOk P0 G0 t6 := TabOk.chk ok5 noNum mixed chk6
theorem ok7 : TabOk P0 G0 t7 := TabOk.chk ok6 noNum mixed chk7
theorem ok8 : TabOk P0 G0 t8 := TabOk.chk ok7 noNum mixed chk8
theorem ok9 : TabOk P0 G0 t9 := TabOk.chk ok8 noNum mixed chk9
theorem ok10 : TabOk P0 G0 t10 := TabOk.chk ok9 noNum mixed chk10
theorem ok11 : TabOk P0 G0 t11 := TabOk.chk ok10 noNum mixed chk11
theorem ok12 : TabOk P0 G0 t12 := TabOk.chk ok11 noNum mixed chk12
theorem ok13 : TabOk P0 G0 t13 := TabOk.chk ok12 noNum mixed chk13
theorem ok14 : TabOk P0 G0 t14 := TabOk.chk ok13 noNum mixed chk14
theorem ok15 : TabOk P0 G0 t15 := TabOk.chk ok14 noNum mixed chk15
theorem ok16 : TabOk P0 G0 t16 := TabOk.chk ok15 noNum mixed chk16
theorem ok17 : TabOk P0 G0 t17 := TabOk.chk ok16 noNum mixed chk17
theorem ok18 : TabOk P0 G0 t18 := TabOk.chk ok17 noNum mixed chk18
theorem ok19 : TabOk P0 G0 t19 := TabOk.chk ok18 noNum mixed chk19
theorem okN : TabOk P0 G0 tN := ok19

theorem agrees_true {o : Option Out} (h : agrees o (.bool true) = true) : o = some (.ret (.bool true)) := by
  cases o with
  | none => simp [agrees] at h
  | some o =>
    cases o with
    | pan c => simp [agrees] at h
    | ret u => rw [avEq_eq _ _ h]

/-- CheckNames at one of the listed arguments. -/
theorem sealedAt {x y : AV} (hx : x ∈ rules) (hy : y ∈ texts) : SealOk (tenv P0 G0 pol0 tN) 3 [x, y] (.ret (.bool true)) :=
  callS_sound (okN.env noNum mixed pol0) (agrees_true (List.all_eq_true.1 (names_all x hx) y hy))

theorem rule_of {w : World} (n : Int) (h : (Lit.int .i64 n).wf = true) : ∃ x ∈ rules, VRel (fun _ => False) w phi0 x (.int .i64 n) := by
  have hb := bounds_i64 h
  by_cases h0 : n ≤ 0
  · exact ⟨.oint .i64 (-9223372036854775808) 0, by simp [rules], .oint hb.1 h0⟩
  · by_cases h1 : 22 ≤ n
    · exact ⟨.oint .i64 22 9223372036854775807, by simp [rules], .oint h1 hb.2⟩
    · refine ⟨.int .i64 n, ?_, .int .i64 n⟩
      have : n = 1 ∨ n = 2 ∨ n = 3 ∨ n = 4 ∨ n = 5 ∨ n = 6 ∨ n = 7 ∨ n = 8 ∨ n = 9 ∨ n = 10 ∨ n = 11 ∨ n = 12 ∨ n = 13 ∨ n = 14 ∨ n = 15 ∨ n = 16 ∨ n = 17 ∨ n = 18 ∨ n = 19 ∨ n = 20 ∨ n = 21 := by omega
      rcases this with rfl | rfl | rfl | rfl | rfl | rfl | rfl | rfl | rfl | rfl | rfl | rfl | rfl | rfl | rfl | rfl | rfl | rfl | rfl | rfl | rfl <;> simp [rules]

theorem text_of {w : World} (s : ByteArray) : ∃ y ∈ texts, VRel (fun _ => False) w phi0 y (.string s) := by
  have he : s = ⟨s.data.toList.toArray⟩ := by simp
  by_cases h : s.data.toList ∈ names
  · exact ⟨.str s.data.toList, List.mem_append_left _ (List.mem_map_of_mem h), by rw [he]; exact .str _⟩
  · exact ⟨.ostr names, by simp [texts], by rw [he]; exact .ostr h⟩

theorem tabs {w : World} (h : laidMetH Tryz.prog Rows.checkNamesRow.laid w) : ∀ g cs, G0 g = some cs → VRel (fun _ => False) w phi0 (.iptr cs) (.pointer (some ⟨g, 0, none⟩)) := by
  intro g cs hg
  have ht : Lib.TabIs Tryz.prog w "math/bits.deBruijn32tab" .u8 [0, 1, 28, 2, 29, 14, 24, 3, 30, 22, 20, 15, 25, 17, 4, 8, 31, 27, 13, 23, 21, 19, 16, 7, 26, 12, 18, 6, 11, 5, 10, 9] :=
    Lib.tabIs_of_head gTab gTabType uTab uByte cell8 cTab h
  have h0 := tab_rel ht gTab (by simp)
  match g, hg with
  | 0, hg => simp only [G0, Option.some.injEq] at hg; subst hg; exact h0

theorem walk {w : World} (hL : laidMetH Tryz.prog Rows.checkNamesRow.laid w) (n : Int) (h : (Lit.int .i64 n).wf = true) (s : ByteArray) :
    Calls Tryz.prog 3 #[.int .i64 n, .string s] w fun e w' => e = .returned (.bool true) ∧ Grown w w' := by
  obtain ⟨x, hx, rx⟩ := rule_of (w := w) n h
  obtain ⟨y, hy, ry⟩ := text_of (w := w) s
  exact ((sealedAt hx hy).true_calls (tabs hL) (LRel.cons rx (LRel.cons ry .nil))).mono fun e w' he => ⟨he.1, he.2.grown⟩

set_option maxRecDepth 100000 in
theorem contract (H : Type) (enc : TypeId × Value → H) (W : World) (base : Nat) (args : Array Value) (ds gs : List (DataW H)) (before : List MemPlace)
    (hval : ∀ (j : Nat) t v, Tryz.f3.params[j]? = some t → args[j]? = some v → Value.okWide Tryz.prog W .any base t v)
    (hW : DataW.Whole enc Tryz.prog Tryz.f3.params.toList Rows.checkNamesSpec.vars false W args.toList ds gs before) (hL : laidMetH Tryz.prog Rows.checkNamesRow.laid W) :
    Calls Tryz.prog 3 args W fun e W' => ∃ v, e = .returned v ∧ Rows.checkNamesSpec.post enc Tryz.prog Tryz.f3 false true false false W args v W' := by
  have hW' := hW
  obtain ⟨p, q, hA0, hV, rfl, hfz, hnd⟩ := hW
  have hA : DataW.TrodAll enc Tryz.prog W 0 (fun _ => true) true Tryz.f3.params.toList args.toList ds p := hA0
  rw [ps3] at hA hval
  obtain ⟨v0, vs0, d0, ds0, p0, q0, hargs, rfl, rfl, h0, r0⟩ := trodAll_cons hA
  obtain ⟨v1, vs1, d1, ds1, p1, q1, rfl, rfl, rfl, h1, r1⟩ := trodAll_cons r0
  obtain ⟨rfl, rfl, rfl⟩ := trodAll_nil r1
  obtain rfl : args = #[v0, v1] := by cases args; simp_all
  obtain ⟨rfl, rfl⟩ := trodVars_none hV
  have hv0 : Value.okWide Tryz.prog W .any base 3 v0 := hval 0 3 v0 (by simp) (by simp)
  have hv1 : Value.okWide Tryz.prog W .any base 9 v1 := hval 1 9 v1 (by simp) (by simp)
  obtain ⟨n, rfl, rfl, rfl, hn⟩ := open_int (P := Tryz.prog) (w := W) uInt hv0 h0
  obtain ⟨s, rfl, rfl, rfl, hs⟩ := ChangeMaps.open_string (P := Tryz.prog) (w := W) uStr hv1 h1
  clear hA0
  simp only [List.append_nil] at hW'
  refine (walk hL n hn s).mono fun e W' ⟨he, hg⟩ => ?_
  subst he
  exact ⟨_, rfl, post_of_same (pa := []) (pv := []) hW' (fun _ _ _ => trodAll_cons_mk (shut_bool uBool _) trodAll_mk0)
    (fun _ _ => trodAll_cons_mk (shut_int uInt hn) (trodAll_cons_mk (ChangeMaps.shut_string uStr hs) trodAll_mk0)) (fun _ _ => rfl) rfl
    (hg.frame _) hg.2.1 (ok_one (by kernel_rfl) rfl (okWide_bool_mk uBool _))⟩

/-- A world for the witness: the settled one, the tables holding what their initialisers lay. -/
def lay (vs : Array Value) : Obj → Obj
  | .cells _ t frozen => .cells vs t frozen
  | o => o
noncomputable def laidWorld (os : Os) : World :=
  { World.holding Tryz.prog os ⟨#[], #[], []⟩ with heap := (((World.holding Tryz.prog os ⟨#[], #[], []⟩).heap.modify 0 (lay #[.int .u8 0, .int .u8 1, .int .u8 28, .int .u8 2, .int .u8 29, .int .u8 14, .int .u8 24, .int .u8 3, .int .u8 30, .int .u8 22, .int .u8 20, .int .u8 15, .int .u8 25, .int .u8 17, .int .u8 4, .int .u8 8, .int .u8 31, .int .u8 27, .int .u8 13, .int .u8 23, .int .u8 21, .int .u8 19, .int .u8 16, .int .u8 7, .int .u8 26, .int .u8 12, .int .u8 18, .int .u8 6, .int .u8 11, .int .u8 5, .int .u8 10, .int .u8 9])).modify 1 (lay #[.int .u64 1, .int .u64 10, .int .u64 100, .int .u64 1000, .int .u64 10000, .int .u64 100000, .int .u64 1000000, .int .u64 10000000, .int .u64 100000000, .int .u64 1000000000, .int .u64 10000000000, .int .u64 100000000000, .int .u64 1000000000000, .int .u64 10000000000000, .int .u64 100000000000000, .int .u64 1000000000000000, .int .u64 10000000000000000, .int .u64 100000000000000000, .int .u64 1000000000000000000, .int .u64 10000000000000000000])).modify 2 (lay #[.int .u8 0, .int .u8 1, .int .u8 56, .int .u8 2, .int .u8 57, .int .u8 49, .int .u8 28, .int .u8 3, .int .u8 61, .int .u8 58, .int .u8 42, .int .u8 50, .int .u8 38, .int .u8 29, .int .u8 17, .int .u8 4, .int .u8 62, .int .u8 47, .int .u8 59, .int .u8 36, .int .u8 45, .int .u8 43, .int .u8 51, .int .u8 22, .int .u8 53, .int .u8 39, .int .u8 33, .int .u8 30, .int .u8 24, .int .u8 18, .int .u8 12, .int .u8 5, .int .u8 63, .int .u8 55, .int .u8 48, .int .u8 27, .int .u8 60, .int .u8 41, .int .u8 37, .int .u8 16, .int .u8 46, .int .u8 35, .int .u8 44, .int .u8 21, .int .u8 52, .int .u8 32, .int .u8 23, .int .u8 11, .int .u8 54, .int .u8 26, .int .u8 40, .int .u8 15, .int .u8 34, .int .u8 20, .int .u8 31, .int .u8 10, .int .u8 25, .int .u8 14, .int .u8 19, .int .u8 9, .int .u8 13, .int .u8 8, .int .u8 7, .int .u8 6]) }
def wargs : Array Value := #[.int .i64 1, .string ⟨#[]⟩]
theorem laid_met (os : Os) : laidMet Tryz.prog Rows.checkNamesRow.laid ((laidWorld os).forCall (fun _ _ => 0) ⟨#[], wargs, []⟩).memory :=
  laidMet_of_run' 8 (by kernel_rfl) (by kernel_rfl)
theorem reads (os : Os) {H : Type} (enc : TypeId × Value → H) : ∃ places, DataW.whole enc Tryz.prog ((laidWorld os).forCall (fun _ _ => 0) ⟨#[], wargs, []⟩).memory Tryz.f3.params.toList Rows.checkNamesSpec.vars false wargs.toList 8 = some ([.lit (.int .i64 1), .lit (.string [])], [], places) :=
  ⟨[], by kernel_rfl⟩

set_option maxRecDepth 100000 in
theorem lifted (os : Os) (started : os.Started) (H : Type) (enc : TypeId × Value → H) (F : Stop.Interp) :
    ReturnsInHanded {} Tryz.checked os 3 .any ((OpenSpec.ofChange Rows.checkNamesSpec).preRow enc Tryz.prog Tryz.f3 Rows.checkNamesRow.domain false Rows.checkNamesRow.laid) (((OpenSpec.ofChange Rows.checkNamesSpec).at F).post enc Tryz.prog Tryz.f3 false true false false) := by
  obtain ⟨places, hx⟩ := reads os enc
  refine returnsInHanded_of_row (C := Tryz.checked) (s := OpenSpec.ofChange Rows.checkNamesSpec) own started (by kernel_rfl) fn3
    (witness_row_at (enc := enc) (C := Tryz.checked) false (laidWorld os) wargs rfl (by kernel_rfl) (by kernel_rfl) (by kernel_rfl)
      (OpenSpec.preRow_of_cond 8 hx (by kernel_rfl) (fun k hk => by cases hk) (by kernel_rfl) (laid_met os))) ?_
  intro W base args ds gs before hval hW _ _ _ hL _ _
  exact contract H enc W base args ds gs before hval hW hL

theorem closed : joinedFacts Tryz.prog 3 Tryz.f3 Rows.checkNamesSpec Rows.checkNamesRow = true := by
  unfold joinedFacts
  rw [inp3, unf3, rec3, var3, laidOut, rowed]
  kernel_rfl

set_option maxRecDepth 100000 in
theorem said : Rows.CheckNamesSaid :=
  OpenClaim.holds_of_cond 3 Tryz.f3 rfl rfl rfl rfl rfl rfl rfl ⟨rfl, rfl, rfl, rfl, rfl⟩ rfl rfl rfl rfl rfl (by kernel_rfl) fn3 closed
    (of_decide_eq_true (by kernel_rfl)) (by unfold Func.isWrapper; first | (rw [if_pos (by decide +kernel)]; kernel_rfl) | (rw [if_neg (by decide +kernel)]; exact ⟨rfl, rfl⟩))
    (fun os started H enc _ F => by rw [OpenClaim.pre_eq_preRow]; exact lifted os started H enc F)
end Go.Proofs.YtbjhjladdkbnmaaGreatDoor
