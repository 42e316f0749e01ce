/-
  CheckEquals returns true for every two steps whose data are of bulk at most 1048576.
-/
import Derived.Test.YtlmifjdbjhcceaaGreatDoorCards
import Derived.Test.YtlmifjdbjhcceaaGreatDoorEqW
import Derived.Test.YtlmifjdbjhcceaaGreatDoorEqClos
import Derived.Test.YtlmifjdbjhcceaaGreatDoorEqF
import Derived.Test.YtlmifjdbjhcceaaGreatDoorDvH
import Derived.Test.YtlmifjdbjhcceaaGreatDoorDvI
import Derived.Deep.DeepHandedRow
namespace Go.Proofs.YtlmifjdbjhcceaaGreatDoor
open Go Go.Proofs.YtlmifjdbjhcceaaGreatDoor.Gx Go.ChangeShapes Go.WideShapes Go.ChangeAt Go.RowKit

theorem own : ownKnob Tryz.prog.godebug = none := by kernel_rfl
theorem gTabType : (Tryz.prog.globals[0]?).map (·.type) = some 437 := by kernel_rfl
theorem uTab : Tryz.prog.underlying 437 = some (.array 32 5) := by kernel_rfl
theorem uByte : Tryz.prog.underlying 5 = some (.int .u8) := by kernel_rfl
theorem uBool : Tryz.prog.underlying 4 = some .bool := by kernel_rfl
theorem cTab : Tryz.prog.cellsOf 437 = 32 := by kernel_rfl
theorem cell8 : Tryz.prog.cellsOf 5 = 1 := by kernel_rfl
theorem fn4 : Tryz.prog.funcs[4]? = some Tryz.f4 := by kernel_rfl
theorem ps4 : Tryz.f4.params = #[32, 32] := by kernel_rfl

/-- The statement's own measure. -/
theorem len_le {H : Type} : ∀ es : List (DataW H), es.length ≤ Rows.uptoBulkAll es
  | [] => Nat.zero_le _
  | e :: r => by
    have h := len_le r
    have h1 : 1 ≤ Rows.uptoBulk e := by
      cases e with
      | lit l => cases l <;> simp [Rows.uptoBulk]
      | _ => simp [Rows.uptoBulk]
    simp only [Rows.uptoBulkAll, List.length_cons]
    omega
theorem mem_le {H : Type} : ∀ (es : List (DataW H)) (e : DataW H), e ∈ es → Rows.uptoBulk e ≤ Rows.uptoBulkAll es
  | [], e, h => by cases h
  | x :: r, e, h => by
    simp only [Rows.uptoBulkAll]
    rcases List.mem_cons.1 h with rfl | h
    · omega
    · have := mem_le r e h
      omega
theorem bulk_bk (H : Type) : Bk (Rows.uptoBulk (H := H)) where
  el es rest e h := by
    have := mem_le es e h
    simp only [Rows.uptoBulk]
    omega
  len es rest := by
    have := len_le es
    simp only [Rows.uptoBulk]
    omega
  ag ps p h := by
    have := mem_le ps p h
    simp only [Rows.uptoBulk]
    omega

theorem tab_below {w w1 : World} (h : Lib.TabIs Tryz.prog w "math/bits.deBruijn32tab" .u8 zs32) (hb : Below w.heap.size w w1) : Lib.TabIs Tryz.prog w1 "math/bits.deBruijn32tab" .u8 zs32 := by
  unfold Lib.TabIs World.var? at h ⊢
  rw [gTab] at h ⊢
  have h0 : 0 < w.heap.size := by
    rcases Nat.eq_zero_or_pos w.heap.size with h0 | h0
    · simp [h0] at h
    · exact h0
  simp only [Option.bind_some] at h ⊢
  rw [hb.block 0 h0]
  exact h

theorem tabOf {w : World} (h : laidMetH Tryz.prog Rows.checkEqualsUptoRow.laid w) : Lib.TabIs Tryz.prog w "math/bits.deBruijn32tab" .u8 zs32 :=
  Lib.tabIs_of_head gTab gTabType uTab uByte cell8 cTab h

/-- An argument, opened. -/
theorem step_of {H : Type} {enc : TypeId × Value → H} {W : World} {v : Value} {d : DataW H} {p : List MemPlace} (hs : Rows.uptoBulk d ≤ 1048576) (h : DataW.Trod enc Tryz.prog W 0 (fun _ => true) true 32 v d p) :
    ∃ (X : St) (D : Sd), v = D.val ∧ StOk W X D := by
  obtain ⟨fuel, hf⟩ := h
  obtain ⟨X, D, hc, hok⟩ := open_step (bulk_bk H) fuel _ (d, p) hs hf
  refine ⟨X, D, ?_, hok⟩
  cases v with
  | agg cs =>
    simp only [Value.cells] at hc
    unfold Sd.val
    rw [← hc]
  | _ => simp [Value.cells, Sd.cells] at hc

set_option maxRecDepth 100000 in
theorem contract (H : Type) (enc : TypeId × Value → H) (W : World) (args : Array Value) (ds gs : List (DataW H)) (before : List MemPlace)
    (hW : DataW.Whole enc Tryz.prog Tryz.f4.params.toList Rows.checkEqualsSpec.vars false W args.toList ds gs before) (hs : Rows.uptoSmall H (ds ++ gs) = true) (hL : laidMetH Tryz.prog Rows.checkEqualsUptoRow.laid W) :
    Calls Tryz.prog 4 args W fun e W' => ∃ v, e = .returned v ∧ Rows.checkEqualsSpec.post enc Tryz.prog Tryz.f4 false true false false W args v W' := by
  have hW' := hW
  obtain ⟨p, q, hA0, hV, rfl, hfz, hnd⟩ := hW
  have hA : DataW.TrodAll enc Tryz.prog W 0 (fun _ => true) true Tryz.f4.params.toList args.toList ds p := hA0
  rw [ps4] at hA
  obtain ⟨v0, vs0, d0, ds0, p0, q0, hargs, rfl, rfl, h0, r0⟩ := trodAll_cons hA
  obtain ⟨v1, vs1, d1, ds1, p1, q1, rfl, rfl, rfl, h1, r1⟩ := trodAll_cons r0
  obtain ⟨rfl, rfl, rfl⟩ := trodAll_nil r1
  obtain rfl : args = #[v0, v1] := by cases args; simp_all
  obtain ⟨rfl, rfl⟩ := trodVars_none hV
  have hs' : Rows.uptoBulk d0 + (Rows.uptoBulk d1 + 0) ≤ 1048576 := of_decide_eq_true hs
  obtain ⟨X, D, rfl, hX⟩ := step_of (by omega) h0
  obtain ⟨Y, E, rfl, hY⟩ := step_of (by omega) h1
  refine (equals_ok hX hY fun w1 hb => awake_calls (tab_below (tabOf hL) hb)).mono fun e W' he => ?_
  obtain ⟨rfl, hb⟩ := he
  refine ⟨_, rfl, post_true laidOut ?_ rfl ⟨rfl, rfl, rfl⟩ (tb := 4) (by kernel_rfl) uBool hW' hb⟩
  intro t ht
  rw [ps4] at ht
  have : t = 32 := by simpa using ht
  subst this
  exact ⟨q1, by decide +kernel⟩

/-- A world for the witness: the settled one, the tables holding what their initialisers lay. -/
def lay (vs : Array Value) : Obj → Obj
  | .cells _ t frozen => .cells vs t frozen
  | o => o
noncomputable def laidWorld (os : Os) : World :=
  { World.holding Tryz.prog os ⟨#[], #[], []⟩ with heap := (((World.holding Tryz.prog os ⟨#[], #[], []⟩).heap.modify 0 (lay #[.int .u8 0, .int .u8 1, .int .u8 28, .int .u8 2, .int .u8 29, .int .u8 14, .int .u8 24, .int .u8 3, .int .u8 30, .int .u8 22, .int .u8 20, .int .u8 15, .int .u8 25, .int .u8 17, .int .u8 4, .int .u8 8, .int .u8 31, .int .u8 27, .int .u8 13, .int .u8 23, .int .u8 21, .int .u8 19, .int .u8 16, .int .u8 7, .int .u8 26, .int .u8 12, .int .u8 18, .int .u8 6, .int .u8 11, .int .u8 5, .int .u8 10, .int .u8 9])).modify 1 (lay #[.int .u64 1, .int .u64 10, .int .u64 100, .int .u64 1000, .int .u64 10000, .int .u64 100000, .int .u64 1000000, .int .u64 10000000, .int .u64 100000000, .int .u64 1000000000, .int .u64 10000000000, .int .u64 100000000000, .int .u64 1000000000000, .int .u64 10000000000000, .int .u64 100000000000000, .int .u64 1000000000000000, .int .u64 10000000000000000, .int .u64 100000000000000000, .int .u64 1000000000000000000, .int .u64 10000000000000000000])).modify 2 (lay #[.int .u8 0, .int .u8 1, .int .u8 56, .int .u8 2, .int .u8 57, .int .u8 49, .int .u8 28, .int .u8 3, .int .u8 61, .int .u8 58, .int .u8 42, .int .u8 50, .int .u8 38, .int .u8 29, .int .u8 17, .int .u8 4, .int .u8 62, .int .u8 47, .int .u8 59, .int .u8 36, .int .u8 45, .int .u8 43, .int .u8 51, .int .u8 22, .int .u8 53, .int .u8 39, .int .u8 33, .int .u8 30, .int .u8 24, .int .u8 18, .int .u8 12, .int .u8 5, .int .u8 63, .int .u8 55, .int .u8 48, .int .u8 27, .int .u8 60, .int .u8 41, .int .u8 37, .int .u8 16, .int .u8 46, .int .u8 35, .int .u8 44, .int .u8 21, .int .u8 52, .int .u8 32, .int .u8 23, .int .u8 11, .int .u8 54, .int .u8 26, .int .u8 40, .int .u8 15, .int .u8 34, .int .u8 20, .int .u8 31, .int .u8 10, .int .u8 25, .int .u8 14, .int .u8 19, .int .u8 9, .int .u8 13, .int .u8 8, .int .u8 7, .int .u8 6]) }
def wargs : Array Value := #[.agg #[.int .i64 0, .string ⟨#[]⟩, .string ⟨#[]⟩, .bool false, .slice none 0 0, .slice none 0 0, .int .i64 0, .int .i64 0, .int .i64 0, .int .i64 0, .int .i64 0, .bool false, .slice none 0 0, .slice none 0 0, .string ⟨#[]⟩, .slice none 0 0, .slice none 0 0, .string ⟨#[]⟩, .int .i64 0, .slice none 0 0, .slice none 0 0], .agg #[.int .i64 0, .string ⟨#[]⟩, .string ⟨#[]⟩, .bool false, .slice none 0 0, .slice none 0 0, .int .i64 0, .int .i64 0, .int .i64 0, .int .i64 0, .int .i64 0, .bool false, .slice none 0 0, .slice none 0 0, .string ⟨#[]⟩, .slice none 0 0, .slice none 0 0, .string ⟨#[]⟩, .int .i64 0, .slice none 0 0, .slice none 0 0]]
theorem laid_met (os : Os) : laidMet Tryz.prog Rows.checkEqualsUptoRow.laid ((laidWorld os).forCall (fun _ _ => 0) ⟨#[], wargs, []⟩).memory :=
  laidMet_of_run' 8 (by kernel_rfl) (by kernel_rfl)
theorem reads (os : Os) {H : Type} (enc : TypeId × Value → H) : ∃ places, DataW.whole enc Tryz.prog ((laidWorld os).forCall (fun _ _ => 0) ⟨#[], wargs, []⟩).memory Tryz.f4.params.toList Rows.checkEqualsSpec.vars false wargs.toList 8 = some ([.agg [.lit (.int .i64 0), .lit (.string []), .lit (.string []), .agg [.lit (.bool false), .nil, .nil], .lit (.int .i64 0), .lit (.int .i64 0), .lit (.int .i64 0), .agg [.lit (.int .i64 0), .lit (.int .i64 0), .agg [.lit (.bool false), .nil, .nil], .lit (.string []), .nil], .nil, .lit (.string []), .lit (.int .i64 0), .nil, .nil], .agg [.lit (.int .i64 0), .lit (.string []), .lit (.string []), .agg [.lit (.bool false), .nil, .nil], .lit (.int .i64 0), .lit (.int .i64 0), .lit (.int .i64 0), .agg [.lit (.int .i64 0), .lit (.int .i64 0), .agg [.lit (.bool false), .nil, .nil], .lit (.string []), .nil], .nil, .lit (.string []), .lit (.int .i64 0), .nil, .nil]], [], places) :=
  ⟨[], by kernel_rfl⟩

set_option maxRecDepth 100000 in
theorem lifted (os : Os) (started : os.Started) (H : Type) (enc : TypeId × Value → H) (F : Stop.Interp) :
    ReturnsInHanded {} Tryz.checked os 4 .any ((Rows.OpenSpec.upto Rows.checkEqualsSpec).preRow enc Tryz.prog Tryz.f4 Rows.checkEqualsUptoRow.domain false Rows.checkEqualsUptoRow.laid) (((Rows.OpenSpec.upto Rows.checkEqualsSpec).at F).post enc Tryz.prog Tryz.f4 false true false false) := by
  obtain ⟨places, hx⟩ := reads os enc
  refine returnsInHanded_of_row (C := Tryz.checked) (s := Rows.OpenSpec.upto Rows.checkEqualsSpec) own started (by kernel_rfl) fn4
    (witness_row_at (enc := enc) (C := Tryz.checked) false (laidWorld os) wargs rfl (by kernel_rfl) (by kernel_rfl) (by kernel_rfl)
      (OpenSpec.preRow_of_cond 8 hx (by kernel_rfl) (fun k hk => by cases hk; kernel_rfl) (by kernel_rfl) (laid_met os))) ?_
  intro W base args ds gs before hval hW _ hk _ hL _ _
  exact contract H enc W args ds gs before hW (hk _ rfl) hL

theorem ts4 : Tryz.f4.params.toList ++ (Rows.OpenSpec.upto Rows.checkEqualsSpec).bare.plain.varTypes Tryz.prog = [32, 32] := by kernel_rfl
theorem rs4 : Tryz.f4.resultTypes = #[4] := by kernel_rfl
theorem a1 : Tryz.f4.params.all (Tryz.prog.readableRec ·) = true := by rw [ps4]; simp [q1]
theorem a2 : ([32, 32] : List Nat).any (Tryz.prog.mapsRec ·) = false := by simp [q2]
theorem a3 : ([32, 32] : List Nat).any (Tryz.prog.ifacesRec ·) = false := by simp [q3]
theorem a4 : ([32, 32] : List Nat).any (Tryz.prog.loopsFrom ·) = true := by simp [q4]
theorem a5 : ([32, 32] ++ (#[4] : Array Nat).toList : List Nat).any (Tryz.prog.wideKeysFrom ·) = false := by simp [q5, r5]
theorem a6 : ([32, 32] ++ (#[4] : Array Nat).toList : List Nat).any (Tryz.prog.veiledRec ·) = false := by simp [q6, r6]
theorem a7 : (#[4] : Array Nat).all (fun t => Tryz.prog.readableRec t && decide (t < Tryz.prog.types.size)) = true := by
  simp [r1]
theorem a8 : (#[4] : Array Nat).toList.any (Tryz.prog.ifacesRec ·) = false := by simp [r3]
theorem a9 : (#[4] : Array Nat).toList.any (Tryz.prog.loopsFrom ·) = false := by simp [r4]
theorem closed : joinedFacts Tryz.prog 4 Tryz.f4 (Rows.OpenSpec.upto Rows.checkEqualsSpec).bare Rows.checkEqualsUptoRow = true := by
  unfold joinedFacts
  rw [inp4, unf4, rec4, var4, laidOut, rowed, a1, p1, p2, ts4, a2, a3, a4, rs4, a5, a6, a7, a8, a9, p4, p5]
  kernel_rfl

set_option maxRecDepth 100000 in
theorem said : Rows.CheckEqualsUptoSaid :=
  OpenClaim.holds_of_cond 4 Tryz.f4 rfl rfl rfl rfl rfl rfl rfl ⟨rfl, rfl, rfl, rfl, rfl⟩ rfl rfl rfl rfl rfl (by kernel_rfl) fn4 closed
    (of_decide_eq_true (by kernel_rfl)) (by unfold Func.isWrapper; first | (rw [if_pos (by decide +kernel)]; kernel_rfl) | (rw [if_neg (by decide +kernel)]; exact ⟨rfl, rfl⟩))
    (fun os started H enc _ F => by rw [OpenClaim.pre_eq_preRow]; exact lifted os started H enc F)
end Go.Proofs.YtlmifjdbjhcceaaGreatDoor
