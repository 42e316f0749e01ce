/-
  CheckGrafts returns true for every two steps and every path whose data are of bulk at most 1048576.
-/
import Derived.Test.YtlmifjdbjhcceaaGreatDoorEqP
import Derived.Test.YtlmifjdbjhcceaaGreatDoorGrClos
import Derived.Test.YtlmifjdbjhcceaaGreatDoorDvN
namespace Go.Proofs.YtlmifjdbjhcceaaGreatDoor
open Go Go.Proofs.YtlmifjdbjhcceaaGreatDoor.Gx Go.ChangeShapes Go.WideShapes Go.ChangeAt Go.RowKit

theorem q1s : Tryz.prog.readableRec 32 = true := q1
theorem fn6 : Tryz.prog.funcs[6]? = some Tryz.f6 := by kernel_rfl
theorem ps6 : Tryz.f6.params = #[32, 32, 40] := by kernel_rfl

theorem gTabOf {w : World} (h : laidMetH Tryz.prog Rows.checkGraftsUptoRow.laid w) : Lib.TabIs Tryz.prog w "math/bits.deBruijn32tab" .u8 zs32 :=
  Lib.tabIs_of_head gTab gTabType uTab uByte cell8 cTab h

/-- An argument, opened. -/
theorem gStepOf {H : Type} {enc : TypeId × Value → H} {W : World} {v : Value} {d : DataW H} {p : List MemPlace} (hs : Rows.uptoBulk d ≤ 1048576) (h : DataW.Trod enc Tryz.prog W 0 (fun _ => true) true 32 v d p) :
    ∃ (X : St) (D : Sd), v = D.val ∧ StOk W X D ∧ StSmall X := by
  obtain ⟨fuel, hf⟩ := h
  obtain ⟨X, D, hc, hok, hsm⟩ := open_stepS (bulk_bk H) fuel _ (d, p) hs hf
  refine ⟨X, D, ?_, hok, hsm⟩
  cases v with
  | agg cs =>
    simp only [Value.cells] at hc
    unfold Sd.val
    rw [← hc]
  | _ => simp [Value.cells, Sd.cells] at hc
set_option maxRecDepth 100000 in
theorem gPathForm {W : World} {base : Nat} {cs : Array Value} (hv : Value.okWide Tryz.prog W .any base 40 (.agg cs)) : False := by
  simp [Value.okWide, Cell.okWide, Cell.ok] at hv
set_option maxRecDepth 100000 in
theorem gPathOf {base : Nat} {H : Type} {enc : TypeId × Value → H} {W : World} {v : Value} {d : DataW H} {p : List MemPlace} (hv : Value.okWide Tryz.prog W .any base 40 v) (hs : Rows.uptoBulk d ≤ 1048576) (h : DataW.Trod enc Tryz.prog W 0 (fun _ => true) true 40 v d p) :
    ∃ q n c l, v = .slice q n c ∧ PaOk W q n l ∧ n ≤ c ∧ c ≤ maxLen := by
  obtain ⟨fuel, hf⟩ := h
  obtain ⟨q, n, c, l, hc, h1, h2, h3⟩ := open_path (bulk_bk H) (x := (d, p)) hs hf
  refine ⟨q, n, c, l, ?_, h1, h2, h3⟩
  cases v with
  | agg cs => exact (gPathForm hv).elim
  | _ => clear hv; simp_all [Value.cells]

set_option maxRecDepth 100000 in
theorem gContract (H : Type) (enc : TypeId × Value → H) (W : World) (base : Nat) (args : Array Value) (ds gs : List (DataW H)) (before : List MemPlace)
    (hval : ∀ (j : Nat) t v, Tryz.f6.params[j]? = some t → args[j]? = some v → Value.okWide Tryz.prog W .any base t v)
    (hW : DataW.Whole enc Tryz.prog Tryz.f6.params.toList Rows.checkGraftsSpec.vars false W args.toList ds gs before) (hs : Rows.uptoSmall H (ds ++ gs) = true) (hL : laidMetH Tryz.prog Rows.checkGraftsUptoRow.laid W) :
    Calls Tryz.prog 6 args W fun e W' => ∃ v, e = .returned v ∧ Rows.checkGraftsSpec.post enc Tryz.prog Tryz.f6 false true false false W args v W' := by
  have hW' := hW
  obtain ⟨p, q, hA0, hV, rfl, hfz, hnd⟩ := hW
  have hA : DataW.TrodAll enc Tryz.prog W 0 (fun _ => true) true Tryz.f6.params.toList args.toList ds p := hA0
  rw [ps6] at hA
  obtain ⟨v0, vs0, d0, ds0, p0, q0, hargs, rfl, rfl, h0, r0⟩ := trodAll_cons hA
  obtain ⟨v1, vs1, d1, ds1, p1, q1, rfl, rfl, rfl, h1, r1⟩ := trodAll_cons r0
  obtain ⟨v2, vs2, d2, ds2, p2, q2, rfl, rfl, rfl, h2, r2⟩ := trodAll_cons r1
  obtain ⟨rfl, rfl, rfl⟩ := trodAll_nil r2
  obtain rfl : args = #[v0, v1, v2] := by cases args; simp_all
  obtain ⟨rfl, rfl⟩ := trodVars_none hV
  have hs' : Rows.uptoBulk d0 + (Rows.uptoBulk d1 + (Rows.uptoBulk d2 + 0)) ≤ 1048576 := of_decide_eq_true hs
  obtain ⟨X, D, rfl, hX, hsX⟩ := gStepOf (by omega) h0
  obtain ⟨T, E, rfl, hT, hsT⟩ := gStepOf (by omega) h1
  have hv2 : Value.okWide Tryz.prog W .any base 40 v2 := hval 2 40 v2 (by rw [ps6]; rfl) rfl
  obtain ⟨pq, n, c, l, rfl, hP, hc, hm⟩ := gPathOf hv2 (by omega) h2
  obtain rfl : l.length = n := hP.1
  refine (grafts_ok hX hsX hT hsT hP hc hm fun w1 hb => awake_calls (tab_below (gTabOf hL) hb)).mono fun e W' he => ?_
  obtain ⟨rfl, hb⟩ := he
  refine ⟨_, rfl, post_true laidOut ?_ rfl ⟨rfl, rfl, rfl⟩ (tb := 4) (by kernel_rfl) uBool hW' hb⟩
  intro t ht
  rw [ps6] at ht
  have : t = 32 ∨ t = 40 := by simpa using ht
  rcases this with rfl | rfl
  · exact ⟨q1s, by decide +kernel⟩
  · exact ⟨qp1, by decide +kernel⟩

def gWargs : Array Value := #[.agg #[.int .i64 0, .string ⟨#[]⟩, .string ⟨#[]⟩, .bool false, .slice none 0 0, .slice none 0 0, .int .i64 0, .int .i64 0, .int .i64 0, .int .i64 0, .int .i64 0, .bool false, .slice none 0 0, .slice none 0 0, .string ⟨#[]⟩, .slice none 0 0, .slice none 0 0, .string ⟨#[]⟩, .int .i64 0, .slice none 0 0, .slice none 0 0], .agg #[.int .i64 0, .string ⟨#[]⟩, .string ⟨#[]⟩, .bool false, .slice none 0 0, .slice none 0 0, .int .i64 0, .int .i64 0, .int .i64 0, .int .i64 0, .int .i64 0, .bool false, .slice none 0 0, .slice none 0 0, .string ⟨#[]⟩, .slice none 0 0, .slice none 0 0, .string ⟨#[]⟩, .int .i64 0, .slice none 0 0, .slice none 0 0], .slice none 0 0]
theorem gLaidMet (os : Os) : laidMet Tryz.prog Rows.checkGraftsUptoRow.laid ((laidWorld os).forCall (fun _ _ => 0) ⟨#[], gWargs, []⟩).memory :=
  laidMet_of_run' 8 (by kernel_rfl) (by kernel_rfl)
theorem gReads (os : Os) {H : Type} (enc : TypeId × Value → H) : ∃ places, DataW.whole enc Tryz.prog ((laidWorld os).forCall (fun _ _ => 0) ⟨#[], gWargs, []⟩).memory Tryz.f6.params.toList Rows.checkGraftsSpec.vars false gWargs.toList 8 = some ([.agg [.lit (.int .i64 0), .lit (.string []), .lit (.string []), .agg [.lit (.bool false), .nil, .nil], .lit (.int .i64 0), .lit (.int .i64 0), .lit (.int .i64 0), .agg [.lit (.int .i64 0), .lit (.int .i64 0), .agg [.lit (.bool false), .nil, .nil], .lit (.string []), .nil], .nil, .lit (.string []), .lit (.int .i64 0), .nil, .nil], .agg [.lit (.int .i64 0), .lit (.string []), .lit (.string []), .agg [.lit (.bool false), .nil, .nil], .lit (.int .i64 0), .lit (.int .i64 0), .lit (.int .i64 0), .agg [.lit (.int .i64 0), .lit (.int .i64 0), .agg [.lit (.bool false), .nil, .nil], .lit (.string []), .nil], .nil, .lit (.string []), .lit (.int .i64 0), .nil, .nil], .nil], [], places) :=
  ⟨[], by kernel_rfl⟩

set_option maxRecDepth 100000 in
theorem gLifted (os : Os) (started : os.Started) (H : Type) (enc : TypeId × Value → H) (F : Stop.Interp) :
    ReturnsInHanded {} Tryz.checked os 6 .any ((Rows.OpenSpec.upto Rows.checkGraftsSpec).preRow enc Tryz.prog Tryz.f6 Rows.checkGraftsUptoRow.domain false Rows.checkGraftsUptoRow.laid) (((Rows.OpenSpec.upto Rows.checkGraftsSpec).at F).post enc Tryz.prog Tryz.f6 false true false false) := by
  obtain ⟨places, hx⟩ := gReads os enc
  refine returnsInHanded_of_row (C := Tryz.checked) (s := Rows.OpenSpec.upto Rows.checkGraftsSpec) own started (by kernel_rfl) fn6
    (witness_row_at (enc := enc) (C := Tryz.checked) false (laidWorld os) gWargs rfl (by kernel_rfl) (by kernel_rfl) (by kernel_rfl)
      (OpenSpec.preRow_of_cond 8 hx (by kernel_rfl) (fun k hk => by cases hk; kernel_rfl) (by kernel_rfl) (gLaidMet os))) ?_
  intro W base args ds gs before hval hW _ hk _ hL _ _
  exact gContract H enc W base args ds gs before hval hW (hk _ rfl) hL

theorem ts6 : Tryz.f6.params.toList ++ (Rows.OpenSpec.upto Rows.checkGraftsSpec).bare.plain.varTypes Tryz.prog = [32, 32, 40] := by kernel_rfl
theorem rs6 : Tryz.f6.resultTypes = #[4] := by kernel_rfl
theorem b1 : Tryz.f6.params.all (Tryz.prog.readableRec ·) = true := by rw [ps6]; simp [q1s, qp1]
theorem b2 : ([32, 32, 40] : List Nat).any (Tryz.prog.mapsRec ·) = false := by simp [q2, qp2]
theorem b3 : ([32, 32, 40] : List Nat).any (Tryz.prog.ifacesRec ·) = false := by simp [q3, qp3]
theorem b4 : ([32, 32, 40] : List Nat).any (Tryz.prog.loopsFrom ·) = true := by simp [q4]
theorem b5 : ([32, 32, 40] ++ (#[4] : Array Nat).toList : List Nat).any (Tryz.prog.wideKeysFrom ·) = false := by simp [q5, qp5, r5]
theorem b6 : ([32, 32, 40] ++ (#[4] : Array Nat).toList : List Nat).any (Tryz.prog.veiledRec ·) = false := by simp [q6, qp6, r6]
theorem gClosed : joinedFacts Tryz.prog 6 Tryz.f6 (Rows.OpenSpec.upto Rows.checkGraftsSpec).bare Rows.checkGraftsUptoRow = true := by
  unfold joinedFacts
  rw [inp6, unf6, rec6, var6, laidOut, rowed, b1, p1, p2, ts6, b2, b3, b4, rs6, b5, b6, a7, a8, a9, p4, p5]
  kernel_rfl

set_option maxRecDepth 100000 in
theorem gSaid : Rows.CheckGraftsUptoSaid :=
  OpenClaim.holds_of_cond 6 Tryz.f6 rfl rfl rfl rfl rfl rfl rfl ⟨rfl, rfl, rfl, rfl, rfl⟩ rfl rfl rfl rfl rfl (by kernel_rfl) fn6 gClosed
    (of_decide_eq_true (by kernel_rfl)) (by unfold Func.isWrapper; first | (rw [if_pos (by decide +kernel)]; kernel_rfl) | (rw [if_neg (by decide +kernel)]; exact ⟨rfl, rfl⟩))
    (fun os started H enc _ F => by rw [OpenClaim.pre_eq_preRow]; exact gLifted os started H enc F)
end Go.Proofs.YtlmifjdbjhcceaaGreatDoor
