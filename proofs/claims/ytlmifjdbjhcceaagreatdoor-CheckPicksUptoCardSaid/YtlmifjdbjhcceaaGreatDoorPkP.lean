/-
  CheckPicks returns true for every two steps and every path whose data are of bulk at most 1048576.
-/
import Derived.Test.YtlmifjdbjhcceaaGreatDoorEqP
import Derived.Test.YtlmifjdbjhcceaaGreatDoorPkClos
import Derived.Test.YtlmifjdbjhcceaaGreatDoorDvQ
namespace Go.Proofs.YtlmifjdbjhcceaaGreatDoor
open Go Go.Proofs.YtlmifjdbjhcceaaGreatDoor.Gx Go.ChangeShapes Go.WideShapes Go.ChangeAt Go.RowKit

theorem q1s : Tryz.prog.readableRec 32 = true := q1
theorem fn5 : Tryz.prog.funcs[5]? = some Tryz.f5 := by kernel_rfl
theorem ps5 : Tryz.f5.params = #[32, 32, 40] := by kernel_rfl

theorem kTabOf {w : World} (h : laidMetH Tryz.prog Rows.checkPicksUptoRow.laid w) : Lib.TabIs Tryz.prog w "math/bits.deBruijn32tab" .u8 zs32 :=
  Lib.tabIs_of_head gTab gTabType uTab uByte cell8 cTab h

/-- An argument, opened. -/
theorem kStepOf {H : Type} {enc : TypeId × Value → H} {W : World} {v : Value} {d : DataW H} {p : List MemPlace} (hs : Rows.uptoBulk d ≤ 1048576) (h : DataW.Trod enc Tryz.prog W 0 (fun _ => true) true 32 v d p) :
    ∃ (X : St) (D : Sd), v = D.val ∧ StOk W X D ∧ StSmall X := by
  obtain ⟨fuel, hf⟩ := h
  obtain ⟨X, D, hc, hok, hsm⟩ := open_stepS (bulk_bk H) fuel _ (d, p) hs hf
  refine ⟨X, D, ?_, hok, hsm⟩
  cases v with
  | agg cs =>
    simp only [Value.cells] at hc
    unfold Sd.val
    rw [← hc]
  | _ => simp [Value.cells, Sd.cells] at hc
set_option maxRecDepth 100000 in
theorem kPathForm {W : World} {base : Nat} {cs : Array Value} (hv : Value.okWide Tryz.prog W .any base 40 (.agg cs)) : False := by
  simp [Value.okWide, Cell.okWide, Cell.ok] at hv
set_option maxRecDepth 100000 in
theorem kPathOf {base : Nat} {H : Type} {enc : TypeId × Value → H} {W : World} {v : Value} {d : DataW H} {p : List MemPlace} (hv : Value.okWide Tryz.prog W .any base 40 v) (hs : Rows.uptoBulk d ≤ 1048576) (h : DataW.Trod enc Tryz.prog W 0 (fun _ => true) true 40 v d p) :
    ∃ q n c l, v = .slice q n c ∧ PaOk W q n l ∧ n ≤ c ∧ c ≤ maxLen := by
  obtain ⟨fuel, hf⟩ := h
  obtain ⟨q, n, c, l, hc, h1, h2, h3⟩ := open_path (bulk_bk H) (x := (d, p)) hs hf
  refine ⟨q, n, c, l, ?_, h1, h2, h3⟩
  cases v with
  | agg cs => exact (kPathForm hv).elim
  | _ => clear hv; simp_all [Value.cells]

set_option maxRecDepth 100000 in
theorem kContract (H : Type) (enc : TypeId × Value → H) (W : World) (base : Nat) (args : Array Value) (ds gs : List (DataW H)) (before : List MemPlace)
    (hval : ∀ (j : Nat) t v, Tryz.f5.params[j]? = some t → args[j]? = some v → Value.okWide Tryz.prog W .any base t v)
    (hW : DataW.Whole enc Tryz.prog Tryz.f5.params.toList Rows.checkPicksSpec.vars false W args.toList ds gs before) (hs : Rows.uptoSmall H (ds ++ gs) = true) (hL : laidMetH Tryz.prog Rows.checkPicksUptoRow.laid W) :
    Calls Tryz.prog 5 args W fun e W' => ∃ v, e = .returned v ∧ Rows.checkPicksSpec.post enc Tryz.prog Tryz.f5 false true false false W args v W' := by
  have hW' := hW
  obtain ⟨p, q, hA0, hV, rfl, hfz, hnd⟩ := hW
  have hA : DataW.TrodAll enc Tryz.prog W 0 (fun _ => true) true Tryz.f5.params.toList args.toList ds p := hA0
  rw [ps5] at hA
  obtain ⟨v0, vs0, d0, ds0, p0, q0, hargs, rfl, rfl, h0, r0⟩ := trodAll_cons hA
  obtain ⟨v1, vs1, d1, ds1, p1, q1, rfl, rfl, rfl, h1, r1⟩ := trodAll_cons r0
  obtain ⟨v2, vs2, d2, ds2, p2, q2, rfl, rfl, rfl, h2, r2⟩ := trodAll_cons r1
  obtain ⟨rfl, rfl, rfl⟩ := trodAll_nil r2
  obtain rfl : args = #[v0, v1, v2] := by cases args; simp_all
  obtain ⟨rfl, rfl⟩ := trodVars_none hV
  have hs' : Rows.uptoBulk d0 + (Rows.uptoBulk d1 + (Rows.uptoBulk d2 + 0)) ≤ 1048576 := of_decide_eq_true hs
  obtain ⟨X, D, rfl, hX, hsX⟩ := kStepOf (by omega) h0
  obtain ⟨T, E, rfl, hT, hsT⟩ := kStepOf (by omega) h1
  have hv2 : Value.okWide Tryz.prog W .any base 40 v2 := hval 2 40 v2 (by rw [ps5]; rfl) rfl
  obtain ⟨pq, n, c, l, rfl, hP, hc, hm⟩ := kPathOf hv2 (by omega) h2
  obtain rfl : l.length = n := hP.1
  refine (picks_ok hX hsX hT hsT hP hc hm fun w1 hb => awake_calls (tab_below (kTabOf hL) hb)).mono fun e W' he => ?_
  obtain ⟨rfl, hb⟩ := he
  refine ⟨_, rfl, post_true laidOut ?_ rfl ⟨rfl, rfl, rfl⟩ (tb := 4) (by kernel_rfl) uBool hW' hb⟩
  intro t ht
  rw [ps5] at ht
  have : t = 32 ∨ t = 40 := by simpa using ht
  rcases this with rfl | rfl
  · exact ⟨q1s, by decide +kernel⟩
  · exact ⟨qp1, by decide +kernel⟩

def kWargs : Array Value := #[.agg #[.int .i64 0, .string ⟨#[]⟩, .string ⟨#[]⟩, .bool false, .slice none 0 0, .slice none 0 0, .int .i64 0, .int .i64 0, .int .i64 0, .int .i64 0, .int .i64 0, .bool false, .slice none 0 0, .slice none 0 0, .string ⟨#[]⟩, .slice none 0 0, .slice none 0 0, .string ⟨#[]⟩, .int .i64 0, .slice none 0 0, .slice none 0 0], .agg #[.int .i64 0, .string ⟨#[]⟩, .string ⟨#[]⟩, .bool false, .slice none 0 0, .slice none 0 0, .int .i64 0, .int .i64 0, .int .i64 0, .int .i64 0, .int .i64 0, .bool false, .slice none 0 0, .slice none 0 0, .string ⟨#[]⟩, .slice none 0 0, .slice none 0 0, .string ⟨#[]⟩, .int .i64 0, .slice none 0 0, .slice none 0 0], .slice none 0 0]
theorem kLaidMet (os : Os) : laidMet Tryz.prog Rows.checkPicksUptoRow.laid ((laidWorld os).forCall (fun _ _ => 0) ⟨#[], kWargs, []⟩).memory :=
  laidMet_of_run' 8 (by kernel_rfl) (by kernel_rfl)
theorem kReads (os : Os) {H : Type} (enc : TypeId × Value → H) : ∃ places, DataW.whole enc Tryz.prog ((laidWorld os).forCall (fun _ _ => 0) ⟨#[], kWargs, []⟩).memory Tryz.f5.params.toList Rows.checkPicksSpec.vars false kWargs.toList 8 = some ([.agg [.lit (.int .i64 0), .lit (.string []), .lit (.string []), .agg [.lit (.bool false), .nil, .nil], .lit (.int .i64 0), .lit (.int .i64 0), .lit (.int .i64 0), .agg [.lit (.int .i64 0), .lit (.int .i64 0), .agg [.lit (.bool false), .nil, .nil], .lit (.string []), .nil], .nil, .lit (.string []), .lit (.int .i64 0), .nil, .nil], .agg [.lit (.int .i64 0), .lit (.string []), .lit (.string []), .agg [.lit (.bool false), .nil, .nil], .lit (.int .i64 0), .lit (.int .i64 0), .lit (.int .i64 0), .agg [.lit (.int .i64 0), .lit (.int .i64 0), .agg [.lit (.bool false), .nil, .nil], .lit (.string []), .nil], .nil, .lit (.string []), .lit (.int .i64 0), .nil, .nil], .nil], [], places) :=
  ⟨[], by kernel_rfl⟩

set_option maxRecDepth 100000 in
theorem kLifted (os : Os) (started : os.Started) (H : Type) (enc : TypeId × Value → H) (F : Stop.Interp) :
    ReturnsInHanded {} Tryz.checked os 5 .any ((Rows.OpenSpec.upto Rows.checkPicksSpec).preRow enc Tryz.prog Tryz.f5 Rows.checkPicksUptoRow.domain false Rows.checkPicksUptoRow.laid) (((Rows.OpenSpec.upto Rows.checkPicksSpec).at F).post enc Tryz.prog Tryz.f5 false true false false) := by
  obtain ⟨places, hx⟩ := kReads os enc
  refine returnsInHanded_of_row (C := Tryz.checked) (s := Rows.OpenSpec.upto Rows.checkPicksSpec) own started (by kernel_rfl) fn5
    (witness_row_at (enc := enc) (C := Tryz.checked) false (laidWorld os) kWargs rfl (by kernel_rfl) (by kernel_rfl) (by kernel_rfl)
      (OpenSpec.preRow_of_cond 8 hx (by kernel_rfl) (fun k hk => by cases hk; kernel_rfl) (by kernel_rfl) (kLaidMet os))) ?_
  intro W base args ds gs before hval hW _ hk _ hL _ _
  exact kContract H enc W base args ds gs before hval hW (hk _ rfl) hL

theorem ts5 : Tryz.f5.params.toList ++ (Rows.OpenSpec.upto Rows.checkPicksSpec).bare.plain.varTypes Tryz.prog = [32, 32, 40] := by kernel_rfl
theorem rs5 : Tryz.f5.resultTypes = #[4] := by kernel_rfl
theorem b1 : Tryz.f5.params.all (Tryz.prog.readableRec ·) = true := by rw [ps5]; simp [q1s, qp1]
theorem b2 : ([32, 32, 40] : List Nat).any (Tryz.prog.mapsRec ·) = false := by simp [q2, qp2]
theorem b3 : ([32, 32, 40] : List Nat).any (Tryz.prog.ifacesRec ·) = false := by simp [q3, qp3]
theorem b4 : ([32, 32, 40] : List Nat).any (Tryz.prog.loopsFrom ·) = true := by simp [q4]
theorem b5 : ([32, 32, 40] ++ (#[4] : Array Nat).toList : List Nat).any (Tryz.prog.wideKeysFrom ·) = false := by simp [q5, qp5, r5]
theorem b6 : ([32, 32, 40] ++ (#[4] : Array Nat).toList : List Nat).any (Tryz.prog.veiledRec ·) = false := by simp [q6, qp6, r6]
theorem kClosed : joinedFacts Tryz.prog 5 Tryz.f5 (Rows.OpenSpec.upto Rows.checkPicksSpec).bare Rows.checkPicksUptoRow = true := by
  unfold joinedFacts
  rw [inp5, unf5, rec5, var5, laidOut, rowed, b1, p1, p2, ts5, b2, b3, b4, rs5, b5, b6, a7, a8, a9, p4, p5]
  kernel_rfl

set_option maxRecDepth 100000 in
theorem kSaid : Rows.CheckPicksUptoSaid :=
  OpenClaim.holds_of_cond 5 Tryz.f5 rfl rfl rfl rfl rfl rfl rfl ⟨rfl, rfl, rfl, rfl, rfl⟩ rfl rfl rfl rfl rfl (by kernel_rfl) fn5 kClosed
    (of_decide_eq_true (by kernel_rfl)) (by unfold Func.isWrapper; first | (rw [if_pos (by decide +kernel)]; kernel_rfl) | (rw [if_neg (by decide +kernel)]; exact ⟨rfl, rfl⟩))
    (fun os started H enc _ F => by rw [OpenClaim.pre_eq_preRow]; exact kLifted os started H enc F)
end Go.Proofs.YtlmifjdbjhcceaaGreatDoor
