/-
  LibraryInverse returns true for every library whose data are of bulk at most 1048576, and every two bytes.
-/
import Derived.Test.YtfhjhnofkaiceaaGreatDoorFiB
import Derived.Test.YtfhjhnofkaiceaaGreatDoorIvClos
import Derived.Test.YtfhjhnofkaiceaaGreatDoorLbI
namespace Go.Proofs.YtfhjhnofkaiceaaGreatDoor
open Go Go.Proofs.YtfhjhnofkaiceaaGreatDoor.Gx Go.ChangeShapes Go.WideShapes Go.ChangeAt Go.RowKit

theorem fn5 : Tryz.prog.funcs[5]? = some Tryz.f5 := by kernel_rfl
theorem ps5 : Tryz.f5.params = #[22, 5, 5] := by kernel_rfl
theorem tabOf5 {w : World} (h : laidMetH Tryz.prog Rows.libraryInverseUptoRow.laid w) : Lib.TabIs Tryz.prog w "math/bits.deBruijn32tab" .u8 zs32 :=
  Lib.tabIs_of_head gTab gTabType uTab uByte cell8 cTab h

set_option maxRecDepth 100000 in
theorem contract5 (H : Type) (enc : TypeId × Value → H) (W : World) (base : Nat) (args : Array Value) (ds gs : List (DataW H)) (before : List MemPlace)
    (hval : ∀ (j : Nat) t v, Tryz.f5.params[j]? = some t → args[j]? = some v → Value.okWide Tryz.prog W .any base t v)
    (hW : DataW.Whole enc Tryz.prog Tryz.f5.params.toList Rows.libraryInverseSpec.vars false W args.toList ds gs before) (hs : Rows.uptoSmall H (ds ++ gs) = true) (hL : laidMetH Tryz.prog Rows.libraryInverseUptoRow.laid W) :
    Calls Tryz.prog 5 args W fun e W' => ∃ v, e = .returned v ∧ Rows.libraryInverseSpec.post enc Tryz.prog Tryz.f5 false true false false W args v W' := by
  have hW' := hW
  obtain ⟨p, q, hA0, hV, rfl, hfz, hnd⟩ := hW
  have hA : DataW.TrodAll enc Tryz.prog W 0 (fun _ => true) true Tryz.f5.params.toList args.toList ds p := hA0
  rw [ps5] at hA
  obtain ⟨v0, vs0, d0, ds0, p0, q0, hargs, rfl, rfl, h0, r0⟩ := trodAll_cons hA
  obtain ⟨v1, vs1, d1, ds1, p1, q1, rfl, rfl, rfl, h1, r1⟩ := trodAll_cons r0
  obtain ⟨v2, vs2, d2, ds2, p2, q2, rfl, rfl, rfl, h2, r2⟩ := trodAll_cons r1
  obtain ⟨rfl, rfl, rfl⟩ := trodAll_nil r2
  obtain rfl : args = #[v0, v1, v2] := by cases args; simp_all
  obtain ⟨rfl, rfl⟩ := trodVars_none hV
  have hs' : Rows.uptoBulk d0 + (Rows.uptoBulk d1 + (Rows.uptoBulk d2 + 0)) ≤ 1048576 := of_decide_eq_true hs
  have hv0 : Value.okWide Tryz.prog W .any base 22 v0 := hval 0 22 v0 (by rw [ps5]; rfl) rfl
  obtain ⟨f0, hf0⟩ := h0
  obtain ⟨q9, n9, c9, L, U, e0, hLib, hLu⟩ := open_lib (bulk_bk H) (bulk_bs H) (x := (d0, p0)) (Nat.le_trans (Nat.le_add_right _ _) hs') hf0
  obtain rfl := cells_slice hv0 e0
  have hv1 : Value.okWide Tryz.prog W .any base 5 v1 := hval 1 5 v1 (by rw [ps5]; rfl) rfl
  have hv2 : Value.okWide Tryz.prog W .any base 5 v2 := hval 2 5 v2 (by rw [ps5]; rfl) rfl
  obtain ⟨f1, hf1⟩ := h1
  obtain ⟨x1, e1, x10, x11⟩ := open_byte hf1
  obtain rfl := cells_u8 hv1 e1
  obtain ⟨f2, hf2⟩ := h2
  obtain ⟨x2, e2, x20, x21⟩ := open_byte hf2
  obtain rfl := cells_u8 hv2 e2
  refine (inverse_lib_ok c9 hLib hLu x10 x11 x20 x21 fun w1 hb => awake_calls (tab_below (tabOf5 hL) hb)).mono fun e W' he => ?_
  obtain ⟨rfl, hb⟩ := he
  refine ⟨_, rfl, post_true laidOut ?_ rfl ⟨rfl, rfl, rfl⟩ (tb := 4) (by kernel_rfl) uBool hW' hb⟩
  intro t ht
  rw [ps5] at ht
  have : t = 22 ∨ t = 5 := by simpa using ht
  rcases this with rfl | rfl
  · exact ⟨qr22, by decide +kernel⟩
  · exact ⟨qr5, by decide +kernel⟩

def wargs5 : Array Value := #[.slice none 0 0, .int .u8 0, .int .u8 0]
theorem laidMet5 (os : Os) : laidMet Tryz.prog Rows.libraryInverseUptoRow.laid ((laidWorld os).forCall (fun _ _ => 0) ⟨#[], wargs5, []⟩).memory :=
  laidMet_of_run' 8 (by kernel_rfl) (by kernel_rfl)
theorem reads5 (os : Os) {H : Type} (enc : TypeId × Value → H) : ∃ places, DataW.whole enc Tryz.prog ((laidWorld os).forCall (fun _ _ => 0) ⟨#[], wargs5, []⟩).memory Tryz.f5.params.toList Rows.libraryInverseSpec.vars false wargs5.toList 8 = some ([.nil, .lit (.int .u8 0), .lit (.int .u8 0)], [], places) :=
  ⟨[], by kernel_rfl⟩

set_option maxRecDepth 100000 in
theorem lifted5 (os : Os) (started : os.Started) (H : Type) (enc : TypeId × Value → H) (F : Stop.Interp) :
    ReturnsInHanded {} Tryz.checked os 5 .any ((Rows.OpenSpec.upto Rows.libraryInverseSpec).preRow enc Tryz.prog Tryz.f5 Rows.libraryInverseUptoRow.domain false Rows.libraryInverseUptoRow.laid) (((Rows.OpenSpec.upto Rows.libraryInverseSpec).at F).post enc Tryz.prog Tryz.f5 false true false false) := by
  obtain ⟨places, hx⟩ := reads5 os enc
  refine returnsInHanded_of_row (C := Tryz.checked) (s := Rows.OpenSpec.upto Rows.libraryInverseSpec) own started (by kernel_rfl) fn5
    (witness_row_at (enc := enc) (C := Tryz.checked) false (laidWorld os) wargs5 rfl (by kernel_rfl) (by kernel_rfl) (by kernel_rfl)
      (OpenSpec.preRow_of_cond 8 hx (by kernel_rfl) (fun k hk => by cases hk; kernel_rfl) (by kernel_rfl) (laidMet5 os))) ?_
  intro W base args ds gs before hval hW _ hk _ hL _ _
  exact contract5 H enc W base args ds gs before hval hW (hk _ rfl) hL

theorem ts5 : Tryz.f5.params.toList ++ (Rows.OpenSpec.upto Rows.libraryInverseSpec).bare.plain.varTypes Tryz.prog = [22, 5, 5] := by kernel_rfl
theorem rst5 : Tryz.f5.resultTypes = #[4] := by kernel_rfl
theorem b1_5 : Tryz.f5.params.all (Tryz.prog.readableRec ·) = true := by rw [ps5]; simp [qr22, qr5]
theorem b2_5 : ([22, 5, 5] : List Nat).any (Tryz.prog.mapsRec ·) = false := by simp [qm22, qm5]
theorem b3_5 : ([22, 5, 5] : List Nat).any (Tryz.prog.ifacesRec ·) = false := by simp [qi22, qi5]
theorem b4_5 : ([22, 5, 5] : List Nat).any (Tryz.prog.loopsFrom ·) = true := by simp [ql22]
theorem b5_5 : ([22, 5, 5] ++ (#[4] : Array Nat).toList : List Nat).any (Tryz.prog.wideKeysFrom ·) = false := by simp [qw22, qw5, r5]
theorem b6_5 : ([22, 5, 5] ++ (#[4] : Array Nat).toList : List Nat).any (Tryz.prog.veiledRec ·) = false := by simp [qv22, qv5, r6]
theorem b8_5 : (#[4] : Array Nat).toList.any (Tryz.prog.ifacesRec ·) = false := by simp [r3]
theorem b9_5 : (#[4] : Array Nat).toList.any (Tryz.prog.loopsFrom ·) = false := by simp [r4]
theorem closed5 : joinedFacts Tryz.prog 5 Tryz.f5 (Rows.OpenSpec.upto Rows.libraryInverseSpec).bare Rows.libraryInverseUptoRow = true := by
  unfold joinedFacts
  rw [inp5, unf5, rec5, var5, laidOut, rowed, b1_5, p1, p2, ts5, b2_5, b3_5, b4_5, rst5, b5_5, b6_5, rs4, b8_5, b9_5, p4, p5, p6]
  kernel_rfl

set_option maxRecDepth 100000 in
theorem said5 : Rows.LibraryInverseUptoSaid :=
  OpenClaim.holds_of_cond 5 Tryz.f5 rfl rfl rfl rfl rfl rfl rfl ⟨rfl, rfl, rfl, rfl, rfl⟩ rfl rfl rfl rfl rfl (by kernel_rfl) fn5 closed5
    (of_decide_eq_true (by kernel_rfl)) (by unfold Func.isWrapper; first | (rw [if_pos (by decide +kernel)]; kernel_rfl) | (rw [if_neg (by decide +kernel)]; exact ⟨rfl, rfl⟩))
    (fun os started H enc _ F => by rw [OpenClaim.pre_eq_preRow]; exact lifted5 os started H enc F)
end Go.Proofs.YtfhjhnofkaiceaaGreatDoor
