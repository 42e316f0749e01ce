import Derived.Test.YtaonejnicgbifaaGreatDoorPk30
namespace Go.Proofs.YtaonejnicgbifaaGreatDoor
open Go Go.RowKit

set_option maxRecDepth 100000 in
set_option maxHeartbeats 16000000 in
/-- LibraryReflexive where no entry has the key. -/
theorem refl_none {w : World} {q : Option Addr} {n c : Nat} {kn : ByteArray} {kv : Int} {t stc : Bool} {ec : Int} {C : Cl} {DC : Cd} {cd : Nat → Nd} (h8 : (∀ z, Below w.heap.size w z → Calls Tryz.prog 8 #[.slice q n c, .agg #[.string kn, .int .i64 kv]] z fun e w' => e = .returned (.tuple #[.int .i64 0, .bool false]) ∧ Below z.heap.size z w')) (h5 : (∀ z, Below w.heap.size w z → Calls Tryz.prog 5 #[.slice q n c, .agg #[.string kn, .int .i64 kv], .agg #[.int .i64 DC.d.k, .int .i64 DC.d.f, .bool DC.d.neg, .slice DC.d.aq DC.d.an DC.d.ac, .slice DC.d.cq DC.d.cn DC.d.cc, .string DC.d.m, .slice DC.d.sq DC.d.sn DC.d.sc, .bool stc, .slice DC.bq C.nb DC.bc, .slice DC.cq C.nc DC.cc]] z fun e w' => e = .returned (.tuple #[.bool t, .int .i64 ec]) ∧ Below z.heap.size z w')) (he : ec = 0 ∨ ec = 60 ∨ ec = 90) (hD : t = true → ec = 0 → C.nc < 12 → ∀ z q' c', Below w.heap.size w z → CosOk z q' (C.nc + 1) C.plus.cs → Calls Tryz.prog 5 #[.slice q n c, .agg #[.string kn, .int .i64 kv], .agg #[.int .i64 DC.d.k, .int .i64 DC.d.f, .bool DC.d.neg, .slice DC.d.aq DC.d.an DC.d.ac, .slice DC.d.cq DC.d.cn DC.d.cc, .string DC.d.m, .slice DC.d.sq DC.d.sn DC.d.sc, .bool false, .slice DC.bq C.nb DC.bc, .slice q' (C.nc + 1) c']] z fun e w' => e = .returned (.tuple #[.bool true, .int .i64 0]) ∧ Below z.heap.size z w') (hA : (∀ z, Below w.heap.size w z → Calls Tryz.prog 7 #[] z fun e w' => e = .returned (.bool true) ∧ Below z.heap.size z w')) (hnc : C.nc ≤ 1048576) (hcd : C.nc = 0 ∨ ∃ b o, DC.cq = some ⟨b, o, none⟩ ∧ b < w.heap.size ∧ ∀ i, i < C.nc → w.rangeAt b (o + i * 8) ((C.cs i).cells (cd i))) (hcx : ∀ i, i < C.nc → ExOk w (C.cs i).x (cd i)) (hgx : ExOk w C.goal DC.d) :
    Calls Tryz.prog 4 #[.slice q n c, .agg #[.string kn, .int .i64 kv], .agg #[.int .i64 DC.d.k, .int .i64 DC.d.f, .bool DC.d.neg, .slice DC.d.aq DC.d.an DC.d.ac, .slice DC.d.cq DC.d.cn DC.d.cc, .string DC.d.m, .slice DC.d.sq DC.d.sn DC.d.sc, .bool stc, .slice DC.bq C.nb DC.bc, .slice DC.cq C.nc DC.cc]] w fun e w' => e = .returned (.bool true) ∧ Below w.heap.size w w' := by
  have W1 : Hid (Below w.heap.size w ((w.alloc (.cells #[.string kn, .int .i64 kv] 24)).alloc (.cells #[.int .i64 DC.d.k, .int .i64 DC.d.f, .bool DC.d.neg, .slice DC.d.aq DC.d.an DC.d.ac, .slice DC.d.cq DC.d.cn DC.d.cc, .string DC.d.m, .slice DC.d.sq DC.d.sn DC.d.sc, .bool stc, .slice DC.bq C.nb DC.bc, .slice DC.cq C.nc DC.cc] 34))) := below_two w _ _
  have J0 : Hid (BlkI ((w.alloc (.cells #[.string kn, .int .i64 kv] 24)).alloc (.cells #[.int .i64 DC.d.k, .int .i64 DC.d.f, .bool DC.d.neg, .slice DC.d.aq DC.d.an DC.d.ac, .slice DC.d.cq DC.d.cn DC.d.cc, .string DC.d.m, .slice DC.d.sq DC.d.sn DC.d.sc, .bool stc, .slice DC.bq C.nb DC.bc, .slice DC.cq C.nc DC.cc] 34)) (w.heap.size + 1) 34 #[.int .i64 DC.d.k, .int .i64 DC.d.f, .bool DC.d.neg, .slice DC.d.aq DC.d.an DC.d.ac, .slice DC.d.cq DC.d.cn DC.d.cc, .string DC.d.m, .slice DC.d.sq DC.d.sn DC.d.sc, .bool stc, .slice DC.bq C.nb DC.bc, .slice DC.cq C.nc DC.cc]) := by
    have h : BlkI ((w.alloc (.cells #[.string kn, .int .i64 kv] 24)).alloc (.cells #[.int .i64 DC.d.k, .int .i64 DC.d.f, .bool DC.d.neg, .slice DC.d.aq DC.d.an DC.d.ac, .slice DC.d.cq DC.d.cn DC.d.cc, .string DC.d.m, .slice DC.d.sq DC.d.sn DC.d.sc, .bool stc, .slice DC.bq C.nb DC.bc, .slice DC.cq C.nc DC.cc] 34)) (w.alloc (.cells #[.string kn, .int .i64 kv] 24)).heap.size 34 #[.int .i64 DC.d.k, .int .i64 DC.d.f, .bool DC.d.neg, .slice DC.d.aq DC.d.an DC.d.ac, .slice DC.d.cq DC.d.cn DC.d.cc, .string DC.d.m, .slice DC.d.sq DC.d.sn DC.d.sc, .bool stc, .slice DC.bq C.nb DC.bc, .slice DC.cq C.nc DC.cc] := heap_alloc_new _ _
    rwa [show (w.alloc (.cells #[.string kn, .int .i64 kv] 24)).heap.size = w.heap.size + 1 by simp] at h
  have K0 : Hid (BlkI ((w.alloc (.cells #[.string kn, .int .i64 kv] 24)).alloc (.cells #[.int .i64 DC.d.k, .int .i64 DC.d.f, .bool DC.d.neg, .slice DC.d.aq DC.d.an DC.d.ac, .slice DC.d.cq DC.d.cn DC.d.cc, .string DC.d.m, .slice DC.d.sq DC.d.sn DC.d.sc, .bool stc, .slice DC.bq C.nb DC.bc, .slice DC.cq C.nc DC.cc] 34)) w.heap.size 24 #[.string kn, .int .i64 kv]) := by
    have h : BlkI (w.alloc (.cells #[.string kn, .int .i64 kv] 24)) w.heap.size 24 #[.string kn, .int .i64 kv] := heap_alloc_new _ _
    exact h.below (below_alloc _ _)
  have x8 := h8 _ W1.out
  have h5 : Hid ((∀ z, Below w.heap.size w z → Calls Tryz.prog 5 #[.slice q n c, .agg #[.string kn, .int .i64 kv], .agg #[.int .i64 DC.d.k, .int .i64 DC.d.f, .bool DC.d.neg, .slice DC.d.aq DC.d.an DC.d.ac, .slice DC.d.cq DC.d.cn DC.d.cc, .string DC.d.m, .slice DC.d.sq DC.d.sn DC.d.sc, .bool stc, .slice DC.bq C.nb DC.bc, .slice DC.cq C.nc DC.cc]] z fun e w' => e = .returned (.tuple #[.bool t, .int .i64 ec]) ∧ Below z.heap.size z w')) := h5
  have hD : Hid (t = true → ec = 0 → C.nc < 12 → ∀ z q' c', Below w.heap.size w z → CosOk z q' (C.nc + 1) C.plus.cs → Calls Tryz.prog 5 #[.slice q n c, .agg #[.string kn, .int .i64 kv], .agg #[.int .i64 DC.d.k, .int .i64 DC.d.f, .bool DC.d.neg, .slice DC.d.aq DC.d.an DC.d.ac, .slice DC.d.cq DC.d.cn DC.d.cc, .string DC.d.m, .slice DC.d.sq DC.d.sn DC.d.sc, .bool false, .slice DC.bq C.nb DC.bc, .slice q' (C.nc + 1) c']] z fun e w' => e = .returned (.tuple #[.bool true, .int .i64 0]) ∧ Below z.heap.size z w') := hD
  have hA : Hid ((∀ z, Below w.heap.size w z → Calls Tryz.prog 7 #[] z fun e w' => e = .returned (.bool true) ∧ Below z.heap.size z w')) := hA
  have hcd : Hid (C.nc = 0 ∨ ∃ b o, DC.cq = some ⟨b, o, none⟩ ∧ b < w.heap.size ∧ ∀ i, i < C.nc → w.rangeAt b (o + i * 8) ((C.cs i).cells (cd i))) := hcd
  have hcx : Hid (∀ i, i < C.nc → ExOk w (C.cs i).x (cd i)) := hcx
  have hgx : Hid (ExOk w C.goal DC.d) := hgx
  clear h8
  go_enter Tryz.func4, Tryz.ntmps4
  go_upto_region 6 with (go_at_call 8; with_reducible refine x8.mono ?_; rintro x w2 ⟨rfl, hb2⟩)
  have W2 : Hid (Below w.heap.size w w2) := W1.out.trans (hb2.mono W1.out.size)
  have J2 : Hid (BlkI w2 (w.heap.size + 1) 34 #[.int .i64 DC.d.k, .int .i64 DC.d.f, .bool DC.d.neg, .slice DC.d.aq DC.d.an DC.d.ac, .slice DC.d.cq DC.d.cn DC.d.cc, .string DC.d.m, .slice DC.d.sq DC.d.sn DC.d.sc, .bool stc, .slice DC.bq C.nb DC.bc, .slice DC.cq C.nc DC.cc]) := J0.out.below hb2
  have K2 : Hid (BlkI w2 w.heap.size 24 #[.string kn, .int .i64 kv]) := K0.out.below hb2
  clear hb2 x8 W1 J0 K0
  have k0 : w2.cell? ⟨w.heap.size, 0, none⟩ = some (.string kn) := K2.out.cell 0
  have k1 : w2.cell? ⟨w.heap.size, 1, none⟩ = some (.int .i64 kv) := K2.out.cell 1
  have y0 : w2.cell? ⟨w.heap.size + 1, 0, none⟩ = some (.int .i64 DC.d.k) := J2.out.cell 0
  have y1 : w2.cell? ⟨w.heap.size + 1, 1, none⟩ = some (.int .i64 DC.d.f) := J2.out.cell 1
  have y2 : w2.cell? ⟨w.heap.size + 1, 2, none⟩ = some (.bool DC.d.neg) := J2.out.cell 2
  have y3 : w2.cell? ⟨w.heap.size + 1, 3, none⟩ = some (.slice DC.d.aq DC.d.an DC.d.ac) := J2.out.cell 3
  have y4 : w2.cell? ⟨w.heap.size + 1, 4, none⟩ = some (.slice DC.d.cq DC.d.cn DC.d.cc) := J2.out.cell 4
  have y5 : w2.cell? ⟨w.heap.size + 1, 5, none⟩ = some (.string DC.d.m) := J2.out.cell 5
  have y6 : w2.cell? ⟨w.heap.size + 1, 6, none⟩ = some (.slice DC.d.sq DC.d.sn DC.d.sc) := J2.out.cell 6
  have y7 : w2.cell? ⟨w.heap.size + 1, 7, none⟩ = some (.bool stc) := J2.out.cell 7
  have y8 : w2.cell? ⟨w.heap.size + 1, 8, none⟩ = some (.slice DC.bq C.nb DC.bc) := J2.out.cell 8
  have y9 : w2.cell? ⟨w.heap.size + 1, 9, none⟩ = some (.slice DC.cq C.nc DC.cc) := J2.out.cell 9
  have x5 := h5.out _ W2.out
  go_upto_region 7 with (go_at_call 5; with_reducible refine x5.mono ?_; rintro x w6 ⟨rfl, hb6⟩)
  have W6 : Hid (Below w.heap.size w w6) := W2.out.trans (hb6.mono W2.out.size)
  have J6 : Hid (BlkI w6 (w.heap.size + 1) 34 #[.int .i64 DC.d.k, .int .i64 DC.d.f, .bool DC.d.neg, .slice DC.d.aq DC.d.an DC.d.ac, .slice DC.d.cq DC.d.cn DC.d.cc, .string DC.d.m, .slice DC.d.sq DC.d.sn DC.d.sc, .bool stc, .slice DC.bq C.nb DC.bc, .slice DC.cq C.nc DC.cc]) := J2.out.below hb6
  have K6 : Hid (BlkI w6 w.heap.size 24 #[.string kn, .int .i64 kv]) := K2.out.below hb6
  clear k0 k1 y0 y1 y2 y3 y4 y5 y6 y7 y8 y9 hb6 J2 K2 W2 h5 x5
  have m9 : w6.cell? ⟨w.heap.size + 1, 9, none⟩ = some (.slice DC.cq C.nc DC.cc) := J6.out.cell 9
  go_cut [65] from 54 to 65 (fun v65 wx => v65 = .bool (!(decide (ec = 0) && (t && decide (C.nc < 12)))) ∧ w6 = wx)
  case first =>
    clear hD hA hcd hcx hgx
    rcases he with rfl | rfl | rfl
    · cases t with
      | false =>
        go_wp2_with fail
        go_meet
        case rel => exact ⟨rfl, rfl⟩
      | true =>
        by_cases hn12 : C.nc < 12
        · have hge : ¬ 12 ≤ (C.nc : Int) := by omega
          have hge' : ¬ (C.nc : Int) ≥ 12 := by omega
          go_wp2_with fail
          go_meet
          case rel => exact ⟨by rw [decide_eq_true hn12]; rfl, rfl⟩
        · have hge : 12 ≤ (C.nc : Int) := by omega
          have hge' : (C.nc : Int) ≥ 12 := by omega
          go_wp2_with fail
          go_meet
          case rel => exact ⟨by rw [decide_eq_false hn12]; rfl, rfl⟩
    · go_wp2_with fail
      go_meet
      case rel => exact ⟨rfl, rfl⟩
    · go_wp2_with fail
      go_meet
      case rel => exact ⟨rfl, rfl⟩
  case rest =>
    obtain ⟨rfl, hwc⟩ := hcut
    subst hwc
    by_cases hT : (decide (ec = 0) && (t && decide (C.nc < 12))) = true
    · have hT' := hT
      simp only [Bool.and_eq_true, decide_eq_true_eq] at hT'
      obtain ⟨e0, t0, hn12⟩ := hT'
      rw [hT]
      have hD' := hD.out t0 e0 hn12
      clear hT e0 t0 he hD m9
      have y0 : w6.cell? ⟨w.heap.size + 1, 0, none⟩ = some (.int .i64 DC.d.k) := J6.out.cell 0
      have y1 : w6.cell? ⟨w.heap.size + 1, 1, none⟩ = some (.int .i64 DC.d.f) := J6.out.cell 1
      have y2 : w6.cell? ⟨w.heap.size + 1, 2, none⟩ = some (.bool DC.d.neg) := J6.out.cell 2
      have y3 : w6.cell? ⟨w.heap.size + 1, 3, none⟩ = some (.slice DC.d.aq DC.d.an DC.d.ac) := J6.out.cell 3
      have y4 : w6.cell? ⟨w.heap.size + 1, 4, none⟩ = some (.slice DC.d.cq DC.d.cn DC.d.cc) := J6.out.cell 4
      have y5 : w6.cell? ⟨w.heap.size + 1, 5, none⟩ = some (.string DC.d.m) := J6.out.cell 5
      have y6 : w6.cell? ⟨w.heap.size + 1, 6, none⟩ = some (.slice DC.d.sq DC.d.sn DC.d.sc) := J6.out.cell 6
      have y7 : w6.cell? ⟨w.heap.size + 1, 7, none⟩ = some (.bool stc) := J6.out.cell 7
      have y8 : w6.cell? ⟨w.heap.size + 1, 8, none⟩ = some (.slice DC.bq C.nb DC.bc) := J6.out.cell 8
      have y9 : w6.cell? ⟨w.heap.size + 1, 9, none⟩ = some (.slice DC.cq C.nc DC.cc) := J6.out.cell 9
      have hD' : Hid (∀ z q' c', Below w.heap.size w z → CosOk z q' (C.nc + 1) C.plus.cs → Calls Tryz.prog 5 #[.slice q n c, .agg #[.string kn, .int .i64 kv], .agg #[.int .i64 DC.d.k, .int .i64 DC.d.f, .bool DC.d.neg, .slice DC.d.aq DC.d.an DC.d.ac, .slice DC.d.cq DC.d.cn DC.d.cc, .string DC.d.m, .slice DC.d.sq DC.d.sn DC.d.sc, .bool false, .slice DC.bq C.nb DC.bc, .slice q' (C.nc + 1) c']] z fun e w' => e = .returned (.tuple #[.bool true, .int .i64 0]) ∧ Below z.heap.size z w') := hD'
      go_upto_region 10 with fail
      have B10 : BlkI (w6.alloc (.cells #[.int .i64 DC.d.k, .int .i64 DC.d.f, .bool DC.d.neg, .slice DC.d.aq DC.d.an DC.d.ac, .slice DC.d.cq DC.d.cn DC.d.cc, .string DC.d.m, .slice DC.d.sq DC.d.sn DC.d.sc, .bool stc, .slice DC.bq C.nb DC.bc, .slice DC.cq C.nc DC.cc] 34)) w6.heap.size 34 #[.int .i64 DC.d.k, .int .i64 DC.d.f, .bool DC.d.neg, .slice DC.d.aq DC.d.an DC.d.ac, .slice DC.d.cq DC.d.cn DC.d.cc, .string DC.d.m, .slice DC.d.sq DC.d.sn DC.d.sc, .bool stc, .slice DC.bq C.nb DC.bc, .slice DC.cq C.nc DC.cc] := heap_alloc_new _ _
      have lP : w.heap.size + 1 < w6.heap.size := J6.out.lt
      have K10 := K6.out.below (below_alloc w6 (.cells #[.int .i64 DC.d.k, .int .i64 DC.d.f, .bool DC.d.neg, .slice DC.d.aq DC.d.an DC.d.ac, .slice DC.d.cq DC.d.cn DC.d.cc, .string DC.d.m, .slice DC.d.sq DC.d.sn DC.d.sc, .bool stc, .slice DC.bq C.nb DC.bc, .slice DC.cq C.nc DC.cc] 34))
      have J10 := J6.out.below (below_alloc w6 (.cells #[.int .i64 DC.d.k, .int .i64 DC.d.f, .bool DC.d.neg, .slice DC.d.aq DC.d.an DC.d.ac, .slice DC.d.cq DC.d.cn DC.d.cc, .string DC.d.m, .slice DC.d.sq DC.d.sn DC.d.sc, .bool stc, .slice DC.bq C.nb DC.bc, .slice DC.cq C.nc DC.cc] 34))
      have W10 := W6.out.trans ((below_alloc w6 (.cells #[.int .i64 DC.d.k, .int .i64 DC.d.f, .bool DC.d.neg, .slice DC.d.aq DC.d.an DC.d.ac, .slice DC.d.cq DC.d.cn DC.d.cc, .string DC.d.m, .slice DC.d.sq DC.d.sn DC.d.sc, .bool stc, .slice DC.bq C.nb DC.bc, .slice DC.cq C.nc DC.cc] 34)).mono W6.out.size)
      have sP := W6.out.size
      clear y0 y1 y2 y3 y4 y5 y6 y7 y8 y9 K6 J6 W6
      generalize w6.alloc (.cells #[.int .i64 DC.d.k, .int .i64 DC.d.f, .bool DC.d.neg, .slice DC.d.aq DC.d.an DC.d.ac, .slice DC.d.cq DC.d.cn DC.d.cc, .string DC.d.m, .slice DC.d.sq DC.d.sn DC.d.sc, .bool stc, .slice DC.bq C.nb DC.bc, .slice DC.cq C.nc DC.cc] 34) = X at *
      generalize w6.heap.size = P at *
      have fr : ∀ j, X.frozen? ⟨P, j, none⟩ = false := B10.fr
      have cb : X.cell? ⟨P, 7, none⟩ = some (.bool stc) := B10.cell 7
      have RS : Hid (RgS w P kn kv #[.int .i64 DC.d.k, .int .i64 DC.d.f, .bool DC.d.neg, .slice DC.d.aq DC.d.an DC.d.ac, .slice DC.d.cq DC.d.cn DC.d.cc, .string DC.d.m, .slice DC.d.sq DC.d.sn DC.d.sc, .bool stc, .slice DC.bq C.nb DC.bc, .slice DC.cq C.nc DC.cc] #[.int .i64 DC.d.k, .int .i64 DC.d.f, .bool DC.d.neg, .slice DC.d.aq DC.d.an DC.d.ac, .slice DC.d.cq DC.d.cn DC.d.cc, .string DC.d.m, .slice DC.d.sq DC.d.sn DC.d.sc, .bool false, .slice DC.bq C.nb DC.bc, .slice DC.cq C.nc DC.cc] (X.setCell ⟨P, 7, none⟩ (.bool false))) := ⟨K10.other (by show P ≠ _; omega) _, J10.other (by show P ≠ _; omega) _, B10.set 7 _, W10.setCell (by show w.heap.size ≤ P; omega) _, lP⟩
      have lPX : P < X.heap.size := B10.lt
      clear B10 K10 J10 W10
      go_upto_region 11 with fail
      generalize X.setCell ⟨P, 7, none⟩ (.bool false) = Y at *
      clear fr cb lPX
      have hD' := hD'.out
      have hS0 : RgS w P kn kv #[.int .i64 DC.d.k, .int .i64 DC.d.f, .bool DC.d.neg, .slice DC.d.aq DC.d.an DC.d.ac, .slice DC.d.cq DC.d.cn DC.d.cc, .string DC.d.m, .slice DC.d.sq DC.d.sn DC.d.sc, .bool stc, .slice DC.bq C.nb DC.bc, .slice DC.cq C.nc DC.cc] #[.int .i64 DC.d.k, .int .i64 DC.d.f, .bool DC.d.neg, .slice DC.d.aq DC.d.an DC.d.ac, .slice DC.d.cq DC.d.cn DC.d.cc, .string DC.d.m, .slice DC.d.sq DC.d.sn DC.d.sc, .bool false, .slice DC.bq C.nb DC.bc, .slice DC.cq C.nc DC.cc] Y.drew := RS.out.drew
      refine wp_region_held_drew (S := (fun z => BlkI z (w.heap.size + 1) 34 #[.int .i64 DC.d.k, .int .i64 DC.d.f, .bool DC.d.neg, .slice DC.d.aq DC.d.an DC.d.ac, .slice DC.d.cq DC.d.cn DC.d.cc, .string DC.d.m, .slice DC.d.sq DC.d.sn DC.d.sc, .bool stc, .slice DC.bq C.nb DC.bc, .slice DC.cq C.nc DC.cc])) (by kernel_rfl) hS0.2.1 (fun hHeld => ?_)
      generalize Y.drew = N at *
      refine wpAnyH_take (i := 1) (v := .pointer (some ⟨w.heap.size + 1, 9, none⟩)) rfl (by kernel_rfl) (by kernel_rfl) (by kernel_rfl) (fun _ _ _ h => h) (.inl ⟨by rfl, fun z hSz => by go_simp⟩) hHeld ?_
      simp only [Act.put, List.getElem_toArray, List.getElem_cons_succ, List.getElem_cons_zero, List.setIfInBounds_toArray, List.set_cons_zero, List.set_cons_succ]
      refine wpAnyH_take (i := 2) (v := .slice DC.cq C.nc DC.cc) rfl (by kernel_rfl) (by kernel_rfl) (by kernel_rfl) (fun _ _ _ h => h) (.inl ⟨by rfl, fun z hSz => by (have h9 := hSz.cell 9; go_simp)⟩) hHeld ?_
      simp only [Act.put, List.getElem_toArray, List.getElem_cons_succ, List.getElem_cons_zero, List.setIfInBounds_toArray, List.set_cons_zero, List.set_cons_succ]
      refine wpAnyH_take (i := 4) (v := .pointer (some ⟨w.heap.size + 1, 0, none⟩)) rfl (by kernel_rfl) (by kernel_rfl) (by kernel_rfl) (fun _ _ _ h => h) (.inl ⟨by rfl, fun z hSz => by go_simp⟩) hHeld ?_
      simp only [Act.put, List.getElem_toArray, List.getElem_cons_succ, List.getElem_cons_zero, List.setIfInBounds_toArray, List.set_cons_zero, List.set_cons_succ]
      refine wpAnyH_take (i := 5) (v := .agg #[.int .i64 DC.d.k, .int .i64 DC.d.f, .bool DC.d.neg, .slice DC.d.aq DC.d.an DC.d.ac, .slice DC.d.cq DC.d.cn DC.d.cc, .string DC.d.m, .slice DC.d.sq DC.d.sn DC.d.sc]) rfl (by kernel_rfl) (by kernel_rfl) (by kernel_rfl) (fun _ _ _ h => h) (.inl ⟨by rfl, fun z hSz => by (have h0 := hSz.cell 0; have h1 := hSz.cell 1; have h2 := hSz.cell 2; have h3 := hSz.cell 3; have h4 := hSz.cell 4; have h5 := hSz.cell 5; have h6 := hSz.cell 6; go_simp)⟩) hHeld ?_
      simp only [Act.put, List.getElem_toArray, List.getElem_cons_succ, List.getElem_cons_zero, List.setIfInBounds_toArray, List.set_cons_zero, List.set_cons_succ]
      refine wpAnyH_take (i := 6) (v := .agg #[.int .i64 DC.d.k, .int .i64 DC.d.f, .bool DC.d.neg, .slice DC.d.aq DC.d.an DC.d.ac, .slice DC.d.cq DC.d.cn DC.d.cc, .string DC.d.m, .slice DC.d.sq DC.d.sn DC.d.sc, .bool false]) rfl (by kernel_rfl) (by kernel_rfl) (by kernel_rfl) (fun _ _ _ h => h) (.inl ⟨by rfl, fun z hSz => by go_simp⟩) hHeld ?_
      simp only [Act.put, List.getElem_toArray, List.getElem_cons_succ, List.getElem_cons_zero, List.setIfInBounds_toArray, List.set_cons_zero, List.set_cons_succ]
      refine wpAnyH_ready (rs := [0, 7]) (by kernel_rfl) (by simp) ?_
      refine AllReadyH.cons rfl (fun K hK => ?_) (AllReadyH.cons rfl (fun K hK => ?_) AllReadyH.nil)
      · go_simp
        have hown1 := own0 (z := N) (P := P) (by have := hS0.lt; omega)
        have hG1 : N.heap.size < (N.alloc (.cells #[] 50)).heap.size := by simp
        have hS1 := hS0.alloc (.cells #[] 50)
        refine hK.out _ _ hS1.2.1 (fun hHeld => ?_)
        clear hK K
        try simp only [Act.put, List.getElem_toArray, List.getElem_cons_succ, List.getElem_cons_zero, List.setIfInBounds_toArray, List.set_cons_zero, List.set_cons_succ]
        generalize hz1 : (N.alloc (.cells #[] 50)) = N1 at *
        generalize N.heap.size = g1 at *
        clear hz1
        refine wpAnyH_ready (rs := [3, 7]) (by kernel_rfl) (by simp) ?_
        refine AllReadyH.cons rfl (fun K hK => ?_) (AllReadyH.cons rfl (fun K hK => ?_) AllReadyH.nil)
        · refine step_conds rfl _ _ rfl (P + 1) _ 0 [] rfl hown1 _ C.nc _ (coC C.nc C.cs cd) rfl (coC_len _ _ _) (hcd.out.imp id fun ⟨b, o, hq, hb, h⟩ => ⟨_, hq, coC_at fun i hi => rangeAt_below (h i hi) hS1.2.2.2.1 hb⟩) (coC_one _ _ _) (by omega) (by have := hS1.lt; omega) ?_
          intro q2 c2 N2 hown2 hgr2
          have hS2 := hS1.grown hgr2 (fun k hk => by have := own_ge hown1 k hk; omega)
          simp only [Nat.zero_add, List.nil_append] at hown2
          simp only [Nat.zero_add]
          refine hK.out _ _ hS2.2.1 (fun hHeld => ?_)
          clear hK K
          try simp only [Act.put, List.getElem_toArray, List.getElem_cons_succ, List.getElem_cons_zero, List.setIfInBounds_toArray, List.set_cons_zero, List.set_cons_succ]
          refine wpAnyH_ready (rs := [7]) (by kernel_rfl) (by simp) ?_
          refine AllReadyH.cons rfl (fun K hK => ?_) AllReadyH.nil
          go_simp
          have hE3 : BlkI (N2.alloc (.cells #[.int .i64 DC.d.k, .int .i64 DC.d.f, .bool DC.d.neg, .slice DC.d.aq DC.d.an DC.d.ac, .slice DC.d.cq DC.d.cn DC.d.cc, .string DC.d.m, .slice DC.d.sq DC.d.sn DC.d.sc, .bool false] 50)) N2.heap.size 50 #[.int .i64 DC.d.k, .int .i64 DC.d.f, .bool DC.d.neg, .slice DC.d.aq DC.d.an DC.d.ac, .slice DC.d.cq DC.d.cn DC.d.cc, .string DC.d.m, .slice DC.d.sq DC.d.sn DC.d.sc, .bool false] := heap_alloc_new _ _
          have hown3 := hown2.alloc (.cells #[.int .i64 DC.d.k, .int .i64 DC.d.f, .bool DC.d.neg, .slice DC.d.aq DC.d.an DC.d.ac, .slice DC.d.cq DC.d.cn DC.d.cc, .string DC.d.m, .slice DC.d.sq DC.d.sn DC.d.sc, .bool false] 50)
          have hS3 := hS2.alloc (.cells #[.int .i64 DC.d.k, .int .i64 DC.d.f, .bool DC.d.neg, .slice DC.d.aq DC.d.an DC.d.ac, .slice DC.d.cq DC.d.cn DC.d.cc, .string DC.d.m, .slice DC.d.sq DC.d.sn DC.d.sc, .bool false] 50)
          refine hK.out _ _ hS3.2.1 (fun hHeld => ?_)
          clear hK K
          try simp only [Act.put, List.getElem_toArray, List.getElem_cons_succ, List.getElem_cons_zero, List.setIfInBounds_toArray, List.set_cons_zero, List.set_cons_succ]
          generalize hz3 : (N2.alloc (.cells #[.int .i64 DC.d.k, .int .i64 DC.d.f, .bool DC.d.neg, .slice DC.d.aq DC.d.an DC.d.ac, .slice DC.d.cq DC.d.cn DC.d.cc, .string DC.d.m, .slice DC.d.sq DC.d.sn DC.d.sc, .bool false] 50)) = N3 at *
          generalize N2.heap.size = E3 at *
          clear hz3
          refine wpAnyH_ready (rs := [8]) (by kernel_rfl) (by simp) ?_
          refine AllReadyH.cons rfl (fun K hK => ?_) AllReadyH.nil
          refine step_conds rfl _ _ rfl (P + 1) _ C.nc (coC C.nc C.cs cd) rfl hown3 (some ⟨E3, 0, none⟩) 1 1 [.int .i64 DC.d.k, .int .i64 DC.d.f, .bool DC.d.neg, .slice DC.d.aq DC.d.an DC.d.ac, .slice DC.d.cq DC.d.cn DC.d.cc, .string DC.d.m, .slice DC.d.sq DC.d.sn DC.d.sc, .bool false] rfl rfl (.inr ⟨_, rfl, World.news_of_block hE3⟩) (Co.one ⟨C.goal, false⟩ DC.d) (by omega) (by have := hS3.lt; omega) ?_
          intro q4 c4 N4 hown4 hgr4
          have hS4 := hS3.grown hgr4 (fun k hk => by have := own_ge hown3 k hk; omega)
          refine hK.out _ _ hS4.2.1 (fun hHeld => ?_)
          clear hK K
          try simp only [Act.put, List.getElem_toArray, List.getElem_cons_succ, List.getElem_cons_zero, List.setIfInBounds_toArray, List.set_cons_zero, List.set_cons_succ]
          refine wpAnyH_take (i := 9) (v := .pointer (some ⟨P, 9, none⟩)) rfl (by kernel_rfl) (by kernel_rfl) (by kernel_rfl) (fun _ _ _ h => h) (.inl ⟨by rfl, fun z hSz => by go_simp⟩) hHeld ?_
          simp only [Act.put, List.getElem_toArray, List.getElem_cons_succ, List.getElem_cons_zero, List.setIfInBounds_toArray, List.set_cons_zero, List.set_cons_succ]
          refine wpAnyH_ready (rs := [10]) (by kernel_rfl) (by simp) ?_
          refine AllReadyH.cons rfl (fun K hK => ?_) AllReadyH.nil
          obtain ⟨r1, r2, r3, r4, r5⟩ := hS4
          have fP : N4.frozen? ⟨P, 9, none⟩ = false := r3.fr 9
          have cP : N4.cell? ⟨P, 9, none⟩ = some (.slice DC.cq C.nc DC.cc) := r3.cell 9
          go_simp
          have F1 : BlkI (N4.setCell ⟨P, 9, none⟩ (.slice q4 (C.nc + 1) c4)) w.heap.size 24 #[.string kn, .int .i64 kv] := r1.other (by show P ≠ _; omega) _
          have F0 : BlkI (N4.setCell ⟨P, 9, none⟩ (.slice q4 (C.nc + 1) c4)) (w.heap.size + 1) 34 #[.int .i64 DC.d.k, .int .i64 DC.d.f, .bool DC.d.neg, .slice DC.d.aq DC.d.an DC.d.ac, .slice DC.d.cq DC.d.cn DC.d.cc, .string DC.d.m, .slice DC.d.sq DC.d.sn DC.d.sc, .bool stc, .slice DC.bq C.nb DC.bc, .slice DC.cq C.nc DC.cc] := r2.other (by show P ≠ _; omega) _
          have F2 : BlkI (N4.setCell ⟨P, 9, none⟩ (.slice q4 (C.nc + 1) c4)) P 34 #[.int .i64 DC.d.k, .int .i64 DC.d.f, .bool DC.d.neg, .slice DC.d.aq DC.d.an DC.d.ac, .slice DC.d.cq DC.d.cn DC.d.cc, .string DC.d.m, .slice DC.d.sq DC.d.sn DC.d.sc, .bool false, .slice DC.bq C.nb DC.bc, .slice q4 (C.nc + 1) c4] := r3.set 9 _
          have F3 : Below w.heap.size w (N4.setCell ⟨P, 9, none⟩ (.slice q4 (C.nc + 1) c4)) := r4.setCell (by show w.heap.size ≤ P; omega) _
          have F4 := plus_cos (own_store (j := 9) (u := (.slice q4 (C.nc + 1) c4)) hown4) (fun i hi => (hcx.out i hi).below F3) (hgx.out.below F3)
          have x12 := hD' (N4.setCell ⟨P, 9, none⟩ (.slice q4 (C.nc + 1) c4)) q4 c4 F3 F4
          refine hK.out _ _ F0 (fun hHeld => ?_)
          clear hK K
          try simp only [Act.put, List.getElem_toArray, List.getElem_cons_succ, List.getElem_cons_zero, List.setIfInBounds_toArray, List.set_cons_zero, List.set_cons_succ]
          clear F4 F0 r1 r2 r3 r4 fP cP hHeld
          generalize (N4.setCell ⟨P, 9, none⟩ (.slice q4 (C.nc + 1) c4)) = ZF at *
          refine wpAnyH_done (by kernel_rfl) ?_ _
          have k0 : ZF.cell? ⟨w.heap.size, 0, none⟩ = some (.string kn) := F1.cell 0
          have k1 : ZF.cell? ⟨w.heap.size, 1, none⟩ = some (.int .i64 kv) := F1.cell 1
          have y0 : ZF.cell? ⟨P, 0, none⟩ = some (.int .i64 DC.d.k) := F2.cell 0
          have y1 : ZF.cell? ⟨P, 1, none⟩ = some (.int .i64 DC.d.f) := F2.cell 1
          have y2 : ZF.cell? ⟨P, 2, none⟩ = some (.bool DC.d.neg) := F2.cell 2
          have y3 : ZF.cell? ⟨P, 3, none⟩ = some (.slice DC.d.aq DC.d.an DC.d.ac) := F2.cell 3
          have y4 : ZF.cell? ⟨P, 4, none⟩ = some (.slice DC.d.cq DC.d.cn DC.d.cc) := F2.cell 4
          have y5 : ZF.cell? ⟨P, 5, none⟩ = some (.string DC.d.m) := F2.cell 5
          have y6 : ZF.cell? ⟨P, 6, none⟩ = some (.slice DC.d.sq DC.d.sn DC.d.sc) := F2.cell 6
          have y7 : ZF.cell? ⟨P, 7, none⟩ = some (.bool false) := F2.cell 7
          have y8 : ZF.cell? ⟨P, 8, none⟩ = some (.slice DC.bq C.nb DC.bc) := F2.cell 8
          have y9 : ZF.cell? ⟨P, 9, none⟩ = some (.slice q4 (C.nc + 1) c4) := F2.cell 9
          have F3 : Hid (Below w.heap.size w ZF) := F3
          have F1 : Hid True := trivial
          have F2 : Hid True := trivial
          go_wp2_with (first
            | (go_at_call 5; with_reducible refine x12.mono ?_; rintro x w7 ⟨rfl, hb7⟩
               have W7 : Hid (Below w.heap.size w w7) := F3.out.trans (hb7.mono F3.out.size)
               have x13 := hA.out _ W7.out
               clear hb7)
            | (go_at_call 7; with_reducible refine x13.mono ?_; rintro x w8 ⟨rfl, hb8⟩))
          go_ret
          exact ⟨rfl, W7.out.trans (hb8.mono W7.out.size)⟩
        · go_simp
          have hE2 : BlkI (N1.alloc (.cells #[.int .i64 DC.d.k, .int .i64 DC.d.f, .bool DC.d.neg, .slice DC.d.aq DC.d.an DC.d.ac, .slice DC.d.cq DC.d.cn DC.d.cc, .string DC.d.m, .slice DC.d.sq DC.d.sn DC.d.sc, .bool false] 50)) N1.heap.size 50 #[.int .i64 DC.d.k, .int .i64 DC.d.f, .bool DC.d.neg, .slice DC.d.aq DC.d.an DC.d.ac, .slice DC.d.cq DC.d.cn DC.d.cc, .string DC.d.m, .slice DC.d.sq DC.d.sn DC.d.sc, .bool false] := heap_alloc_new _ _
          have hown2 := hown1.alloc (.cells #[.int .i64 DC.d.k, .int .i64 DC.d.f, .bool DC.d.neg, .slice DC.d.aq DC.d.an DC.d.ac, .slice DC.d.cq DC.d.cn DC.d.cc, .string DC.d.m, .slice DC.d.sq DC.d.sn DC.d.sc, .bool false] 50)
          have hne2 : g1 < N1.heap.size := hG1
          have hS2 := hS1.alloc (.cells #[.int .i64 DC.d.k, .int .i64 DC.d.f, .bool DC.d.neg, .slice DC.d.aq DC.d.an DC.d.ac, .slice DC.d.cq DC.d.cn DC.d.cc, .string DC.d.m, .slice DC.d.sq DC.d.sn DC.d.sc, .bool false] 50)
          refine hK.out _ _ hS2.2.1 (fun hHeld => ?_)
          clear hK K
          try simp only [Act.put, List.getElem_toArray, List.getElem_cons_succ, List.getElem_cons_zero, List.setIfInBounds_toArray, List.set_cons_zero, List.set_cons_succ]
          generalize hz2 : (N1.alloc (.cells #[.int .i64 DC.d.k, .int .i64 DC.d.f, .bool DC.d.neg, .slice DC.d.aq DC.d.an DC.d.ac, .slice DC.d.cq DC.d.cn DC.d.cc, .string DC.d.m, .slice DC.d.sq DC.d.sn DC.d.sc, .bool false] 50)) = N2 at *
          generalize N1.heap.size = E2 at *
          clear hz2
          refine wpAnyH_ready (rs := [3]) (by kernel_rfl) (by simp) ?_
          refine AllReadyH.cons rfl (fun K hK => ?_) AllReadyH.nil
          refine step_conds rfl _ _ rfl (P + 1) _ 0 [] rfl hown2 _ C.nc _ (coC C.nc C.cs cd) rfl (coC_len _ _ _) (hcd.out.imp id fun ⟨b, o, hq, hb, h⟩ => ⟨_, hq, coC_at fun i hi => rangeAt_below (h i hi) hS2.2.2.2.1 hb⟩) (coC_one _ _ _) (by omega) (by have := hS2.lt; omega) ?_
          intro q3 c3 N3 hown3 hgr3
          have hS3 := hS2.grown hgr3 (fun k hk => by have := own_ge hown2 k hk; omega)
          have hE3 := hE2.grown hgr3 (fun e => by have h := hne2; have e2 : E2 = g1 := Option.some.inj e; omega)
          simp only [Nat.zero_add, List.nil_append] at hown3
          simp only [Nat.zero_add]
          refine hK.out _ _ hS3.2.1 (fun hHeld => ?_)
          clear hK K
          try simp only [Act.put, List.getElem_toArray, List.getElem_cons_succ, List.getElem_cons_zero, List.setIfInBounds_toArray, List.set_cons_zero, List.set_cons_succ]
          refine wpAnyH_ready (rs := [8]) (by kernel_rfl) (by simp) ?_
          refine AllReadyH.cons rfl (fun K hK => ?_) AllReadyH.nil
          refine step_conds rfl _ _ rfl (P + 1) _ C.nc (coC C.nc C.cs cd) rfl hown3 (some ⟨E2, 0, none⟩) 1 1 [.int .i64 DC.d.k, .int .i64 DC.d.f, .bool DC.d.neg, .slice DC.d.aq DC.d.an DC.d.ac, .slice DC.d.cq DC.d.cn DC.d.cc, .string DC.d.m, .slice DC.d.sq DC.d.sn DC.d.sc, .bool false] rfl rfl (.inr ⟨_, rfl, World.news_of_block hE3⟩) (Co.one ⟨C.goal, false⟩ DC.d) (by omega) (by have := hS3.lt; omega) ?_
          intro q4 c4 N4 hown4 hgr4
          have hS4 := hS3.grown hgr4 (fun k hk => by have := own_ge hown3 k hk; omega)
          refine hK.out _ _ hS4.2.1 (fun hHeld => ?_)
          clear hK K
          try simp only [Act.put, List.getElem_toArray, List.getElem_cons_succ, List.getElem_cons_zero, List.setIfInBounds_toArray, List.set_cons_zero, List.set_cons_succ]
          refine wpAnyH_take (i := 9) (v := .pointer (some ⟨P, 9, none⟩)) rfl (by kernel_rfl) (by kernel_rfl) (by kernel_rfl) (fun _ _ _ h => h) (.inl ⟨by rfl, fun z hSz => by go_simp⟩) hHeld ?_
          simp only [Act.put, List.getElem_toArray, List.getElem_cons_succ, List.getElem_cons_zero, List.setIfInBounds_toArray, List.set_cons_zero, List.set_cons_succ]
          refine wpAnyH_ready (rs := [10]) (by kernel_rfl) (by simp) ?_
          refine AllReadyH.cons rfl (fun K hK => ?_) AllReadyH.nil
          obtain ⟨r1, r2, r3, r4, r5⟩ := hS4
          have fP : N4.frozen? ⟨P, 9, none⟩ = false := r3.fr 9
          have cP : N4.cell? ⟨P, 9, none⟩ = some (.slice DC.cq C.nc DC.cc) := r3.cell 9
          go_simp
          have F1 : BlkI (N4.setCell ⟨P, 9, none⟩ (.slice q4 (C.nc + 1) c4)) w.heap.size 24 #[.string kn, .int .i64 kv] := r1.other (by show P ≠ _; omega) _
          have F0 : BlkI (N4.setCell ⟨P, 9, none⟩ (.slice q4 (C.nc + 1) c4)) (w.heap.size + 1) 34 #[.int .i64 DC.d.k, .int .i64 DC.d.f, .bool DC.d.neg, .slice DC.d.aq DC.d.an DC.d.ac, .slice DC.d.cq DC.d.cn DC.d.cc, .string DC.d.m, .slice DC.d.sq DC.d.sn DC.d.sc, .bool stc, .slice DC.bq C.nb DC.bc, .slice DC.cq C.nc DC.cc] := r2.other (by show P ≠ _; omega) _
          have F2 : BlkI (N4.setCell ⟨P, 9, none⟩ (.slice q4 (C.nc + 1) c4)) P 34 #[.int .i64 DC.d.k, .int .i64 DC.d.f, .bool DC.d.neg, .slice DC.d.aq DC.d.an DC.d.ac, .slice DC.d.cq DC.d.cn DC.d.cc, .string DC.d.m, .slice DC.d.sq DC.d.sn DC.d.sc, .bool false, .slice DC.bq C.nb DC.bc, .slice q4 (C.nc + 1) c4] := r3.set 9 _
          have F3 : Below w.heap.size w (N4.setCell ⟨P, 9, none⟩ (.slice q4 (C.nc + 1) c4)) := r4.setCell (by show w.heap.size ≤ P; omega) _
          have F4 := plus_cos (own_store (j := 9) (u := (.slice q4 (C.nc + 1) c4)) hown4) (fun i hi => (hcx.out i hi).below F3) (hgx.out.below F3)
          have x12 := hD' (N4.setCell ⟨P, 9, none⟩ (.slice q4 (C.nc + 1) c4)) q4 c4 F3 F4
          refine hK.out _ _ F0 (fun hHeld => ?_)
          clear hK K
          try simp only [Act.put, List.getElem_toArray, List.getElem_cons_succ, List.getElem_cons_zero, List.setIfInBounds_toArray, List.set_cons_zero, List.set_cons_succ]
          clear F4 F0 r1 r2 r3 r4 fP cP hHeld
          generalize (N4.setCell ⟨P, 9, none⟩ (.slice q4 (C.nc + 1) c4)) = ZF at *
          refine wpAnyH_done (by kernel_rfl) ?_ _
          have k0 : ZF.cell? ⟨w.heap.size, 0, none⟩ = some (.string kn) := F1.cell 0
          have k1 : ZF.cell? ⟨w.heap.size, 1, none⟩ = some (.int .i64 kv) := F1.cell 1
          have y0 : ZF.cell? ⟨P, 0, none⟩ = some (.int .i64 DC.d.k) := F2.cell 0
          have y1 : ZF.cell? ⟨P, 1, none⟩ = some (.int .i64 DC.d.f) := F2.cell 1
          have y2 : ZF.cell? ⟨P, 2, none⟩ = some (.bool DC.d.neg) := F2.cell 2
          have y3 : ZF.cell? ⟨P, 3, none⟩ = some (.slice DC.d.aq DC.d.an DC.d.ac) := F2.cell 3
          have y4 : ZF.cell? ⟨P, 4, none⟩ = some (.slice DC.d.cq DC.d.cn DC.d.cc) := F2.cell 4
          have y5 : ZF.cell? ⟨P, 5, none⟩ = some (.string DC.d.m) := F2.cell 5
          have y6 : ZF.cell? ⟨P, 6, none⟩ = some (.slice DC.d.sq DC.d.sn DC.d.sc) := F2.cell 6
          have y7 : ZF.cell? ⟨P, 7, none⟩ = some (.bool false) := F2.cell 7
          have y8 : ZF.cell? ⟨P, 8, none⟩ = some (.slice DC.bq C.nb DC.bc) := F2.cell 8
          have y9 : ZF.cell? ⟨P, 9, none⟩ = some (.slice q4 (C.nc + 1) c4) := F2.cell 9
          have F3 : Hid (Below w.heap.size w ZF) := F3
          have F1 : Hid True := trivial
          have F2 : Hid True := trivial
          go_wp2_with (first
            | (go_at_call 5; with_reducible refine x12.mono ?_; rintro x w7 ⟨rfl, hb7⟩
               have W7 : Hid (Below w.heap.size w w7) := F3.out.trans (hb7.mono F3.out.size)
               have x13 := hA.out _ W7.out
               clear hb7)
            | (go_at_call 7; with_reducible refine x13.mono ?_; rintro x w8 ⟨rfl, hb8⟩))
          go_ret
          exact ⟨rfl, W7.out.trans (hb8.mono W7.out.size)⟩
      · go_simp
        have hE1 : BlkI (N.alloc (.cells #[.int .i64 DC.d.k, .int .i64 DC.d.f, .bool DC.d.neg, .slice DC.d.aq DC.d.an DC.d.ac, .slice DC.d.cq DC.d.cn DC.d.cc, .string DC.d.m, .slice DC.d.sq DC.d.sn DC.d.sc, .bool false] 50)) N.heap.size 50 #[.int .i64 DC.d.k, .int .i64 DC.d.f, .bool DC.d.neg, .slice DC.d.aq DC.d.an DC.d.ac, .slice DC.d.cq DC.d.cn DC.d.cc, .string DC.d.m, .slice DC.d.sq DC.d.sn DC.d.sc, .bool false] := heap_alloc_new _ _
        have hS1 := hS0.alloc (.cells #[.int .i64 DC.d.k, .int .i64 DC.d.f, .bool DC.d.neg, .slice DC.d.aq DC.d.an DC.d.ac, .slice DC.d.cq DC.d.cn DC.d.cc, .string DC.d.m, .slice DC.d.sq DC.d.sn DC.d.sc, .bool false] 50)
        refine hK.out _ _ hS1.2.1 (fun hHeld => ?_)
        clear hK K
        try simp only [Act.put, List.getElem_toArray, List.getElem_cons_succ, List.getElem_cons_zero, List.setIfInBounds_toArray, List.set_cons_zero, List.set_cons_succ]
        generalize hz1 : (N.alloc (.cells #[.int .i64 DC.d.k, .int .i64 DC.d.f, .bool DC.d.neg, .slice DC.d.aq DC.d.an DC.d.ac, .slice DC.d.cq DC.d.cn DC.d.cc, .string DC.d.m, .slice DC.d.sq DC.d.sn DC.d.sc, .bool false] 50)) = N1 at *
        generalize N.heap.size = E1 at *
        clear hz1
        refine wpAnyH_ready (rs := [0]) (by kernel_rfl) (by simp) ?_
        refine AllReadyH.cons rfl (fun K hK => ?_) AllReadyH.nil
        go_simp
        have hown2 := own0 (z := N1) (P := P) (by have := hS1.lt; omega)
        have hG2 : N1.heap.size < (N1.alloc (.cells #[] 50)).heap.size := by simp
        have hE2 : BlkI (N1.alloc (.cells #[] 50)) E1 50 #[.int .i64 DC.d.k, .int .i64 DC.d.f, .bool DC.d.neg, .slice DC.d.aq DC.d.an DC.d.ac, .slice DC.d.cq DC.d.cn DC.d.cc, .string DC.d.m, .slice DC.d.sq DC.d.sn DC.d.sc, .bool false] := hE1.below (below_alloc _ _)
        have hne2 : E1 < N1.heap.size := hE1.lt
        have hS2 := hS1.alloc (.cells #[] 50)
        refine hK.out _ _ hS2.2.1 (fun hHeld => ?_)
        clear hK K
        try simp only [Act.put, List.getElem_toArray, List.getElem_cons_succ, List.getElem_cons_zero, List.setIfInBounds_toArray, List.set_cons_zero, List.set_cons_succ]
        generalize hz2 : (N1.alloc (.cells #[] 50)) = N2 at *
        generalize N1.heap.size = g2 at *
        clear hz2
        refine wpAnyH_ready (rs := [3]) (by kernel_rfl) (by simp) ?_
        refine AllReadyH.cons rfl (fun K hK => ?_) AllReadyH.nil
        refine step_conds rfl _ _ rfl (P + 1) _ 0 [] rfl hown2 _ C.nc _ (coC C.nc C.cs cd) rfl (coC_len _ _ _) (hcd.out.imp id fun ⟨b, o, hq, hb, h⟩ => ⟨_, hq, coC_at fun i hi => rangeAt_below (h i hi) hS2.2.2.2.1 hb⟩) (coC_one _ _ _) (by omega) (by have := hS2.lt; omega) ?_
        intro q3 c3 N3 hown3 hgr3
        have hS3 := hS2.grown hgr3 (fun k hk => by have := own_ge hown2 k hk; omega)
        have hE3 := hE2.grown hgr3 (fun e => by have h := hne2; have e2 : E1 = g2 := Option.some.inj e; omega)
        simp only [Nat.zero_add, List.nil_append] at hown3
        simp only [Nat.zero_add]
        refine hK.out _ _ hS3.2.1 (fun hHeld => ?_)
        clear hK K
        try simp only [Act.put, List.getElem_toArray, List.getElem_cons_succ, List.getElem_cons_zero, List.setIfInBounds_toArray, List.set_cons_zero, List.set_cons_succ]
        refine wpAnyH_ready (rs := [8]) (by kernel_rfl) (by simp) ?_
        refine AllReadyH.cons rfl (fun K hK => ?_) AllReadyH.nil
        refine step_conds rfl _ _ rfl (P + 1) _ C.nc (coC C.nc C.cs cd) rfl hown3 (some ⟨E1, 0, none⟩) 1 1 [.int .i64 DC.d.k, .int .i64 DC.d.f, .bool DC.d.neg, .slice DC.d.aq DC.d.an DC.d.ac, .slice DC.d.cq DC.d.cn DC.d.cc, .string DC.d.m, .slice DC.d.sq DC.d.sn DC.d.sc, .bool false] rfl rfl (.inr ⟨_, rfl, World.news_of_block hE3⟩) (Co.one ⟨C.goal, false⟩ DC.d) (by omega) (by have := hS3.lt; omega) ?_
        intro q4 c4 N4 hown4 hgr4
        have hS4 := hS3.grown hgr4 (fun k hk => by have := own_ge hown3 k hk; omega)
        refine hK.out _ _ hS4.2.1 (fun hHeld => ?_)
        clear hK K
        try simp only [Act.put, List.getElem_toArray, List.getElem_cons_succ, List.getElem_cons_zero, List.setIfInBounds_toArray, List.set_cons_zero, List.set_cons_succ]
        refine wpAnyH_take (i := 9) (v := .pointer (some ⟨P, 9, none⟩)) rfl (by kernel_rfl) (by kernel_rfl) (by kernel_rfl) (fun _ _ _ h => h) (.inl ⟨by rfl, fun z hSz => by go_simp⟩) hHeld ?_
        simp only [Act.put, List.getElem_toArray, List.getElem_cons_succ, List.getElem_cons_zero, List.setIfInBounds_toArray, List.set_cons_zero, List.set_cons_succ]
        refine wpAnyH_ready (rs := [10]) (by kernel_rfl) (by simp) ?_
        refine AllReadyH.cons rfl (fun K hK => ?_) AllReadyH.nil
        obtain ⟨r1, r2, r3, r4, r5⟩ := hS4
        have fP : N4.frozen? ⟨P, 9, none⟩ = false := r3.fr 9
        have cP : N4.cell? ⟨P, 9, none⟩ = some (.slice DC.cq C.nc DC.cc) := r3.cell 9
        go_simp
        have F1 : BlkI (N4.setCell ⟨P, 9, none⟩ (.slice q4 (C.nc + 1) c4)) w.heap.size 24 #[.string kn, .int .i64 kv] := r1.other (by show P ≠ _; omega) _
        have F0 : BlkI (N4.setCell ⟨P, 9, none⟩ (.slice q4 (C.nc + 1) c4)) (w.heap.size + 1) 34 #[.int .i64 DC.d.k, .int .i64 DC.d.f, .bool DC.d.neg, .slice DC.d.aq DC.d.an DC.d.ac, .slice DC.d.cq DC.d.cn DC.d.cc, .string DC.d.m, .slice DC.d.sq DC.d.sn DC.d.sc, .bool stc, .slice DC.bq C.nb DC.bc, .slice DC.cq C.nc DC.cc] := r2.other (by show P ≠ _; omega) _
        have F2 : BlkI (N4.setCell ⟨P, 9, none⟩ (.slice q4 (C.nc + 1) c4)) P 34 #[.int .i64 DC.d.k, .int .i64 DC.d.f, .bool DC.d.neg, .slice DC.d.aq DC.d.an DC.d.ac, .slice DC.d.cq DC.d.cn DC.d.cc, .string DC.d.m, .slice DC.d.sq DC.d.sn DC.d.sc, .bool false, .slice DC.bq C.nb DC.bc, .slice q4 (C.nc + 1) c4] := r3.set 9 _
        have F3 : Below w.heap.size w (N4.setCell ⟨P, 9, none⟩ (.slice q4 (C.nc + 1) c4)) := r4.setCell (by show w.heap.size ≤ P; omega) _
        have F4 := plus_cos (own_store (j := 9) (u := (.slice q4 (C.nc + 1) c4)) hown4) (fun i hi => (hcx.out i hi).below F3) (hgx.out.below F3)
        have x12 := hD' (N4.setCell ⟨P, 9, none⟩ (.slice q4 (C.nc + 1) c4)) q4 c4 F3 F4
        refine hK.out _ _ F0 (fun hHeld => ?_)
        clear hK K
        try simp only [Act.put, List.getElem_toArray, List.getElem_cons_succ, List.getElem_cons_zero, List.setIfInBounds_toArray, List.set_cons_zero, List.set_cons_succ]
        clear F4 F0 r1 r2 r3 r4 fP cP hHeld
        generalize (N4.setCell ⟨P, 9, none⟩ (.slice q4 (C.nc + 1) c4)) = ZF at *
        refine wpAnyH_done (by kernel_rfl) ?_ _
        have k0 : ZF.cell? ⟨w.heap.size, 0, none⟩ = some (.string kn) := F1.cell 0
        have k1 : ZF.cell? ⟨w.heap.size, 1, none⟩ = some (.int .i64 kv) := F1.cell 1
        have y0 : ZF.cell? ⟨P, 0, none⟩ = some (.int .i64 DC.d.k) := F2.cell 0
        have y1 : ZF.cell? ⟨P, 1, none⟩ = some (.int .i64 DC.d.f) := F2.cell 1
        have y2 : ZF.cell? ⟨P, 2, none⟩ = some (.bool DC.d.neg) := F2.cell 2
        have y3 : ZF.cell? ⟨P, 3, none⟩ = some (.slice DC.d.aq DC.d.an DC.d.ac) := F2.cell 3
        have y4 : ZF.cell? ⟨P, 4, none⟩ = some (.slice DC.d.cq DC.d.cn DC.d.cc) := F2.cell 4
        have y5 : ZF.cell? ⟨P, 5, none⟩ = some (.string DC.d.m) := F2.cell 5
        have y6 : ZF.cell? ⟨P, 6, none⟩ = some (.slice DC.d.sq DC.d.sn DC.d.sc) := F2.cell 6
        have y7 : ZF.cell? ⟨P, 7, none⟩ = some (.bool false) := F2.cell 7
        have y8 : ZF.cell? ⟨P, 8, none⟩ = some (.slice DC.bq C.nb DC.bc) := F2.cell 8
        have y9 : ZF.cell? ⟨P, 9, none⟩ = some (.slice q4 (C.nc + 1) c4) := F2.cell 9
        have F3 : Hid (Below w.heap.size w ZF) := F3
        have F1 : Hid True := trivial
        have F2 : Hid True := trivial
        go_wp2_with (first
          | (go_at_call 5; with_reducible refine x12.mono ?_; rintro x w7 ⟨rfl, hb7⟩
             have W7 : Hid (Below w.heap.size w w7) := F3.out.trans (hb7.mono F3.out.size)
             have x13 := hA.out _ W7.out
             clear hb7)
          | (go_at_call 7; with_reducible refine x13.mono ?_; rintro x w8 ⟨rfl, hb8⟩))
        go_ret
        exact ⟨rfl, W7.out.trans (hb8.mono W7.out.size)⟩
    · have hF : (decide (ec = 0) && (t && decide (C.nc < 12))) = false := by simpa using hT
      rw [hF]
      have x7 := hA.out _ W6.out
      clear hT hF he hD m9
      go_wp2_with (go_at_call 7; with_reducible refine x7.mono ?_; rintro x w8 ⟨rfl, hb8⟩)
      go_ret
      exact ⟨rfl, W6.out.trans (hb8.mono W6.out.size)⟩
end Go.Proofs.YtaonejnicgbifaaGreatDoor
