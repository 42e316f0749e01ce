/-
  The reference's node.
-/
import Derived.Test.YtgmbeedbeahblaaGreatDoorShH
import Derived.Deep.RegionHeld3
namespace Go.Proofs.YtgmbeedbeahblaaGreatDoor
open Go Go.Proofs.YtgmbeedbeahblaaGreatDoor.Gx Go.RowKit

set_option maxRecDepth 100000 in
set_option maxHeartbeats 1000000 in
/-- The reference's argument. -/
theorem arg_ok {w : World} {k f : Int} {ng : Bool} {aq cq sq : Option Addr} {ac cc sc n : Nat} {nu de : List Int} {m : ByteArray} :
    Calls Tryz.prog 247 #[.agg #[.int .i64 k, .int .i64 f, .bool ng, .slice aq nu.length ac, .slice cq de.length cc, .string m, .slice sq n sc]] w fun e w' => e = .returned (.bool (decide (loA k ≤ f) && decide (f ≤ hiA k))) ∧ Below w.heap.size w w' := by
  by_cases k9 : k = 9
  · subst k9
    by_cases hf1 : -32 ≤ f
    · by_cases hf2 : f ≤ 32
      · go_enter Tryz.func247, Tryz.ntmps247
        go_wp2
        go_ret
        exact ⟨by simp [loA, hiA, hf1, hf2], below_alloc _ _⟩
      · go_enter Tryz.func247, Tryz.ntmps247
        go_wp2
        go_ret
        exact ⟨by rw [decide_eq_false (show ¬ f ≤ hiA 9 from Int.not_le.2 hf2), Bool.and_false]; rfl, below_alloc _ _⟩
    · go_enter Tryz.func247, Tryz.ntmps247
      go_wp2
      go_ret
      exact ⟨by rw [decide_eq_false (show ¬ loA 9 ≤ f from Int.not_le.2 hf1), Bool.false_and]; rfl, below_alloc _ _⟩
  · by_cases k10 : k = 10
    · subst k10
      by_cases hf1 : 2 ≤ f
      · by_cases hf2 : f ≤ 8
        · go_enter Tryz.func247, Tryz.ntmps247
          go_wp2
          go_ret
          exact ⟨by simp [loA, hiA, hf1, hf2], below_alloc _ _⟩
        · go_enter Tryz.func247, Tryz.ntmps247
          go_wp2
          go_ret
          exact ⟨by rw [decide_eq_false (show ¬ f ≤ hiA 10 from Int.not_le.2 hf2), Bool.and_false]; rfl, below_alloc _ _⟩
      · go_enter Tryz.func247, Tryz.ntmps247
        go_wp2
        go_ret
        exact ⟨by rw [decide_eq_false (show ¬ loA 10 ≤ f from Int.not_le.2 hf1), Bool.false_and]; rfl, below_alloc _ _⟩
    · by_cases k11 : k = 11
      · subst k11
        by_cases hf1 : 1 ≤ f
        · by_cases hf2 : f ≤ 8
          · go_enter Tryz.func247, Tryz.ntmps247
            go_wp2
            go_ret
            exact ⟨by simp [loA, hiA, hf1, hf2], below_alloc _ _⟩
          · go_enter Tryz.func247, Tryz.ntmps247
            go_wp2
            go_ret
            exact ⟨by rw [decide_eq_false (show ¬ f ≤ hiA 11 from Int.not_le.2 hf2), Bool.and_false]; rfl, below_alloc _ _⟩
        · go_enter Tryz.func247, Tryz.ntmps247
          go_wp2
          go_ret
          exact ⟨by rw [decide_eq_false (show ¬ loA 11 ≤ f from Int.not_le.2 hf1), Bool.false_and]; rfl, below_alloc _ _⟩
      · have e1 : loA k = 0 := by simp [loA, k9, k10, k11]
        have e2 : hiA k = 0 := by simp [hiA, k9, k10, k11]
        have n9 : (k == 9) = false := by simp; omega
        have n10 : (k == 10) = false := by simp; omega
        have n11 : (k == 11) = false := by simp; omega
        rw [e1, e2]
        clear e1 e2 k9 k10 k11
        by_cases hf : f = 0
        · subst hf
          go_enter Tryz.func247, Tryz.ntmps247
          go_wp2
          go_ret
          exact ⟨rfl, below_alloc _ _⟩
        · have hf' : (f == 0) = false := by simp [hf]
          have e3 : (decide (0 ≤ f) && decide (f ≤ 0)) = false := by
            by_cases h : 0 ≤ f
            · rw [decide_eq_false (by omega : ¬ f ≤ 0)]; simp
            · rw [decide_eq_false h]; rfl
          rw [e3]
          clear e3
          go_enter Tryz.func247, Tryz.ntmps247
          go_wp2
          go_ret
          exact ⟨rfl, below_alloc _ _⟩

set_option maxRecDepth 100000 in
set_option maxHeartbeats 4000000 in
/-- The reference's node. -/
theorem node_ok {w : World} {k f : Int} {ng : Bool} {aq cq sq : Option Addr} {ac cc sc n : Nat} {nu de : List Int} {m : ByteArray} (h1 : Sl w (.slice aq nu.length ac) nu) (h2 : Sl w (.slice cq de.length cc) de) (ln : nu.length ≤ 34359738000) (ld : de.length ≤ 34359738000) :
    Calls Tryz.prog 144 #[.agg #[.int .i64 k, .int .i64 f, .bool ng, .slice aq nu.length ac, .slice cq de.length cc, .string m, .slice sq n sc]] w fun e w' => e = .returned (.bool (nodeOk k f ng (val nu) (val de) m n)) ∧ Below w.heap.size w w' := by
  obtain ⟨R, hR⟩ : ∃ R, Hid (nodeOk k f ng (val nu) (val de) m n = R) := ⟨_, rfl⟩
  rw [hR.out]
  have hb0 : Hid (Below w.heap.size w (w.alloc (.cells #[.int .i64 k, .int .i64 f, .bool ng, .slice aq nu.length ac, .slice cq de.length cc, .string m, .slice sq n sc] 27))) := below_alloc w _
  have hb1 : Hid (Below w.heap.size w (w.alloc (.cells #[.int .i64 k, .int .i64 f, .bool ng, .slice aq nu.length ac, .slice cq de.length cc, .string m, .slice sq n sc] 27)).drew) := hb0.out.drew
  have hx0 := val_nonneg h1.1
  have hy0 := val_nonneg h2.1
  have hsg : Hid _ := sgn_mk (g := ng) hx0 hy0
  have hlg : Hid (∀ z, Below w.heap.size w z → Calls Tryz.prog 37 #[.agg #[.bool ng, .slice aq nu.length ac, .slice cq de.length cc]] z _) := fun z hz => largeQ_ok (g := ng) (h1.below hz) (h2.below hz) ln ld
  have hze : Hid (∀ z, Below w.heap.size w z → Calls Tryz.prog 70 #[.agg #[.bool ng, .slice aq nu.length ac, .slice cq de.length cc]] z _) := fun z hz => zeroQ_ok (g := ng) (p1 := cq) (m := de.length) (e1 := cc) (h1.below hz) ln
  have hof : Hid (∀ z, Below w.heap.size w z → Calls Tryz.prog 74 #[.agg #[.bool ng, .slice aq nu.length ac, .slice cq de.length cc]] z _) := fun z hz => of_walk (g := ng) (h1.below hz) (h2.below hz) ln ld
  clear h1 h2 hx0 hy0
  obtain ⟨K, hK⟩ : ∃ K, Hid (kidsI k = K) := ⟨_, rfl⟩
  have hkq := fun z => kidsQ_ok k z
  rw [hK.out] at hkq
  by_cases hn : K = n
  · have hn' : (K != (n : Int)) = false := by simp [hn]
    have hn2 : Hid (K = n) := hn
    clear hn
    obtain ⟨A, hA⟩ : ∃ A, Hid ((decide (loA k ≤ f) && decide (f ≤ hiA k)) = A) := ⟨_, rfl⟩
    have harg := arg_ok (w := (w.alloc (.cells #[.int .i64 k, .int .i64 f, .bool ng, .slice aq nu.length ac, .slice cq de.length cc, .string m, .slice sq n sc] 27)).drew) (k := k) (f := f) (ng := ng) (aq := aq) (cq := cq) (sq := sq) (ac := ac) (cc := cc) (sc := sc) (n := n) (nu := nu) (de := de) (m := m)
    rw [hA.out] at harg
    have hS0 : (fun z => z.cell? ⟨w.heap.size, 0, none⟩ = some (.int .i64 k) ∧ z.cell? ⟨w.heap.size, 1, none⟩ = some (.int .i64 f) ∧ z.cell? ⟨w.heap.size, 2, none⟩ = some (.bool ng) ∧ z.cell? ⟨w.heap.size, 3, none⟩ = some (.slice aq nu.length ac) ∧ z.cell? ⟨w.heap.size, 4, none⟩ = some (.slice cq de.length cc) ∧ z.cell? ⟨w.heap.size, 5, none⟩ = some (.string m) ∧ z.cell? ⟨w.heap.size, 6, none⟩ = some (.slice sq n sc)) (w.alloc (.cells #[.int .i64 k, .int .i64 f, .bool ng, .slice aq nu.length ac, .slice cq de.length cc, .string m, .slice sq n sc] 27)).drew := ⟨by simp, by simp, by simp, by simp, by simp, by simp, by simp⟩
    have hsz : w.heap.size < (w.alloc (.cells #[.int .i64 k, .int .i64 f, .bool ng, .slice aq nu.length ac, .slice cq de.length cc, .string m, .slice sq n sc] 27)).drew.heap.size := by simp
    go_enter Tryz.func144, Tryz.ntmps144
    go_wp2_with fail
    go_region_held3 (fun z => z.cell? ⟨w.heap.size, 0, none⟩ = some (.int .i64 k) ∧ z.cell? ⟨w.heap.size, 1, none⟩ = some (.int .i64 f) ∧ z.cell? ⟨w.heap.size, 2, none⟩ = some (.bool ng) ∧ z.cell? ⟨w.heap.size, 3, none⟩ = some (.slice aq nu.length ac) ∧ z.cell? ⟨w.heap.size, 4, none⟩ = some (.slice cq de.length cc) ∧ z.cell? ⟨w.heap.size, 5, none⟩ = some (.string m) ∧ z.cell? ⟨w.heap.size, 6, none⟩ = some (.slice sq n sc)) (first | exact hS2 | exact hS0)
      (first
        | (go_at_call 246; with_reducible refine (hkq _).mono ?_; rintro e wz ⟨rfl, hwz⟩; subst wz)
        | (go_at_call 247; with_reducible refine harg.mono ?_; rintro e w2 ⟨rfl, hb2⟩
           have hS2 : (fun z => z.cell? ⟨w.heap.size, 0, none⟩ = some (.int .i64 k) ∧ z.cell? ⟨w.heap.size, 1, none⟩ = some (.int .i64 f) ∧ z.cell? ⟨w.heap.size, 2, none⟩ = some (.bool ng) ∧ z.cell? ⟨w.heap.size, 3, none⟩ = some (.slice aq nu.length ac) ∧ z.cell? ⟨w.heap.size, 4, none⟩ = some (.slice cq de.length cc) ∧ z.cell? ⟨w.heap.size, 5, none⟩ = some (.string m) ∧ z.cell? ⟨w.heap.size, 6, none⟩ = some (.slice sq n sc)) w2 := ⟨(hb2.cell (by exact hsz)).trans hS0.1, (hb2.cell (by exact hsz)).trans hS0.2.1, (hb2.cell (by exact hsz)).trans hS0.2.2.1, (hb2.cell (by exact hsz)).trans hS0.2.2.2.1, (hb2.cell (by exact hsz)).trans hS0.2.2.2.2.1, (hb2.cell (by exact hsz)).trans hS0.2.2.2.2.2.1, (hb2.cell (by exact hsz)).trans hS0.2.2.2.2.2.2⟩))
    obtain ⟨x0, x1, x2, x3, x4, x5, x6⟩ := hS2
    have hbw : Hid (Below w.heap.size w w2) := hb1.out.trans (hb2.mono hb1.out.size)
    have hsz2 : w.heap.size < w2.heap.size := Nat.lt_of_lt_of_le hsz hb2.size
    clear hS0 harg hb2 hsz hkq hn'
    cases A with
    | false =>
      go_wp2_with fail
      go_ret
      exact ⟨by rw [← hR.out]; unfold nodeOk; rw [hA.out]; simp, hbw.out⟩
    | true =>
      have hB : Hid ((decide (kidsI k = n) && (decide (loA k ≤ f) && decide (f ≤ hiA k))) = true) := by
        show _ = true
        rw [hA.out, hK.out, decide_eq_true hn2.out]; rfl
      clear hA hn2 hK
      by_cases k1 : k = 1
      · subst k1
        have hl := hlg.out w2 hbw.out
        obtain ⟨L, hL⟩ : ∃ L, Hid (large (val nu) (val de) = L) := ⟨_, rfl⟩
        rw [hL.out] at hl
        cases L with
        | true =>
          go_wp2_with (go_at_call 37; with_reducible refine hl.mono ?_; rintro e w3 ⟨rfl, hb3⟩)
          go_ret
          exact ⟨by rw [← hR.out]; unfold nodeOk; rw [hL.out]; simp, hbw.out.trans (hb3.mono hbw.out.size)⟩
        | false =>
          obtain ⟨G, hS⟩ : ∃ S, Hid (sgnQ ng (val nu) (val de) = S) := ⟨_, rfl⟩
          by_cases hS0 : 0 ≤ G
          · have hS1 : (G : Int) ≥ 0 := hS0
            have hS0 : Hid (0 ≤ G) := hS0
            cases he : (m.toList == []) with
            | true =>
              have hm : Hid (m.size = 0) := of_decide_eq_true (p := m.size = 0) (by rw [← empty_list]; exact he)
              go_wp2_with (first
                | (go_at_call 37; with_reducible refine hl.mono ?_; rintro e w3 ⟨rfl, hb3⟩
                   have y0 := (hb3.cell (p := ⟨w.heap.size, 0, none⟩) (by exact hsz2)).trans x0
                   have y1 := (hb3.cell (p := ⟨w.heap.size, 1, none⟩) (by exact hsz2)).trans x1
                   have y2 := (hb3.cell (p := ⟨w.heap.size, 2, none⟩) (by exact hsz2)).trans x2
                   have y3 := (hb3.cell (p := ⟨w.heap.size, 3, none⟩) (by exact hsz2)).trans x3
                   have y4 := (hb3.cell (p := ⟨w.heap.size, 4, none⟩) (by exact hsz2)).trans x4
                   have y5 := (hb3.cell (p := ⟨w.heap.size, 5, none⟩) (by exact hsz2)).trans x5
                   have y6 := (hb3.cell (p := ⟨w.heap.size, 6, none⟩) (by exact hsz2)).trans x6
                   have hsz3 : w.heap.size < w3.heap.size := Nat.lt_of_lt_of_le hsz2 hb3.size
                   have hw3 : Hid (Below w.heap.size w w3) := hbw.out.trans (hb3.mono hbw.out.size)
                   clear x0 x1 x2 x3 x4 x5 x6 hb3)
                | (go_at_call 74; with_reducible refine (hof.out w3 hw3.out).mono ?_; rintro e w4 ⟨v, rfl, hq, hb4⟩
                   have hsn := sgn_ok hq
                   rw [hsg.out, hS.out] at hsn
                   have z5 := (hb4.cell (p := ⟨w.heap.size, 5, none⟩) (by exact hsz3)).trans y5
                   have hsz4 : w.heap.size < w4.heap.size := Nat.lt_of_lt_of_le hsz3 hb4.size
                   have hw4 : Hid (Below w.heap.size w w4) := hw3.out.trans (hb4.mono hw3.out.size)
                   clear hb4 hq y0 y1 y2 y3 y4 y5 y6)
                | (go_at_call 248; with_reducible refine hsn.mono ?_; rintro e w5 ⟨rfl, hb5⟩
                   have v5 := (hb5.cell (p := ⟨w.heap.size, 5, none⟩) (by exact hsz4)).trans z5
                   have hw5 : Hid (Below w.heap.size w w5) := hw4.out.trans (hb5.mono hw4.out.size)
                   clear hb5 z5))
              go_ret
              exact ⟨by rw [← hR.out]; unfold nodeOk; rw [hB.out, hL.out, hS.out, decide_eq_true hS0.out, decide_eq_true hm.out]; rfl, hw5.out⟩
            | false =>
              have hm : Hid (¬ m.size = 0) := fun h => by
                rw [empty_list, decide_eq_true h] at he; cases he
              go_wp2_with (first
                | (go_at_call 37; with_reducible refine hl.mono ?_; rintro e w3 ⟨rfl, hb3⟩
                   have y0 := (hb3.cell (p := ⟨w.heap.size, 0, none⟩) (by exact hsz2)).trans x0
                   have y1 := (hb3.cell (p := ⟨w.heap.size, 1, none⟩) (by exact hsz2)).trans x1
                   have y2 := (hb3.cell (p := ⟨w.heap.size, 2, none⟩) (by exact hsz2)).trans x2
                   have y3 := (hb3.cell (p := ⟨w.heap.size, 3, none⟩) (by exact hsz2)).trans x3
                   have y4 := (hb3.cell (p := ⟨w.heap.size, 4, none⟩) (by exact hsz2)).trans x4
                   have y5 := (hb3.cell (p := ⟨w.heap.size, 5, none⟩) (by exact hsz2)).trans x5
                   have y6 := (hb3.cell (p := ⟨w.heap.size, 6, none⟩) (by exact hsz2)).trans x6
                   have hsz3 : w.heap.size < w3.heap.size := Nat.lt_of_lt_of_le hsz2 hb3.size
                   have hw3 : Hid (Below w.heap.size w w3) := hbw.out.trans (hb3.mono hbw.out.size)
                   clear x0 x1 x2 x3 x4 x5 x6 hb3)
                | (go_at_call 74; with_reducible refine (hof.out w3 hw3.out).mono ?_; rintro e w4 ⟨v, rfl, hq, hb4⟩
                   have hsn := sgn_ok hq
                   rw [hsg.out, hS.out] at hsn
                   have z5 := (hb4.cell (p := ⟨w.heap.size, 5, none⟩) (by exact hsz3)).trans y5
                   have hsz4 : w.heap.size < w4.heap.size := Nat.lt_of_lt_of_le hsz3 hb4.size
                   have hw4 : Hid (Below w.heap.size w w4) := hw3.out.trans (hb4.mono hw3.out.size)
                   clear hb4 hq y0 y1 y2 y3 y4 y5 y6)
                | (go_at_call 248; with_reducible refine hsn.mono ?_; rintro e w5 ⟨rfl, hb5⟩
                   have v5 := (hb5.cell (p := ⟨w.heap.size, 5, none⟩) (by exact hsz4)).trans z5
                   have hw5 : Hid (Below w.heap.size w w5) := hw4.out.trans (hb5.mono hw4.out.size)
                   clear hb5 z5))
              go_ret
              exact ⟨by rw [← hR.out]; unfold nodeOk; rw [decide_eq_false hm.out]; simp, hw5.out⟩
          · have hS1 : ¬ (G : Int) ≥ 0 := hS0
            have hS0 : Hid (¬ 0 ≤ G) := hS0
            go_wp2_with (first
              | (go_at_call 37; with_reducible refine hl.mono ?_; rintro e w3 ⟨rfl, hb3⟩
                 have y0 := (hb3.cell (p := ⟨w.heap.size, 0, none⟩) (by exact hsz2)).trans x0
                 have y1 := (hb3.cell (p := ⟨w.heap.size, 1, none⟩) (by exact hsz2)).trans x1
                 have y2 := (hb3.cell (p := ⟨w.heap.size, 2, none⟩) (by exact hsz2)).trans x2
                 have y3 := (hb3.cell (p := ⟨w.heap.size, 3, none⟩) (by exact hsz2)).trans x3
                 have y4 := (hb3.cell (p := ⟨w.heap.size, 4, none⟩) (by exact hsz2)).trans x4
                 have y5 := (hb3.cell (p := ⟨w.heap.size, 5, none⟩) (by exact hsz2)).trans x5
                 have y6 := (hb3.cell (p := ⟨w.heap.size, 6, none⟩) (by exact hsz2)).trans x6
                 have hsz3 : w.heap.size < w3.heap.size := Nat.lt_of_lt_of_le hsz2 hb3.size
                 have hw3 : Hid (Below w.heap.size w w3) := hbw.out.trans (hb3.mono hbw.out.size)
                 clear x0 x1 x2 x3 x4 x5 x6 hb3)
              | (go_at_call 74; with_reducible refine (hof.out w3 hw3.out).mono ?_; rintro e w4 ⟨v, rfl, hq, hb4⟩
                 have hsn := sgn_ok hq
                 rw [hsg.out, hS.out] at hsn
                 have z5 := (hb4.cell (p := ⟨w.heap.size, 5, none⟩) (by exact hsz3)).trans y5
                 have hsz4 : w.heap.size < w4.heap.size := Nat.lt_of_lt_of_le hsz3 hb4.size
                 have hw4 : Hid (Below w.heap.size w w4) := hw3.out.trans (hb4.mono hw3.out.size)
                 clear hb4 hq y0 y1 y2 y3 y4 y5 y6)
              | (go_at_call 248; with_reducible refine hsn.mono ?_; rintro e w5 ⟨rfl, hb5⟩
                 have v5 := (hb5.cell (p := ⟨w.heap.size, 5, none⟩) (by exact hsz4)).trans z5
                 have hw5 : Hid (Below w.heap.size w w5) := hw4.out.trans (hb5.mono hw4.out.size)
                 clear hb5 z5))
            go_ret
            exact ⟨by rw [← hR.out]; unfold nodeOk; rw [hS.out, decide_eq_false (by have := hS0.out; omega : ¬ 0 ≤ G)]; simp, hw5.out⟩
      · have n1 : (k == 1) = false := by simp; omega
        have k1' : Hid (k ≠ 1) := k1
        have hz := hze.out w2 hbw.out
        clear k1
        obtain ⟨Z, hZ⟩ : ∃ Z, Hid (decide (val nu = 0) = Z) := ⟨_, rfl⟩
        rw [hZ.out] at hz
        cases Z with
        | false =>
          go_wp2_with (go_at_call 70; with_reducible refine hz.mono ?_; rintro e w3 ⟨rfl, hb3⟩)
          go_ret
          exact ⟨by rw [← hR.out]; unfold nodeOk; rw [if_neg k1'.out, hZ.out]; simp, hbw.out.trans (hb3.mono hbw.out.size)⟩
        | true =>
          go_upto_region 7 with (go_at_call 70; with_reducible refine hz.mono ?_; rintro e w3 ⟨rfl, hb3⟩)
          have hbw3 : Hid (Below w.heap.size w w3) := hbw.out.trans (hb3.mono hbw.out.size)
          have y0 := (hb3.cell (p := ⟨w.heap.size, 0, none⟩) (by exact hsz2)).trans x0
          have y5 := (hb3.cell (p := ⟨w.heap.size, 5, none⟩) (by exact hsz2)).trans x5
          clear x0 x1 x2 x3 x4 x5 x6 hb3
          by_cases k2 : k = 2
          · subst k2
            have hnm := nameQ_ok m w3
            go_wp2_with (go_at_call 249; with_reducible refine hnm.mono ?_; rintro e w4 ⟨rfl, hb4⟩)
            go_ret
            exact ⟨by rw [← hR.out]; unfold nodeOk; rw [hB.out, hZ.out]; simp, hbw3.out.trans (hb4.mono hbw3.out.size)⟩
          · have n2 : (k == 2) = false := by simp; omega
            have k2' : Hid (k ≠ 2) := k2
            clear k2
            have he := empty_list m
            obtain ⟨E, hE⟩ : ∃ E, Hid (decide (m.size = 0) = E) := ⟨_, rfl⟩
            rw [hE.out] at he
            go_wp2_with fail
            go_ret
            exact ⟨by rw [← hR.out]; unfold nodeOk; rw [hB.out, hZ.out, if_neg k1'.out, if_neg k2'.out, hE.out]; rfl, hbw3.out⟩
  · have hn' : (K != (n : Int)) = true := by simp [hn]
    go_enter Tryz.func144, Tryz.ntmps144
    go_wp2_with fail
    go_quiet (first | (go_at_call_of 246 (Value.int IntKind.i64 k); refine Calls.quiet_of_same (hkq _)))
    go_wp2_with fail
    go_ret
    exact ⟨by rw [← hR.out]; unfold nodeOk; rw [hK.out, decide_eq_false hn]; simp, below_draws hb0.out _⟩
end Go.Proofs.YtgmbeedbeahblaaGreatDoor
