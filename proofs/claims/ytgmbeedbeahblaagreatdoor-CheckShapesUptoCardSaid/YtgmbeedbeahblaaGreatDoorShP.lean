/-
  check.walk with wellFormed, the reference's formed, one level.
-/
import Derived.Test.YtgmbeedbeahblaaGreatDoorShM
namespace Go.Proofs.YtgmbeedbeahblaaGreatDoor
open Go Go.RowKit

theorem all_hit {n : Nat} {f : Nat → Bool} {i : Nat} (hi : i < n) (h : f i = false) : (List.range n).all f = false := all_bad hi h

set_option maxRecDepth 100000 in
set_option maxHeartbeats 4000000 in
/-- check.walk with wellFormed, one level. -/
theorem walkF_step {w : World} {d : Sd} (ds : Nat → Sd) (F : Nat → Bool) {A : Bool} (hkin : d.kin ≤ 1099511627776) (hk : d.kin = 0 ∨ ∃ b o, d.kiq = some ⟨b, o, none⟩ ∧ b < w.heap.size ∧ ∀ i, i < d.kin → w.rangeAt b (o + i * 21) (ds i).cells)
    (hV : ∀ z, Below w.heap.size w z → Calls Tryz.prog 12 #[.agg #[.int .i64 d.s.ru, .string d.s.nm, .string d.s.ot, .bool d.s.g, .slice d.aq d.an d.ac, .slice d.cq d.cn d.cc, .int .i64 d.s.kk, .int .i64 d.s.nn, .int .i64 d.s.pr, .int .i64 d.e.k, .int .i64 d.e.f, .bool d.e.neg, .slice d.e.aq d.e.an d.e.ac, .slice d.e.cq d.e.cn d.e.cc, .string d.e.m, .slice d.e.sq d.e.sn d.e.sc, .slice d.poq d.pon d.poc, .string d.s.en, .int .i64 d.s.ve, .slice d.arq d.arn d.arc, .slice d.kiq d.kin d.kic]] z fun e w' => e = .returned (.bool A) ∧ Below z.heap.size z w')
    (hR : ∀ i, i < d.kin → ∀ z, Below w.heap.size w z → Calls Tryz.prog 11 #[.agg (ds i).cells.toArray, .func (.func 12) #[] #[]] z fun e w' => e = .returned (.bool (F i)) ∧ Below z.heap.size z w') :
    Calls Tryz.prog 11 #[.agg #[.int .i64 d.s.ru, .string d.s.nm, .string d.s.ot, .bool d.s.g, .slice d.aq d.an d.ac, .slice d.cq d.cn d.cc, .int .i64 d.s.kk, .int .i64 d.s.nn, .int .i64 d.s.pr, .int .i64 d.e.k, .int .i64 d.e.f, .bool d.e.neg, .slice d.e.aq d.e.an d.e.ac, .slice d.e.cq d.e.cn d.e.cc, .string d.e.m, .slice d.e.sq d.e.sn d.e.sc, .slice d.poq d.pon d.poc, .string d.s.en, .int .i64 d.s.ve, .slice d.arq d.arn d.arc, .slice d.kiq d.kin d.kic], .func (.func 12) #[] #[]] w fun e w' => e = .returned (.bool (A && (List.range d.kin).all F)) ∧ Below w.heap.size w w' := by
  have hk' : Hid (d.kin = 0 ∨ ∃ b o, d.kiq = some ⟨b, o, none⟩ ∧ b < w.heap.size ∧ ∀ i, i < d.kin → w.rangeAt b (o + i * 21) (ds i).cells) := hk
  clear hk
  obtain ⟨dd, hu, hd⟩ := st_row
  have hHu : Hid (Tryz.prog.underlying 32 = some dd) := hu
  clear hu
  have hb0 : Hid (Below w.heap.size w (w.alloc (.cells #[.int .i64 d.s.ru, .string d.s.nm, .string d.s.ot, .bool d.s.g, .slice d.aq d.an d.ac, .slice d.cq d.cn d.cc, .int .i64 d.s.kk, .int .i64 d.s.nn, .int .i64 d.s.pr, .int .i64 d.e.k, .int .i64 d.e.f, .bool d.e.neg, .slice d.e.aq d.e.an d.e.ac, .slice d.e.cq d.e.cn d.e.cc, .string d.e.m, .slice d.e.sq d.e.sn d.e.sc, .slice d.poq d.pon d.poc, .string d.s.en, .int .i64 d.s.ve, .slice d.arq d.arn d.arc, .slice d.kiq d.kin d.kic] 32))) := below_alloc w _
  have D0 : Hid ((w.alloc (.cells #[.int .i64 d.s.ru, .string d.s.nm, .string d.s.ot, .bool d.s.g, .slice d.aq d.an d.ac, .slice d.cq d.cn d.cc, .int .i64 d.s.kk, .int .i64 d.s.nn, .int .i64 d.s.pr, .int .i64 d.e.k, .int .i64 d.e.f, .bool d.e.neg, .slice d.e.aq d.e.an d.e.ac, .slice d.e.cq d.e.cn d.e.cc, .string d.e.m, .slice d.e.sq d.e.sn d.e.sc, .slice d.poq d.pon d.poc, .string d.s.en, .int .i64 d.s.ve, .slice d.arq d.arn d.arc, .slice d.kiq d.kin d.kic] 32)).rangeAt (w.heap.size) 0 d.cells) := range_new w d.cells 32
  have hz0 : (w.alloc (.cells #[.int .i64 d.s.ru, .string d.s.nm, .string d.s.ot, .bool d.s.g, .slice d.aq d.an d.ac, .slice d.cq d.cn d.cc, .int .i64 d.s.kk, .int .i64 d.s.nn, .int .i64 d.s.pr, .int .i64 d.e.k, .int .i64 d.e.f, .bool d.e.neg, .slice d.e.aq d.e.an d.e.ac, .slice d.e.cq d.e.cn d.e.cc, .string d.e.m, .slice d.e.sq d.e.sn d.e.sc, .slice d.poq d.pon d.poc, .string d.s.en, .int .i64 d.s.ve, .slice d.arq d.arn d.arc, .slice d.kiq d.kin d.kic] 32)).heap.size = w.heap.size + 1 := by simp
  have k20' : (w.alloc (.cells #[.int .i64 d.s.ru, .string d.s.nm, .string d.s.ot, .bool d.s.g, .slice d.aq d.an d.ac, .slice d.cq d.cn d.cc, .int .i64 d.s.kk, .int .i64 d.s.nn, .int .i64 d.s.pr, .int .i64 d.e.k, .int .i64 d.e.f, .bool d.e.neg, .slice d.e.aq d.e.an d.e.ac, .slice d.e.cq d.e.cn d.e.cc, .string d.e.m, .slice d.e.sq d.e.sn d.e.sc, .slice d.poq d.pon d.poc, .string d.s.en, .int .i64 d.s.ve, .slice d.arq d.arn d.arc, .slice d.kiq d.kin d.kic] 32)).cell? ⟨w.heap.size, 20, none⟩ = some (.slice d.kiq d.kin d.kic) := by simp
  have hVc := hV _ hb0.out
  clear hV
  obtain ⟨R, hRR⟩ : ∃ R, Hid ((List.range d.kin).all F = R) := ⟨_, rfl⟩
  rw [hRR.out]
  have hR1 : Hid (∀ k, k < d.kin → F k = false → R = false) := fun k hk h => by rw [← hRR.out, all_hit hk h]
  have hR2 : Hid ((∀ j, j < d.kin → F j = true) → R = true) := fun h => by rw [← hRR.out, all_good h]
  clear hRR
  cases A with
  | false =>
    go_enter Tryz.func11, Tryz.ntmps11
    go_wp2_with (first
      | (with_reducible refine wpList_load_mid (op := ⟨some 8, _, _, _, _, _⟩) ?_ 32 (.tmp 2) ?_ (w.heap.size) (0) ?_ d.cells dd ?_ hHu.out hd ?_ ?_
         rotate_left 1
         · with_reducible rfl
         · kernel_rfl
         · exact D0.out
         · (first | exact st_size | (rw [lx]; exact st_size))
         rotate_left 1
         · rfl)
      | (go_at_call 12; refine hVc.mono ?_; rintro e w2 ⟨rfl, hb2⟩))
    go_ret
    exact ⟨rfl, hb0.out.trans (hb2.mono hb0.out.size)⟩
  | true =>
    go_enter Tryz.func11, Tryz.ntmps11
    go_wp2_with (first
      | (with_reducible refine wpList_load_mid (op := ⟨some 8, _, _, _, _, _⟩) ?_ 32 (.tmp 2) ?_ (w.heap.size) (0) ?_ d.cells dd ?_ hHu.out hd ?_ ?_
         rotate_left 1
         · with_reducible rfl
         · kernel_rfl
         · exact D0.out
         · (first | exact st_size | (rw [lx]; exact st_size))
         rotate_left 1
         · rfl)
      | (go_at_call 12; refine hVc.mono ?_; rintro e w2 ⟨rfl, hb2⟩
         have k20 : w2.cell? ⟨w.heap.size, 20, none⟩ = some (.slice d.kiq d.kin d.kic) := (hb2.cell (by show w.heap.size < _; omega)).trans k20'
         have W2 : Hid (Below w.heap.size w w2) := hb0.out.trans (hb2.mono hb0.out.size)))
    go_loopw [14] (fun i wr => ∃ k : Nat, k ≤ d.kin ∧ i = .int .i64 k ∧ Hid (∀ j, j < k → F j = true) ∧ Below w2.heap.size w2 wr) (fun i _ => d.kin - (intOf i).toNat)
    case atStart => exact ⟨0, Nat.zero_le _, rfl, fun j hj => by omega, Below.refl _ _⟩
    case round =>
      obtain ⟨k, hk, rfl, hz, hbr⟩ := hrel
      by_cases hlt : k < d.kin
      · have hlt' : (k : Int) < (d.kin : Int) := by omega
        rcases hk'.out with h0 | ⟨b, o, hq, hbb, hcx⟩
        · omega
        have hbel : Hid (Below w.heap.size w wr) := W2.out.trans (hbr.mono W2.out.size)
        have hbr' : Hid (Below w2.heap.size w2 wr) := hbr
        have hx := rangeAt_below (hcx k hlt) hbel.out hbb
        have lx : (ds k).cells.length = 21 := rfl
        have ox' : Hid ((ds k).cells.toArray.all (·.oneCell') = true) := (ds k).one
        have hRk := hR k hlt
        clear hcx hR hbr hb2
        generalize (ds k).cells = cx at *
        rw [hq]
        have X1 : Hid ((wr.alloc (.cells cx.toArray 32)).rangeAt wr.heap.size 0 cx) := range_new _ _ _
        have hb3 : Hid (Below wr.heap.size wr (wr.alloc (.cells cx.toArray 32))) := below_alloc wr _
        have hcall := hRk _ (hbel.out.trans (hb3.out.mono hbel.out.size))
        clear hRk
        obtain ⟨B, hB⟩ : ∃ B, Hid (F k = B) := ⟨_, rfl⟩
        rw [hB.out] at hcall
        cases B with
        | false =>
          have hRf := hR1.out k hlt hB.out
          subst hRf
          go_wp2_with (first
            | (with_reducible refine wpList_load_mid (op := ⟨some 17, _, _, _, _, _⟩) ?_ 32 (.tmp 16) ?_ (b) (o + k * 21) ?_ cx dd ?_ hHu.out hd ?_ ?_
               rotate_left 1
               · with_reducible rfl
               · kernel_rfl
               · exact hx
               · (first | exact st_size | (rw [lx]; exact st_size))
               rotate_left 1
               · rfl)
            | (with_reducible refine wpList_store_new ?_ 32 (.tmp 6) (.tmp 17) ?_ cx.toArray wr.heap.size rfl ?_ ?_ ?_ ?_ ox'.out ?_
               rotate_left 1
               · with_reducible rfl
               · rfl
               · rfl
               · simp [lx]
               · (simp only [List.size_toArray, lx]; exact st_size)
               rotate_left 1
               · rfl)
            | (with_reducible refine wpList_load_mid (op := ⟨some 18, _, _, _, _, _⟩) ?_ 32 (.tmp 6) ?_ (wr.heap.size) (0) ?_ cx dd ?_ hHu.out hd ?_ ?_
               rotate_left 1
               · with_reducible rfl
               · kernel_rfl
               · exact X1.out
               · (first | exact st_size | (rw [lx]; exact st_size))
               rotate_left 1
               · rfl)
            | (go_at_call 11; with_reducible refine hcall.mono ?_; rintro e w5 ⟨rfl, hb5⟩))
          go_ret
          exact ⟨rfl, hbel.out.trans ((hb3.out.trans (hb5.mono hb3.out.size)).mono hbel.out.size)⟩
        | true =>
          have hz' : Hid (∀ j, j < k + 1 → F j = true) := fun j hj => by
            rcases Nat.lt_or_ge j k with h | h
            · exact hz.out j h
            · have : j = k := by omega
              subst this; exact hB.out
          go_wp2_with (first
            | (with_reducible refine wpList_load_mid (op := ⟨some 17, _, _, _, _, _⟩) ?_ 32 (.tmp 16) ?_ (b) (o + k * 21) ?_ cx dd ?_ hHu.out hd ?_ ?_
               rotate_left 1
               · with_reducible rfl
               · kernel_rfl
               · exact hx
               · (first | exact st_size | (rw [lx]; exact st_size))
               rotate_left 1
               · rfl)
            | (with_reducible refine wpList_store_new ?_ 32 (.tmp 6) (.tmp 17) ?_ cx.toArray wr.heap.size rfl ?_ ?_ ?_ ?_ ox'.out ?_
               rotate_left 1
               · with_reducible rfl
               · rfl
               · rfl
               · simp [lx]
               · (simp only [List.size_toArray, lx]; exact st_size)
               rotate_left 1
               · rfl)
            | (with_reducible refine wpList_load_mid (op := ⟨some 18, _, _, _, _, _⟩) ?_ 32 (.tmp 6) ?_ (wr.heap.size) (0) ?_ cx dd ?_ hHu.out hd ?_ ?_
               rotate_left 1
               · with_reducible rfl
               · kernel_rfl
               · exact X1.out
               · (first | exact st_size | (rw [lx]; exact st_size))
               rotate_left 1
               · rfl)
            | (go_at_call 11; with_reducible refine hcall.mono ?_; rintro e w5 ⟨rfl, hb5⟩))
          go_roundw
          case rel => exact ⟨k + 1, by omega, by go_num, hz', hbr'.out.trans ((hb3.out.trans (hb5.mono hb3.out.size)).mono hbr'.out.size)⟩
          case measure => simp [intOf]; omega
      · have hkk : k = d.kin := by omega
        subst hkk
        have hRt := hR2.out hz.out
        subst hRt
        go_wp2_with fail
        go_ret
        exact ⟨rfl, W2.out.trans (hbr.mono W2.out.size)⟩

set_option maxRecDepth 100000 in
set_option maxHeartbeats 4000000 in
/-- The reference's formed, one level. -/
theorem formed_step {w : World} {d : Sd} (ds : Nat → Sd) (F : Nat → Bool) {A : Bool} (hkin : d.kin ≤ 1099511627776) (hk : d.kin = 0 ∨ ∃ b o, d.kiq = some ⟨b, o, none⟩ ∧ b < w.heap.size ∧ ∀ i, i < d.kin → w.rangeAt b (o + i * 21) (ds i).cells)
    (hV : ∀ z, Below w.heap.size w z → Calls Tryz.prog 25 #[.agg #[.int .i64 d.s.ru, .string d.s.nm, .string d.s.ot, .bool d.s.g, .slice d.aq d.an d.ac, .slice d.cq d.cn d.cc, .int .i64 d.s.kk, .int .i64 d.s.nn, .int .i64 d.s.pr, .int .i64 d.e.k, .int .i64 d.e.f, .bool d.e.neg, .slice d.e.aq d.e.an d.e.ac, .slice d.e.cq d.e.cn d.e.cc, .string d.e.m, .slice d.e.sq d.e.sn d.e.sc, .slice d.poq d.pon d.poc, .string d.s.en, .int .i64 d.s.ve, .slice d.arq d.arn d.arc, .slice d.kiq d.kin d.kic]] z fun e w' => e = .returned (.bool A) ∧ Below z.heap.size z w')
    (hR : ∀ i, i < d.kin → ∀ z, Below w.heap.size w z → Calls Tryz.prog 13 #[.agg (ds i).cells.toArray] z fun e w' => e = .returned (.bool (F i)) ∧ Below z.heap.size z w') :
    Calls Tryz.prog 13 #[.agg #[.int .i64 d.s.ru, .string d.s.nm, .string d.s.ot, .bool d.s.g, .slice d.aq d.an d.ac, .slice d.cq d.cn d.cc, .int .i64 d.s.kk, .int .i64 d.s.nn, .int .i64 d.s.pr, .int .i64 d.e.k, .int .i64 d.e.f, .bool d.e.neg, .slice d.e.aq d.e.an d.e.ac, .slice d.e.cq d.e.cn d.e.cc, .string d.e.m, .slice d.e.sq d.e.sn d.e.sc, .slice d.poq d.pon d.poc, .string d.s.en, .int .i64 d.s.ve, .slice d.arq d.arn d.arc, .slice d.kiq d.kin d.kic]] w fun e w' => e = .returned (.bool (A && (List.range d.kin).all F)) ∧ Below w.heap.size w w' := by
  have hk' : Hid (d.kin = 0 ∨ ∃ b o, d.kiq = some ⟨b, o, none⟩ ∧ b < w.heap.size ∧ ∀ i, i < d.kin → w.rangeAt b (o + i * 21) (ds i).cells) := hk
  clear hk
  obtain ⟨dd, hu, hd⟩ := st_row
  have hHu : Hid (Tryz.prog.underlying 32 = some dd) := hu
  clear hu
  have hb0 : Hid (Below w.heap.size w (w.alloc (.cells #[.int .i64 d.s.ru, .string d.s.nm, .string d.s.ot, .bool d.s.g, .slice d.aq d.an d.ac, .slice d.cq d.cn d.cc, .int .i64 d.s.kk, .int .i64 d.s.nn, .int .i64 d.s.pr, .int .i64 d.e.k, .int .i64 d.e.f, .bool d.e.neg, .slice d.e.aq d.e.an d.e.ac, .slice d.e.cq d.e.cn d.e.cc, .string d.e.m, .slice d.e.sq d.e.sn d.e.sc, .slice d.poq d.pon d.poc, .string d.s.en, .int .i64 d.s.ve, .slice d.arq d.arn d.arc, .slice d.kiq d.kin d.kic] 32))) := below_alloc w _
  have D0 : Hid ((w.alloc (.cells #[.int .i64 d.s.ru, .string d.s.nm, .string d.s.ot, .bool d.s.g, .slice d.aq d.an d.ac, .slice d.cq d.cn d.cc, .int .i64 d.s.kk, .int .i64 d.s.nn, .int .i64 d.s.pr, .int .i64 d.e.k, .int .i64 d.e.f, .bool d.e.neg, .slice d.e.aq d.e.an d.e.ac, .slice d.e.cq d.e.cn d.e.cc, .string d.e.m, .slice d.e.sq d.e.sn d.e.sc, .slice d.poq d.pon d.poc, .string d.s.en, .int .i64 d.s.ve, .slice d.arq d.arn d.arc, .slice d.kiq d.kin d.kic] 32)).rangeAt (w.heap.size) 0 d.cells) := range_new w d.cells 32
  have hz0 : (w.alloc (.cells #[.int .i64 d.s.ru, .string d.s.nm, .string d.s.ot, .bool d.s.g, .slice d.aq d.an d.ac, .slice d.cq d.cn d.cc, .int .i64 d.s.kk, .int .i64 d.s.nn, .int .i64 d.s.pr, .int .i64 d.e.k, .int .i64 d.e.f, .bool d.e.neg, .slice d.e.aq d.e.an d.e.ac, .slice d.e.cq d.e.cn d.e.cc, .string d.e.m, .slice d.e.sq d.e.sn d.e.sc, .slice d.poq d.pon d.poc, .string d.s.en, .int .i64 d.s.ve, .slice d.arq d.arn d.arc, .slice d.kiq d.kin d.kic] 32)).heap.size = w.heap.size + 1 := by simp
  have k20' : (w.alloc (.cells #[.int .i64 d.s.ru, .string d.s.nm, .string d.s.ot, .bool d.s.g, .slice d.aq d.an d.ac, .slice d.cq d.cn d.cc, .int .i64 d.s.kk, .int .i64 d.s.nn, .int .i64 d.s.pr, .int .i64 d.e.k, .int .i64 d.e.f, .bool d.e.neg, .slice d.e.aq d.e.an d.e.ac, .slice d.e.cq d.e.cn d.e.cc, .string d.e.m, .slice d.e.sq d.e.sn d.e.sc, .slice d.poq d.pon d.poc, .string d.s.en, .int .i64 d.s.ve, .slice d.arq d.arn d.arc, .slice d.kiq d.kin d.kic] 32)).cell? ⟨w.heap.size, 20, none⟩ = some (.slice d.kiq d.kin d.kic) := by simp
  have hVc := hV _ hb0.out
  clear hV
  obtain ⟨R, hRR⟩ : ∃ R, Hid ((List.range d.kin).all F = R) := ⟨_, rfl⟩
  rw [hRR.out]
  have hR1 : Hid (∀ k, k < d.kin → F k = false → R = false) := fun k hk h => by rw [← hRR.out, all_hit hk h]
  have hR2 : Hid ((∀ j, j < d.kin → F j = true) → R = true) := fun h => by rw [← hRR.out, all_good h]
  clear hRR
  cases A with
  | false =>
    go_enter Tryz.func13, Tryz.ntmps13
    go_wp2_with (first
      | (with_reducible refine wpList_load_mid (op := ⟨some 5, _, _, _, _, _⟩) ?_ 32 (.tmp 1) ?_ (w.heap.size) (0) ?_ d.cells dd ?_ hHu.out hd ?_ ?_
         rotate_left 1
         · with_reducible rfl
         · kernel_rfl
         · exact D0.out
         · (first | exact st_size | (rw [lx]; exact st_size))
         rotate_left 1
         · rfl)
      | (go_at_call 25; refine hVc.mono ?_; rintro e w2 ⟨rfl, hb2⟩))
    go_ret
    exact ⟨rfl, hb0.out.trans (hb2.mono hb0.out.size)⟩
  | true =>
    go_enter Tryz.func13, Tryz.ntmps13
    go_wp2_with (first
      | (with_reducible refine wpList_load_mid (op := ⟨some 5, _, _, _, _, _⟩) ?_ 32 (.tmp 1) ?_ (w.heap.size) (0) ?_ d.cells dd ?_ hHu.out hd ?_ ?_
         rotate_left 1
         · with_reducible rfl
         · kernel_rfl
         · exact D0.out
         · (first | exact st_size | (rw [lx]; exact st_size))
         rotate_left 1
         · rfl)
      | (go_at_call 25; refine hVc.mono ?_; rintro e w2 ⟨rfl, hb2⟩
         have k20 : w2.cell? ⟨w.heap.size, 20, none⟩ = some (.slice d.kiq d.kin d.kic) := (hb2.cell (by show w.heap.size < _; omega)).trans k20'
         have W2 : Hid (Below w.heap.size w w2) := hb0.out.trans (hb2.mono hb0.out.size)))
    go_loopw [11] (fun i wr => ∃ k : Nat, k ≤ d.kin ∧ i = .int .i64 k ∧ Hid (∀ j, j < k → F j = true) ∧ Below w2.heap.size w2 wr) (fun i _ => d.kin - (intOf i).toNat)
    case atStart => exact ⟨0, Nat.zero_le _, rfl, fun j hj => by omega, Below.refl _ _⟩
    case round =>
      obtain ⟨k, hk, rfl, hz, hbr⟩ := hrel
      by_cases hlt : k < d.kin
      · have hlt' : (k : Int) < (d.kin : Int) := by omega
        rcases hk'.out with h0 | ⟨b, o, hq, hbb, hcx⟩
        · omega
        have hbel : Hid (Below w.heap.size w wr) := W2.out.trans (hbr.mono W2.out.size)
        have hbr' : Hid (Below w2.heap.size w2 wr) := hbr
        have hx := rangeAt_below (hcx k hlt) hbel.out hbb
        have lx : (ds k).cells.length = 21 := rfl
        have ox' : Hid ((ds k).cells.toArray.all (·.oneCell') = true) := (ds k).one
        have hRk := hR k hlt
        clear hcx hR hbr hb2
        generalize (ds k).cells = cx at *
        rw [hq]
        have X1 : Hid ((wr.alloc (.cells cx.toArray 32)).rangeAt wr.heap.size 0 cx) := range_new _ _ _
        have hb3 : Hid (Below wr.heap.size wr (wr.alloc (.cells cx.toArray 32))) := below_alloc wr _
        have hcall := hRk _ (hbel.out.trans (hb3.out.mono hbel.out.size))
        clear hRk
        obtain ⟨B, hB⟩ : ∃ B, Hid (F k = B) := ⟨_, rfl⟩
        rw [hB.out] at hcall
        cases B with
        | false =>
          have hRf := hR1.out k hlt hB.out
          subst hRf
          go_wp2_with (first
            | (with_reducible refine wpList_load_mid (op := ⟨some 14, _, _, _, _, _⟩) ?_ 32 (.tmp 13) ?_ (b) (o + k * 21) ?_ cx dd ?_ hHu.out hd ?_ ?_
               rotate_left 1
               · with_reducible rfl
               · kernel_rfl
               · exact hx
               · (first | exact st_size | (rw [lx]; exact st_size))
               rotate_left 1
               · rfl)
            | (with_reducible refine wpList_store_new ?_ 32 (.tmp 4) (.tmp 14) ?_ cx.toArray wr.heap.size rfl ?_ ?_ ?_ ?_ ox'.out ?_
               rotate_left 1
               · with_reducible rfl
               · rfl
               · rfl
               · simp [lx]
               · (simp only [List.size_toArray, lx]; exact st_size)
               rotate_left 1
               · rfl)
            | (with_reducible refine wpList_load_mid (op := ⟨some 15, _, _, _, _, _⟩) ?_ 32 (.tmp 4) ?_ (wr.heap.size) (0) ?_ cx dd ?_ hHu.out hd ?_ ?_
               rotate_left 1
               · with_reducible rfl
               · kernel_rfl
               · exact X1.out
               · (first | exact st_size | (rw [lx]; exact st_size))
               rotate_left 1
               · rfl)
            | (go_at_call 13; with_reducible refine hcall.mono ?_; rintro e w5 ⟨rfl, hb5⟩))
          go_ret
          exact ⟨rfl, hbel.out.trans ((hb3.out.trans (hb5.mono hb3.out.size)).mono hbel.out.size)⟩
        | true =>
          have hz' : Hid (∀ j, j < k + 1 → F j = true) := fun j hj => by
            rcases Nat.lt_or_ge j k with h | h
            · exact hz.out j h
            · have : j = k := by omega
              subst this; exact hB.out
          go_wp2_with (first
            | (with_reducible refine wpList_load_mid (op := ⟨some 14, _, _, _, _, _⟩) ?_ 32 (.tmp 13) ?_ (b) (o + k * 21) ?_ cx dd ?_ hHu.out hd ?_ ?_
               rotate_left 1
               · with_reducible rfl
               · kernel_rfl
               · exact hx
               · (first | exact st_size | (rw [lx]; exact st_size))
               rotate_left 1
               · rfl)
            | (with_reducible refine wpList_store_new ?_ 32 (.tmp 4) (.tmp 14) ?_ cx.toArray wr.heap.size rfl ?_ ?_ ?_ ?_ ox'.out ?_
               rotate_left 1
               · with_reducible rfl
               · rfl
               · rfl
               · simp [lx]
               · (simp only [List.size_toArray, lx]; exact st_size)
               rotate_left 1
               · rfl)
            | (with_reducible refine wpList_load_mid (op := ⟨some 15, _, _, _, _, _⟩) ?_ 32 (.tmp 4) ?_ (wr.heap.size) (0) ?_ cx dd ?_ hHu.out hd ?_ ?_
               rotate_left 1
               · with_reducible rfl
               · kernel_rfl
               · exact X1.out
               · (first | exact st_size | (rw [lx]; exact st_size))
               rotate_left 1
               · rfl)
            | (go_at_call 13; with_reducible refine hcall.mono ?_; rintro e w5 ⟨rfl, hb5⟩))
          go_roundw
          case rel => exact ⟨k + 1, by omega, by go_num, hz', hbr'.out.trans ((hb3.out.trans (hb5.mono hb3.out.size)).mono hbr'.out.size)⟩
          case measure => simp [intOf]; omega
      · have hkk : k = d.kin := by omega
        subst hkk
        have hRt := hR2.out hz.out
        subst hRt
        go_wp2_with fail
        go_ret
        exact ⟨rfl, W2.out.trans (hbr.mono W2.out.size)⟩

end Go.Proofs.YtgmbeedbeahblaaGreatDoor
