import Derived.WalkLawsBesides
import Derived.Test.YtaonejnicgbifaaGreatDoorPk15
namespace Go.Proofs.YtaonejnicgbifaaGreatDoor
open Go Go.RowKit

set_option maxRecDepth 100000 in
set_option maxHeartbeats 1000000 in
/-- interval.try where the closure (number 77) returns. -/
theorem try_ret_e {w : World} {p1 : Addr} {b : Bool}
    (h : ∀ z, Below w.heap.size w z → Calls Tryz.prog 77 #[.pointer (some p1)] z fun e w' => e = .returned (.bool b) ∧ Below z.heap.size z w') :
    Calls Tryz.prog 55 #[.func (.func 77) #[] #[.pointer (some p1)]] w fun e w' => e = .returned (.tuple #[.bool b, .int .i64 0]) ∧ Below w.heap.size w w' := by
  have hmf : ∀ (fn : Fn) (first cap : Array Value) (w : World), (Instr.makeFunc fn first cap).run Tryz.prog w = .ok (.func fn first cap) w := fun _ _ _ _ => rfl
  have hb0 : Below w.heap.size w ((w.alloc (.cells #[.bool false] 4)).alloc (.cells #[.int .i64 0] 35)) := below_two w _ _
  have hz0 : ((w.alloc (.cells #[.bool false] 4)).alloc (.cells #[.int .i64 0] 35)).heap.size = w.heap.size + 2 := by simp
  have hB : ((w.alloc (.cells #[.bool false] 4)).alloc (.cells #[.int .i64 0] 35)).heap[w.heap.size]? = some (.cells #[.bool false] 4 (0, 0)) := by
    have h1 := heap_alloc_new w (.cells #[.bool false] 4 (0, 0))
    exact (Below.heap_alloc _ _ _ (by simp)).trans h1
  have hE : ((w.alloc (.cells #[.bool false] 4)).alloc (.cells #[.int .i64 0] 35)).heap[w.heap.size + 1]? = some (.cells #[.int .i64 0] 35 (0, 0)) := by
    have h1 := heap_alloc_new (w.alloc (.cells #[.bool false] 4)) (.cells #[.int .i64 0] 35 (0, 0))
    rwa [show (w.alloc (.cells #[.bool false] 4)).heap.size = w.heap.size + 1 by simp] at h1
  have hc := h _ hb0
  go_enter_defers Tryz.func55, Tryz.ntmps55
  go_wp2_with (go_at_call 77; refine hc.mono ?_; rintro e w5 ⟨rfl, hb5⟩
               have gB : w5.heap[w.heap.size]? = some (.cells #[.bool false] 4 (0, 0)) := (hb5.block _ (by omega)).trans hB
               have gE : w5.heap[w.heap.size + 1]? = some (.cells #[.int .i64 0] 35 (0, 0)) := (hb5.block _ (by omega)).trans hE
               have cB : w5.cell? ⟨w.heap.size, 0, none⟩ = some (.bool false) := by simp [World.cell?, gB]
               have cE : w5.cell? ⟨w.heap.size + 1, 0, none⟩ = some (.int .i64 0) := by simp [World.cell?, gE]
               have fB : w5.frozen? ⟨w.heap.size, 0, none⟩ = false := by simp [World.frozen?, gB]
               have fE : w5.frozen? ⟨w.heap.size + 1, 0, none⟩ = false := by simp [World.frozen?, gE])
  have q1 : ((w5.setCell ⟨w.heap.size, 0, none⟩ (.bool b)).setCell ⟨w.heap.size + 1, 0, none⟩ (.int .i64 0)).heap[w.heap.size]? = some (.cells #[.bool b] 4 (0, 0)) := (Below.heap_setCell _ ⟨w.heap.size + 1, 0, none⟩ _ w.heap.size (by show w.heap.size ≠ w.heap.size + 1; omega)).trans (heap_setCell_at (cs := [.bool false]) gB (j := 0) (u := .bool b))
  have q2 : ((w5.setCell ⟨w.heap.size, 0, none⟩ (.bool b)).setCell ⟨w.heap.size + 1, 0, none⟩ (.int .i64 0)).heap[w.heap.size + 1]? = some (.cells #[.int .i64 0] 35 (0, 0)) := heap_setCell_at (cs := [.int .i64 0]) ((Below.heap_setCell w5 ⟨w.heap.size, 0, none⟩ (.bool b) (w.heap.size + 1) (by show w.heap.size + 1 ≠ w.heap.size; omega)).trans gE) (j := 0) (u := .int .i64 0)
  have hbb : Below w.heap.size w ((w5.setCell ⟨w.heap.size, 0, none⟩ (.bool b)).setCell ⟨w.heap.size + 1, 0, none⟩ (.int .i64 0)) := ((hb0.trans (hb5.mono hb0.size)).setCell (p := ⟨w.heap.size, 0, none⟩) (Nat.le_refl _) _).setCell (p := ⟨w.heap.size + 1, 0, none⟩) (by exact Nat.le_succ _) _
  generalize ((w5.setCell ⟨w.heap.size, 0, none⟩ (.bool b)).setCell ⟨w.heap.size + 1, 0, none⟩ (.int .i64 0)) = W at *
  have c1 : W.cell? ⟨w.heap.size, 0, none⟩ = some (.bool b) := by simp [World.cell?, q1]
  have c2 : W.cell? ⟨w.heap.size + 1, 0, none⟩ = some (.int .i64 0) := by simp [World.cell?, q2]
  refine leaves_cons (f := 85) (args := #[.pointer (some ⟨w.heap.size, 0, none⟩), .pointer (some ⟨w.heap.size + 1, 0, none⟩)]) (by simp) (by simp [go_sem]) ?_
  refine (tr_idle ⟨w.heap.size, 0, none⟩ ⟨w.heap.size + 1, 0, none⟩ _).mono ?_
  rintro e u' w'' ⟨rfl, rfl, rfl⟩
  refine ⟨.tuple #[.bool b, .int .i64 0], ?_, rfl, hbb⟩
  simp [results, Tryz.results55, go_sem, c1, c2]

set_option maxRecDepth 100000 in
set_option maxHeartbeats 1000000 in
/-- interval.try where a failure ends the closure (number 77). -/
theorem try_fail_e {w : World} {p1 : Addr} {y : Int}
    (h : ∀ z, Below w.heap.size w z → Calls Tryz.prog 77 #[.pointer (some p1)] z fun e w' => e = .panicked [{ v := .iface 141 (.agg #[.int .i64 y]), recovered := false }] ∧ Below z.heap.size z w') :
    Calls Tryz.prog 55 #[.func (.func 77) #[] #[.pointer (some p1)]] w fun e w' => e = .returned (.tuple #[.bool false, .int .i64 y]) ∧ Below w.heap.size w w' := by
  have hmf : ∀ (fn : Fn) (first cap : Array Value) (w : World), (Instr.makeFunc fn first cap).run Tryz.prog w = .ok (.func fn first cap) w := fun _ _ _ _ => rfl
  have hb0 : Below w.heap.size w ((w.alloc (.cells #[.bool false] 4)).alloc (.cells #[.int .i64 0] 35)) := below_two w _ _
  have hz0 : ((w.alloc (.cells #[.bool false] 4)).alloc (.cells #[.int .i64 0] 35)).heap.size = w.heap.size + 2 := by simp
  have hB : ((w.alloc (.cells #[.bool false] 4)).alloc (.cells #[.int .i64 0] 35)).heap[w.heap.size]? = some (.cells #[.bool false] 4 (0, 0)) := by
    have h1 := heap_alloc_new w (.cells #[.bool false] 4 (0, 0))
    exact (Below.heap_alloc _ _ _ (by simp)).trans h1
  have hE : ((w.alloc (.cells #[.bool false] 4)).alloc (.cells #[.int .i64 0] 35)).heap[w.heap.size + 1]? = some (.cells #[.int .i64 0] 35 (0, 0)) := by
    have h1 := heap_alloc_new (w.alloc (.cells #[.bool false] 4)) (.cells #[.int .i64 0] 35 (0, 0))
    rwa [show (w.alloc (.cells #[.bool false] 4)).heap.size = w.heap.size + 1 by simp] at h1
  have hc := h _ hb0
  go_enter_defers Tryz.func55, Tryz.ntmps55
  go_wp2_with (go_at_call 77; refine hc.mono ?_; rintro e w5 ⟨rfl, hb5⟩)
  have gB : w5.heap[w.heap.size]? = some (.cells #[.bool false] 4 (0, 0)) := (hb5.block _ (by omega)).trans hB
  have gE : w5.heap[w.heap.size + 1]? = some (.cells #[.int .i64 0] 35 (0, 0)) := (hb5.block _ (by omega)).trans hE
  have hb6 : Below w.heap.size w w5 := hb0.trans (hb5.mono hb0.size)
  refine leaves_cons (f := 85) (args := #[.pointer (some ⟨w.heap.size, 0, none⟩), .pointer (some ⟨w.heap.size + 1, 0, none⟩)]) (by simp) (by simp [go_sem]) ?_
  refine (tr_catch w.heap.size (w.heap.size + 1) y [] w5 false 0 (by omega) gB gE).mono ?_
  rintro e u' w6 ⟨rfl, rfl, c1, c2, hN⟩
  have h7 := hN w.heap.size (Nat.le_refl _) (Nat.le_succ _)
  refine ⟨.tuple #[.bool false, .int .i64 y], ?_, rfl, hb6.trans h7⟩
  simp [results, Tryz.results55, go_sem, c1, c2]

set_option maxRecDepth 100000 in
set_option maxHeartbeats 1000000 in
/-- interval.try where the closure (number 56) returns. -/
theorem try_ret_i {w : World} {p1 p2 : Addr} {b : Bool}
    (h : ∀ z, Below w.heap.size w z → Calls Tryz.prog 56 #[.pointer (some p1), .pointer (some p2)] z fun e w' => e = .returned (.bool b) ∧ Below z.heap.size z w') :
    Calls Tryz.prog 55 #[.func (.func 56) #[] #[.pointer (some p1), .pointer (some p2)]] w fun e w' => e = .returned (.tuple #[.bool b, .int .i64 0]) ∧ Below w.heap.size w w' := by
  have hmf : ∀ (fn : Fn) (first cap : Array Value) (w : World), (Instr.makeFunc fn first cap).run Tryz.prog w = .ok (.func fn first cap) w := fun _ _ _ _ => rfl
  have hb0 : Below w.heap.size w ((w.alloc (.cells #[.bool false] 4)).alloc (.cells #[.int .i64 0] 35)) := below_two w _ _
  have hz0 : ((w.alloc (.cells #[.bool false] 4)).alloc (.cells #[.int .i64 0] 35)).heap.size = w.heap.size + 2 := by simp
  have hB : ((w.alloc (.cells #[.bool false] 4)).alloc (.cells #[.int .i64 0] 35)).heap[w.heap.size]? = some (.cells #[.bool false] 4 (0, 0)) := by
    have h1 := heap_alloc_new w (.cells #[.bool false] 4 (0, 0))
    exact (Below.heap_alloc _ _ _ (by simp)).trans h1
  have hE : ((w.alloc (.cells #[.bool false] 4)).alloc (.cells #[.int .i64 0] 35)).heap[w.heap.size + 1]? = some (.cells #[.int .i64 0] 35 (0, 0)) := by
    have h1 := heap_alloc_new (w.alloc (.cells #[.bool false] 4)) (.cells #[.int .i64 0] 35 (0, 0))
    rwa [show (w.alloc (.cells #[.bool false] 4)).heap.size = w.heap.size + 1 by simp] at h1
  have hc := h _ hb0
  go_enter_defers Tryz.func55, Tryz.ntmps55
  go_wp2_with (go_at_call 56; refine hc.mono ?_; rintro e w5 ⟨rfl, hb5⟩
               have gB : w5.heap[w.heap.size]? = some (.cells #[.bool false] 4 (0, 0)) := (hb5.block _ (by omega)).trans hB
               have gE : w5.heap[w.heap.size + 1]? = some (.cells #[.int .i64 0] 35 (0, 0)) := (hb5.block _ (by omega)).trans hE
               have cB : w5.cell? ⟨w.heap.size, 0, none⟩ = some (.bool false) := by simp [World.cell?, gB]
               have cE : w5.cell? ⟨w.heap.size + 1, 0, none⟩ = some (.int .i64 0) := by simp [World.cell?, gE]
               have fB : w5.frozen? ⟨w.heap.size, 0, none⟩ = false := by simp [World.frozen?, gB]
               have fE : w5.frozen? ⟨w.heap.size + 1, 0, none⟩ = false := by simp [World.frozen?, gE])
  have q1 : ((w5.setCell ⟨w.heap.size, 0, none⟩ (.bool b)).setCell ⟨w.heap.size + 1, 0, none⟩ (.int .i64 0)).heap[w.heap.size]? = some (.cells #[.bool b] 4 (0, 0)) := (Below.heap_setCell _ ⟨w.heap.size + 1, 0, none⟩ _ w.heap.size (by show w.heap.size ≠ w.heap.size + 1; omega)).trans (heap_setCell_at (cs := [.bool false]) gB (j := 0) (u := .bool b))
  have q2 : ((w5.setCell ⟨w.heap.size, 0, none⟩ (.bool b)).setCell ⟨w.heap.size + 1, 0, none⟩ (.int .i64 0)).heap[w.heap.size + 1]? = some (.cells #[.int .i64 0] 35 (0, 0)) := heap_setCell_at (cs := [.int .i64 0]) ((Below.heap_setCell w5 ⟨w.heap.size, 0, none⟩ (.bool b) (w.heap.size + 1) (by show w.heap.size + 1 ≠ w.heap.size; omega)).trans gE) (j := 0) (u := .int .i64 0)
  have hbb : Below w.heap.size w ((w5.setCell ⟨w.heap.size, 0, none⟩ (.bool b)).setCell ⟨w.heap.size + 1, 0, none⟩ (.int .i64 0)) := ((hb0.trans (hb5.mono hb0.size)).setCell (p := ⟨w.heap.size, 0, none⟩) (Nat.le_refl _) _).setCell (p := ⟨w.heap.size + 1, 0, none⟩) (by exact Nat.le_succ _) _
  generalize ((w5.setCell ⟨w.heap.size, 0, none⟩ (.bool b)).setCell ⟨w.heap.size + 1, 0, none⟩ (.int .i64 0)) = W at *
  have c1 : W.cell? ⟨w.heap.size, 0, none⟩ = some (.bool b) := by simp [World.cell?, q1]
  have c2 : W.cell? ⟨w.heap.size + 1, 0, none⟩ = some (.int .i64 0) := by simp [World.cell?, q2]
  refine leaves_cons (f := 85) (args := #[.pointer (some ⟨w.heap.size, 0, none⟩), .pointer (some ⟨w.heap.size + 1, 0, none⟩)]) (by simp) (by simp [go_sem]) ?_
  refine (tr_idle ⟨w.heap.size, 0, none⟩ ⟨w.heap.size + 1, 0, none⟩ _).mono ?_
  rintro e u' w'' ⟨rfl, rfl, rfl⟩
  refine ⟨.tuple #[.bool b, .int .i64 0], ?_, rfl, hbb⟩
  simp [results, Tryz.results55, go_sem, c1, c2]

set_option maxRecDepth 100000 in
set_option maxHeartbeats 1000000 in
/-- interval.try where a failure ends the closure (number 56). -/
theorem try_fail_i {w : World} {p1 p2 : Addr} {y : Int}
    (h : ∀ z, Below w.heap.size w z → Calls Tryz.prog 56 #[.pointer (some p1), .pointer (some p2)] z fun e w' => e = .panicked [{ v := .iface 141 (.agg #[.int .i64 y]), recovered := false }] ∧ Below z.heap.size z w') :
    Calls Tryz.prog 55 #[.func (.func 56) #[] #[.pointer (some p1), .pointer (some p2)]] w fun e w' => e = .returned (.tuple #[.bool false, .int .i64 y]) ∧ Below w.heap.size w w' := by
  have hmf : ∀ (fn : Fn) (first cap : Array Value) (w : World), (Instr.makeFunc fn first cap).run Tryz.prog w = .ok (.func fn first cap) w := fun _ _ _ _ => rfl
  have hb0 : Below w.heap.size w ((w.alloc (.cells #[.bool false] 4)).alloc (.cells #[.int .i64 0] 35)) := below_two w _ _
  have hz0 : ((w.alloc (.cells #[.bool false] 4)).alloc (.cells #[.int .i64 0] 35)).heap.size = w.heap.size + 2 := by simp
  have hB : ((w.alloc (.cells #[.bool false] 4)).alloc (.cells #[.int .i64 0] 35)).heap[w.heap.size]? = some (.cells #[.bool false] 4 (0, 0)) := by
    have h1 := heap_alloc_new w (.cells #[.bool false] 4 (0, 0))
    exact (Below.heap_alloc _ _ _ (by simp)).trans h1
  have hE : ((w.alloc (.cells #[.bool false] 4)).alloc (.cells #[.int .i64 0] 35)).heap[w.heap.size + 1]? = some (.cells #[.int .i64 0] 35 (0, 0)) := by
    have h1 := heap_alloc_new (w.alloc (.cells #[.bool false] 4)) (.cells #[.int .i64 0] 35 (0, 0))
    rwa [show (w.alloc (.cells #[.bool false] 4)).heap.size = w.heap.size + 1 by simp] at h1
  have hc := h _ hb0
  go_enter_defers Tryz.func55, Tryz.ntmps55
  go_wp2_with (go_at_call 56; refine hc.mono ?_; rintro e w5 ⟨rfl, hb5⟩)
  have gB : w5.heap[w.heap.size]? = some (.cells #[.bool false] 4 (0, 0)) := (hb5.block _ (by omega)).trans hB
  have gE : w5.heap[w.heap.size + 1]? = some (.cells #[.int .i64 0] 35 (0, 0)) := (hb5.block _ (by omega)).trans hE
  have hb6 : Below w.heap.size w w5 := hb0.trans (hb5.mono hb0.size)
  refine leaves_cons (f := 85) (args := #[.pointer (some ⟨w.heap.size, 0, none⟩), .pointer (some ⟨w.heap.size + 1, 0, none⟩)]) (by simp) (by simp [go_sem]) ?_
  refine (tr_catch w.heap.size (w.heap.size + 1) y [] w5 false 0 (by omega) gB gE).mono ?_
  rintro e u' w6 ⟨rfl, rfl, c1, c2, hN⟩
  have h7 := hN w.heap.size (Nat.le_refl _) (Nat.le_succ _)
  refine ⟨.tuple #[.bool false, .int .i64 y], ?_, rfl, hb6.trans h7⟩
  simp [results, Tryz.results55, go_sem, c1, c2]

end Go.Proofs.YtaonejnicgbifaaGreatDoor
namespace Go.Proofs.YtaonejnicgbifaaGreatDoor
open Go Go.RowKit

set_option maxRecDepth 100000 in
set_option maxHeartbeats 1000000 in
theorem wmul_none {w : World} {q1 q2 : Option Addr} {n m c1 c2 : Nat} (h : n = 0 ∨ m = 0) :
    Calls Tryz.prog 88 #[.slice q1 n c1, .slice q2 m c2] w fun e w' => e = .returned (.slice none 0 0) ∧ w' = w := by
  by_cases h1 : n = 0
  · subst h1
    go_enter Tryz.func88, Tryz.ntmps88
    go_wp2_with fail
    go_ret
    exact ⟨rfl, rfl⟩
  · obtain rfl : m = 0 := by omega
    have e1 : ((n : Int) == 0) = false := by simp; omega
    go_enter Tryz.func88, Tryz.ntmps88
    go_wp2_with fail
    go_ret
    exact ⟨rfl, rfl⟩

set_option maxRecDepth 100000 in
set_option maxHeartbeats 4000000 in
theorem wmul_walk (b o cap b2 o2 cap2 n : Nat) (xs ys : List Int) (w : World) (hlen : xs.length + ys.length = n) (hn : n ≤ 549755813888) (hx1 : 0 < xs.length) (hy1 : 0 < ys.length) (hdx : Dig xs) (hdy : Dig ys)
    (hcx : ∀ i, i < xs.length → w.cell? ⟨b, o + i, none⟩ = some (.int .u32 (xs.getD i 0))) (hcy : ∀ i, i < ys.length → w.cell? ⟨b2, o2 + i, none⟩ = some (.int .u32 (ys.getD i 0))) (hb1 : b < w.heap.size) (hb2 : b2 < w.heap.size) :
    Calls Tryz.prog 88 #[.slice (some ⟨b, o, none⟩) xs.length cap, .slice (some ⟨b2, o2, none⟩) ys.length cap2] w fun e w' => ∃ u os, Out xs ys n xs.length os ∧ e = .returned u ∧ Sl w' u (trim os) ∧ Below w.heap.size w w' := by
  obtain ⟨i0, hi, hz0, hz1, hz2⟩ := info_parts (show (Tryz.prog.info? 150).map (fun i => (i.zero, i.size, i.bytes)) = some (some (.int .u32 0), 1, 4) by kernel_rfl)
  have ex : ((xs.length : Int) == 0) = false := beq_eq_false_iff_ne.2 (by omega)
  have ey : ((ys.length : Int) == 0) = false := beq_eq_false_iff_ne.2 (by omega)
  go_enter Tryz.func88, Tryz.ntmps88
  go_wp2_with (at_make; refine wpList_make_full _ rfl _ _ 25 rfl w.heap.size 150 i0 (.int .u32 0) 1 Tryz.underlying25 hi hz0 hz1 _ _ _ _ n rfl rfl (by omega) (by omega) (by rw [hz2]; omega) (by unfold maxLen; omega) (Nat.le_refl _) ?_)
  intro w1 hown hgrow
  have hblk : Blk w1 w.heap.size (List.replicate n 0) := made_blk hown
  have hbel : Below w.heap.size w w1 := (Below.refl _ _).grown hgrow (Nat.le_refl _) (fun _ h => by cases h)
  clear hown hgrow hi hz0 hz1 hz2 ex ey
  go_wp2
  go_loopw [28] (fun i wr => ∃ (k : Nat) (os : List Int), k ≤ xs.length ∧ i = .int .i64 k ∧ Out xs ys n k os ∧ Blk wr w.heap.size os ∧ Below w.heap.size w wr) (fun i _ => xs.length - (intOf i).toNat)
  case atStart => exact ⟨0, _, Nat.zero_le _, rfl, Out.zero xs ys n, hblk, hbel⟩
  case round =>
    obtain ⟨k, os, hk, rfl, hout, hb, hbw⟩ := hrel
    by_cases hlt : k < xs.length
    · have hcxk : wr.cell? ⟨b, o + k, none⟩ = some (.int .u32 (xs.getD k 0)) := (hbw.cell (by exact hb1)).trans (hcx k hlt)
      have hlt' : (k : Int) < (xs.length : Int) := by omega
      have hx0 := hdx k
      have hst := hout.start
      have hrow := fun os1 cc => Out.row (os := os1) (c := cc) hout hlt hlen
      generalize xs.getD k 0 = x at hcxk hx0 hst hrow
      have hcx' : Hid (∀ i, i < xs.length → w.cell? ⟨b, o + i, none⟩ = some (.int .u32 (xs.getD i 0))) := hcx
      go_wp2_with fail
      have hd : decide (k < xs.length) = true := by simp [hlt]
      try rw [hd]
      clear hd
      go_loopw [35, 8] (fun i c wq => ∃ (m : Nat) (os1 : List Int) (cc : Int), m ≤ ys.length ∧ i = .int .i64 m ∧ c = .int .u64 cc ∧ In x ys os k m n os1 cc ∧ Blk wq w.heap.size os1 ∧ Below w.heap.size w wq) (fun i _ _ => ys.length - (intOf i).toNat)
      case atStart => exact ⟨0, os, 0, Nat.zero_le _, rfl, rfl, hst, hb, hbw⟩
      case round =>
        obtain ⟨m, os1, cc, hm, rfl, rfl, hin, hb1', hbw1⟩ := hrel
        by_cases hml : m < ys.length
        · have hml' : (m : Int) < (ys.length : Int) := by omega
          have hcym : wr.cell? ⟨b2, o2 + m, none⟩ = some (.int .u32 (ys.getD m 0)) := (hbw1.cell (by exact hb2)).trans (hcy m hml)
          have hcom : wr.cell? ⟨w.heap.size, k + m, none⟩ = some (.int .u32 (os1.getD (k + m) 0)) := hb1'.cell (by rw [hin.len]; omega)
          have hfr := hb1'.frozen (k + m)
          have hym := hdy m
          have hom := hin.dig (k + m)
          have hcc := hin.c0
          have hstep := hin.step hx0 hdy hml (by omega)
          have hp := mul_bound hx0 hym
          have hs := sum_bound hx0 hym hom hcc
          generalize ys.getD m 0 = y at hcym hym hstep hp hs
          generalize os1.getD (k + m) 0 = d at hcom hom hstep hs
          have hkm : (k : Int) + m < n := by omega
          go_wp2_with fail
          go_roundw
          case rel => exact ⟨m + 1, _, _, by omega, by go_num, rfl, hstep, hb1'.set _ _, hbw1.setCell (p := ⟨w.heap.size, k + m, none⟩) (Nat.le_refl _) _⟩
          case measure => simp [intOf]; omega
        · have hml2 : m = ys.length := by omega
          subst hml2
          have hcend : wr.cell? ⟨w.heap.size, k + ys.length, none⟩ = some (.int .u32 (os1.getD (k + ys.length) 0)) := hb1'.cell (by rw [hin.len]; omega)
          have hfr2 := hb1'.frozen (k + ys.length)
          have hcc := hin.c0
          have hkm : (k : Int) + ys.length < n := by omega
          go_wp2_with fail
          go_roundw
          case rel => exact ⟨k + 1, _, by omega, by go_num, hrow _ _ hin, hb1'.set _ _, hbw1.setCell (p := ⟨w.heap.size, k + ys.length, none⟩) (Nat.le_refl _) _⟩
          case measure => simp [intOf]; omega
    · have hkx : k = xs.length := by omega
      subst hkx
      have hsl := Blk.sl32 hb.p hout.dig (by rw [hout.len]; omega)
      rw [hout.len] at hsl
      obtain ⟨u, hu, hof⟩ := of32_ok hsl
      have hu' : Hid (Sl wr u (trim os)) := hu
      have hO : Hid (Out xs ys n xs.length os) := hout
      have hbw' : Hid (Below w.heap.size w wr) := hbw
      clear hu hout hbw hb hsl hcx hcy
      go_wp2_with (go_at_call 108; refine (hof _ (Below.refl _ _)).mono ?_; rintro e w9 ⟨rfl, rfl⟩)
      go_ret
      exact ⟨u, os, hO.out, rfl, hu'.out, hbw'.out⟩
end Go.Proofs.YtaonejnicgbifaaGreatDoor
namespace Go.Proofs.YtaonejnicgbifaaGreatDoor
open Go Go.RowKit

set_option maxRecDepth 100000 in
/-- interval.must of an error. -/
theorem must_fail (w : World) : Calls Tryz.prog 118 #[.int .i64 1] w fun e w' => e = .panicked [{ v := .iface 141 (.agg #[.int .i64 1]), recovered := false }] ∧ w' = w := by
  go_enter Tryz.func118, Tryz.ntmps118
  go_wp2_with fail
  exact ⟨rfl, rfl, rfl⟩

theorem Sl.len_eq {w : World} {q : Option Addr} {n c : Nat} {xs : List Int} (h : Sl w (.slice q n c) xs) : n = xs.length := by
  obtain ⟨_, _, q', cap, e, _⟩ := h
  cases e
  rfl

set_option maxRecDepth 100000 in
set_option maxHeartbeats 2000000 in
/-- interval.number of a number that is not too large. -/
theorem number_ok {w : World} {g : Bool} {q1 p1 : Option Addr} {l1 c1 m1 e1 : Nat} {nu de : List Int} (h1 : Sl w (.slice q1 l1 c1) nu) (h2 : Sl w (.slice p1 m1 e1) de) (ln : nu.length ≤ 274877906000) (ld : de.length ≤ 274877906000) (hT : Tb w) (hL : large (val nu) (val de) = false) :
    Calls Tryz.prog 86 #[.agg #[.bool g, .slice q1 l1 c1, .slice p1 m1 e1]] w fun e w' => ∃ f, e = .returned f ∧ FAt w' f (mkG g (val nu) (denI (val de))) (mkN (val nu) (denI (val de))) (mkD (val nu) (denI (val de))) ∧ Below w.heap.size w w' := by
  obtain rfl := h1.len_eq
  obtain rfl := h2.len_eq
  have hb0 := below_two w (Obj.cells #[.bool g, .slice q1 nu.length c1, .slice p1 de.length e1] 27) (Obj.cells #[.bool false, .slice none 0 0, .slice none 0 0] 107)
  have hnew : Hid (FNew ((w.alloc (Obj.cells #[.bool g, .slice q1 nu.length c1, .slice p1 de.length e1] 27)).alloc (Obj.cells #[.bool false, .slice none 0 0, .slice none 0 0] 107)) (w.heap.size + 1)) := by
    have := FNew.made (w.alloc (Obj.cells #[.bool g, .slice q1 nu.length c1, .slice p1 de.length e1] 27))
    have e : (w.alloc (Obj.cells #[.bool g, .slice q1 nu.length c1, .slice p1 de.length e1] 27)).heap.size = w.heap.size + 1 := by simp
    rw [e] at this
    exact this
  have hz0 : ((w.alloc (Obj.cells #[.bool g, .slice q1 nu.length c1, .slice p1 de.length e1] 27)).alloc (Obj.cells #[.bool false, .slice none 0 0, .slice none 0 0] 107)).heap.size = w.heap.size + 2 := by simp
  have hr := read32_walk (g := g) (h1.below hb0) (h2.below hb0) ln ld (hT.below hb0)
  rw [hL] at hr
  obtain ⟨dd, hu, hd⟩ := f_row
  have hb0' : Hid (Below w.heap.size w ((w.alloc (Obj.cells #[.bool g, .slice q1 nu.length c1, .slice p1 de.length e1] 27)).alloc (Obj.cells #[.bool false, .slice none 0 0, .slice none 0 0] 107))) := hb0
  have hLe : Hid (large (val nu) (val de) = false) := hL
  clear h1 h2 hT hb0 hL
  go_enter Tryz.func86, Tryz.ntmps86
  go_wp2_with (go_at_call 110; refine hr.mono ?_; rintro e w3 ⟨f, g', n', d', rfl, hf, heq, hb3⟩
               obtain ⟨rfl, rfl, rfl⟩ := heq rfl
               obtain ⟨fa, fb, ns, ds, rfl, z1, z2, z3, z4, z5, z6, z7, z8⟩ := hf
               obtain ⟨qn, kn, rfl⟩ := z1.form
               obtain ⟨qm, km, rfl⟩ := z4.form
               have hzz : Hid (Sl w3 (.slice qn ns.length kn) ns ∧ Canon ns ∧ val ns = mkN (val nu) (denI (val de)) ∧ Sl w3 (.slice qm ds.length km) ds ∧ Canon ds ∧ val ds = mkD (val nu) (denI (val de)) ∧ ns.length ≤ 274877906000 ∧ ds.length ≤ 274877906000) := ⟨z1, z2, z3, z4, z5, z6, z7, z8⟩
               have hb3' : Hid (Below ((w.alloc (Obj.cells #[.bool g, .slice q1 nu.length c1, .slice p1 de.length e1] 27)).alloc (Obj.cells #[.bool false, .slice none 0 0, .slice none 0 0] 107)).heap.size ((w.alloc (Obj.cells #[.bool g, .slice q1 nu.length c1, .slice p1 de.length e1] 27)).alloc (Obj.cells #[.bool false, .slice none 0 0, .slice none 0 0] 107)) w3) := hb3
               have k3 := hnew.out.below hb3
               have s3 : w.heap.size + 2 ≤ w3.heap.size := by have := hb3.size; omega
               have hb4 := hb3.trans ((below_alloc w3 (.cells #[.bool (mkG g (val nu) (denI (val de))), .slice qn ns.length kn, .slice qm ds.length km] 107)).mono hb3.size)
               have k4 := hnew.out.below hb4
               have c0 := k4.c0
               have c1' := k4.c1
               have c2 := k4.c2
               have fr := k4.fr
               have hb4' : Hid _ := hb4
               have n3 : w3.heap.size ≠ w.heap.size + 1 := by omega
               clear z1 z2 z3 z4 z5 z6 z7 z8 hr k3 hb3 k4 hb4)
  have hz := hzz.out
  have hb34 := below_alloc w3 (.cells #[.bool (mkG g (val nu) (denI (val de))), .slice qn ns.length kn, .slice qm ds.length km] 107)
  obtain ⟨hk, hrow⟩ := f_end (g := mkG g (val nu) (denI (val de))) (Nat.le_succ w.heap.size) hnew.out hb0'.out hb4'.out (hz.1.below hb34) hz.2.1 hz.2.2.1 (hz.2.2.2.1.below hb34) hz.2.2.2.2.1 hz.2.2.2.2.2.1 hz.2.2.2.2.2.2.1 hz.2.2.2.2.2.2.2
  refine bodyPost_ret (results_cell_mid rfl _ _ (w.heap.size + 1) _ dd rfl hrow hu hd f_size) rfl ?_
  exact ⟨_, rfl, hk.out.1, hk.out.2⟩

set_option maxRecDepth 100000 in
set_option maxHeartbeats 2000000 in
/-- interval.number of a number that is too large. -/
theorem number_fail {w : World} {g : Bool} {q1 p1 : Option Addr} {l1 c1 m1 e1 : Nat} {nu de : List Int} (h1 : Sl w (.slice q1 l1 c1) nu) (h2 : Sl w (.slice p1 m1 e1) de) (ln : nu.length ≤ 274877906000) (ld : de.length ≤ 274877906000) (hT : Tb w) (hL : large (val nu) (val de) = true) :
    Calls Tryz.prog 86 #[.agg #[.bool g, .slice q1 l1 c1, .slice p1 m1 e1]] w fun e w' => e = .panicked [{ v := .iface 141 (.agg #[.int .i64 1]), recovered := false }] ∧ Below w.heap.size w w' := by
  obtain rfl := h1.len_eq
  obtain rfl := h2.len_eq
  have hb0 := below_two w (Obj.cells #[.bool g, .slice q1 nu.length c1, .slice p1 de.length e1] 27) (Obj.cells #[.bool false, .slice none 0 0, .slice none 0 0] 107)
  have hr := read32_walk (g := g) (h1.below hb0) (h2.below hb0) ln ld (hT.below hb0)
  rw [hL] at hr
  have hb0' : Hid (Below w.heap.size w ((w.alloc (Obj.cells #[.bool g, .slice q1 nu.length c1, .slice p1 de.length e1] 27)).alloc (Obj.cells #[.bool false, .slice none 0 0, .slice none 0 0] 107))) := hb0
  clear h1 h2 hT hb0 hL
  go_enter Tryz.func86, Tryz.ntmps86
  go_wp2_with (first
    | (go_at_call 110; refine hr.mono ?_; rintro e w3 ⟨f, g', n', d', rfl, hf, _, hb3⟩
       obtain ⟨fa, fb, ns, ds, rfl, z1, z2, z3, z4, z5, z6, z7, z8⟩ := hf
       obtain ⟨qn, kn, rfl⟩ := z1.form
       obtain ⟨qm, km, rfl⟩ := z4.form
       have W4 : Hid (Below w.heap.size w (w3.alloc (.cells #[.bool g', .slice qn ns.length kn, .slice qm ds.length km] 107))) := (hb0'.out.trans (hb3.mono hb0'.out.size)).trans ((below_alloc w3 _).mono (Nat.le_trans hb0'.out.size hb3.size))
       clear z1 z2 z3 z4 z5 z6 z7 z8 hr hb3)
    | (go_at_call 118; refine (must_fail _).mono ?_; rintro e w5 ⟨rfl, rfl⟩))
  exact ⟨rfl, rfl, W4.out⟩
end Go.Proofs.YtaonejnicgbifaaGreatDoor
