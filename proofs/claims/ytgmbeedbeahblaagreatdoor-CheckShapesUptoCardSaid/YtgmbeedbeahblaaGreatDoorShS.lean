/-
  Steps, Depth, Shape of both sides; CheckShapes out of awake.
-/
import Derived.Test.YtgmbeedbeahblaaGreatDoorShR
namespace Go.Proofs.YtgmbeedbeahblaaGreatDoor
open Go Go.RowKit

/-- A load of a whole row, its guard saying yes. -/
theorem wpList_load_mid_g {P : Program} {ops : Array Oper} {rest : List Oper} {op : Oper} {a : Act} {w : World} {Q : Exit → Act → World → Prop} (hg : Region.wanted op (yielded ops a.tmps) = true) (ty : TypeId) (x : Operand) (ho : op.op = .load ty x)
    (b o : Nat) (hx : a.eval x = .pointer (some ⟨b, o, none⟩)) (cs : List Value) (d : TypeDesc) (hc : w.rangeAt b o cs)
    (hu : P.underlying ty = some d) (hd : d.isRow = true) (hi : (P.info? ty).map (·.size) = some cs.length)
    (h : wpList P ops Q rest (a.put op.dst (.agg cs.toArray)) w) : wpList P ops Q (op :: rest) a w :=
  BigFrame.wpList_want hg fun _ hK => wp_load_mid ty x ho b o hx cs d hc hu hd hi (hK _ _ h)

set_option maxRecDepth 100000 in
set_option maxHeartbeats 2000000 in
/-- check.Steps. -/
theorem steps_walk {w : World} {d : Sd} {m : Nat}
    (hW : ∀ z, Below w.heap.size w z → Cnt z (w.heap.size + 1) 0 → Calls Tryz.prog 11 #[.agg d.cells.toArray, .func (.func 14) #[] #[.pointer (some ⟨w.heap.size + 1, 0, none⟩)]] z fun e w' => (∃ b, e = .returned (.bool b)) ∧ Cnt w' (w.heap.size + 1) m ∧ Tick (w.heap.size + 1) z w') :
    Calls Tryz.prog 6 #[.agg #[.int .i64 d.s.ru, .string d.s.nm, .string d.s.ot, .bool d.s.g, .slice d.aq d.an d.ac, .slice d.cq d.cn d.cc, .int .i64 d.s.kk, .int .i64 d.s.nn, .int .i64 d.s.pr, .int .i64 d.e.k, .int .i64 d.e.f, .bool d.e.neg, .slice d.e.aq d.e.an d.e.ac, .slice d.e.cq d.e.cn d.e.cc, .string d.e.m, .slice d.e.sq d.e.sn d.e.sc, .slice d.poq d.pon d.poc, .string d.s.en, .int .i64 d.s.ve, .slice d.arq d.arn d.arc, .slice d.kiq d.kin d.kic]] w fun e w' => e = .returned (.int .i64 m) ∧ Below w.heap.size w w' := by
  obtain ⟨dd, hu, hd⟩ := st_row
  have hHu : Hid (Tryz.prog.underlying 32 = some dd) := hu
  clear hu
  have hb0 : Below w.heap.size w ((w.alloc (.cells #[.int .i64 d.s.ru, .string d.s.nm, .string d.s.ot, .bool d.s.g, .slice d.aq d.an d.ac, .slice d.cq d.cn d.cc, .int .i64 d.s.kk, .int .i64 d.s.nn, .int .i64 d.s.pr, .int .i64 d.e.k, .int .i64 d.e.f, .bool d.e.neg, .slice d.e.aq d.e.an d.e.ac, .slice d.e.cq d.e.cn d.e.cc, .string d.e.m, .slice d.e.sq d.e.sn d.e.sc, .slice d.poq d.pon d.poc, .string d.s.en, .int .i64 d.s.ve, .slice d.arq d.arn d.arc, .slice d.kiq d.kin d.kic] 32)).alloc (.cells #[.int .i64 0] 3)) := below_two w _ _
  have hz0 : ((w.alloc (.cells #[.int .i64 d.s.ru, .string d.s.nm, .string d.s.ot, .bool d.s.g, .slice d.aq d.an d.ac, .slice d.cq d.cn d.cc, .int .i64 d.s.kk, .int .i64 d.s.nn, .int .i64 d.s.pr, .int .i64 d.e.k, .int .i64 d.e.f, .bool d.e.neg, .slice d.e.aq d.e.an d.e.ac, .slice d.e.cq d.e.cn d.e.cc, .string d.e.m, .slice d.e.sq d.e.sn d.e.sc, .slice d.poq d.pon d.poc, .string d.s.en, .int .i64 d.s.ve, .slice d.arq d.arn d.arc, .slice d.kiq d.kin d.kic] 32)).alloc (.cells #[.int .i64 0] 3)).heap.size = w.heap.size + 2 := by simp
  have D0 : Hid (((w.alloc (.cells #[.int .i64 d.s.ru, .string d.s.nm, .string d.s.ot, .bool d.s.g, .slice d.aq d.an d.ac, .slice d.cq d.cn d.cc, .int .i64 d.s.kk, .int .i64 d.s.nn, .int .i64 d.s.pr, .int .i64 d.e.k, .int .i64 d.e.f, .bool d.e.neg, .slice d.e.aq d.e.an d.e.ac, .slice d.e.cq d.e.cn d.e.cc, .string d.e.m, .slice d.e.sq d.e.sn d.e.sc, .slice d.poq d.pon d.poc, .string d.s.en, .int .i64 d.s.ve, .slice d.arq d.arn d.arc, .slice d.kiq d.kin d.kic] 32)).alloc (.cells #[.int .i64 0] 3)).rangeAt (w.heap.size) 0 d.cells) := World.rangeAt_alloc (range_new w d.cells 32) _
  have hc0 : Cnt ((w.alloc (.cells #[.int .i64 d.s.ru, .string d.s.nm, .string d.s.ot, .bool d.s.g, .slice d.aq d.an d.ac, .slice d.cq d.cn d.cc, .int .i64 d.s.kk, .int .i64 d.s.nn, .int .i64 d.s.pr, .int .i64 d.e.k, .int .i64 d.e.f, .bool d.e.neg, .slice d.e.aq d.e.an d.e.ac, .slice d.e.cq d.e.cn d.e.cc, .string d.e.m, .slice d.e.sq d.e.sn d.e.sc, .slice d.poq d.pon d.poc, .string d.s.en, .int .i64 d.s.ve, .slice d.arq d.arn d.arc, .slice d.kiq d.kin d.kic] 32)).alloc (.cells #[.int .i64 0] 3)) (w.heap.size + 1) 0 := ⟨by omega, by
    have h := heap_alloc_last (w.alloc (.cells #[.int .i64 d.s.ru, .string d.s.nm, .string d.s.ot, .bool d.s.g, .slice d.aq d.an d.ac, .slice d.cq d.cn d.cc, .int .i64 d.s.kk, .int .i64 d.s.nn, .int .i64 d.s.pr, .int .i64 d.e.k, .int .i64 d.e.f, .bool d.e.neg, .slice d.e.aq d.e.an d.e.ac, .slice d.e.cq d.e.cn d.e.cc, .string d.e.m, .slice d.e.sq d.e.sn d.e.sc, .slice d.poq d.pon d.poc, .string d.s.en, .int .i64 d.s.ve, .slice d.arq d.arn d.arc, .slice d.kiq d.kin d.kic] 32)) (.cells #[.int .i64 0] 3 (0, 0))
    rwa [show (w.alloc (.cells #[.int .i64 d.s.ru, .string d.s.nm, .string d.s.ot, .bool d.s.g, .slice d.aq d.an d.ac, .slice d.cq d.cn d.cc, .int .i64 d.s.kk, .int .i64 d.s.nn, .int .i64 d.s.pr, .int .i64 d.e.k, .int .i64 d.e.f, .bool d.e.neg, .slice d.e.aq d.e.an d.e.ac, .slice d.e.cq d.e.cn d.e.cc, .string d.e.m, .slice d.e.sq d.e.sn d.e.sc, .slice d.poq d.pon d.poc, .string d.s.en, .int .i64 d.s.ve, .slice d.arq d.arn d.arc, .slice d.kiq d.kin d.kic] 32)).heap.size = w.heap.size + 1 by simp] at h⟩
  have hw1 := hW _ hb0 hc0
  clear hW hc0
  have hb0' : Hid (Below w.heap.size w ((w.alloc (.cells #[.int .i64 d.s.ru, .string d.s.nm, .string d.s.ot, .bool d.s.g, .slice d.aq d.an d.ac, .slice d.cq d.cn d.cc, .int .i64 d.s.kk, .int .i64 d.s.nn, .int .i64 d.s.pr, .int .i64 d.e.k, .int .i64 d.e.f, .bool d.e.neg, .slice d.e.aq d.e.an d.e.ac, .slice d.e.cq d.e.cn d.e.cc, .string d.e.m, .slice d.e.sq d.e.sn d.e.sc, .slice d.poq d.pon d.poc, .string d.s.en, .int .i64 d.s.ve, .slice d.arq d.arn d.arc, .slice d.kiq d.kin d.kic] 32)).alloc (.cells #[.int .i64 0] 3))) := hb0
  clear hb0
  go_enter Tryz.func6, Tryz.ntmps6
  go_wp2_with (first
    | (with_reducible refine wpList_load_mid (op := ⟨some 4, _, _, _, _, _⟩) ?_ 32 (.tmp 1) ?_ (w.heap.size) 0 ?_ d.cells dd ?_ hHu.out hd ?_ ?_
       rotate_left 1
       · with_reducible rfl
       · kernel_rfl
       · exact D0.out
       · exact st_size
       rotate_left 1
       · rfl)
    | (go_at_call 11; refine hw1.mono ?_; rintro e w2 ⟨⟨b, rfl⟩, hc2, hb2⟩
       have c2 := hc2.cell))
  go_ret
  exact ⟨rfl, hb0'.out.trans ((hb2.below (by omega)).mono (by omega))⟩

set_option maxRecDepth 100000 in
set_option maxHeartbeats 2000000 in
/-- The reference's Steps. -/
theorem stepsQ_walk {w : World} {d : Sd} {m : Nat} (hm : m ≤ 2001)
    (hW : ∀ z, Below w.heap.size w z → Calls Tryz.prog 15 #[.agg d.cells.toArray, .int .i64 0] z fun e w' => e = .returned (.int .i64 m) ∧ Below z.heap.size z w') :
    Calls Tryz.prog 7 #[.agg #[.int .i64 d.s.ru, .string d.s.nm, .string d.s.ot, .bool d.s.g, .slice d.aq d.an d.ac, .slice d.cq d.cn d.cc, .int .i64 d.s.kk, .int .i64 d.s.nn, .int .i64 d.s.pr, .int .i64 d.e.k, .int .i64 d.e.f, .bool d.e.neg, .slice d.e.aq d.e.an d.e.ac, .slice d.e.cq d.e.cn d.e.cc, .string d.e.m, .slice d.e.sq d.e.sn d.e.sc, .slice d.poq d.pon d.poc, .string d.s.en, .int .i64 d.s.ve, .slice d.arq d.arn d.arc, .slice d.kiq d.kin d.kic]] w fun e w' => e = .returned (.int .i64 m) ∧ Below w.heap.size w w' := by
  obtain ⟨dd, hu, hd⟩ := st_row
  have hHu : Hid (Tryz.prog.underlying 32 = some dd) := hu
  clear hu
  have hb0 : Hid (Below w.heap.size w (w.alloc (.cells #[.int .i64 d.s.ru, .string d.s.nm, .string d.s.ot, .bool d.s.g, .slice d.aq d.an d.ac, .slice d.cq d.cn d.cc, .int .i64 d.s.kk, .int .i64 d.s.nn, .int .i64 d.s.pr, .int .i64 d.e.k, .int .i64 d.e.f, .bool d.e.neg, .slice d.e.aq d.e.an d.e.ac, .slice d.e.cq d.e.cn d.e.cc, .string d.e.m, .slice d.e.sq d.e.sn d.e.sc, .slice d.poq d.pon d.poc, .string d.s.en, .int .i64 d.s.ve, .slice d.arq d.arn d.arc, .slice d.kiq d.kin d.kic] 32))) := below_alloc w _
  have D0 : Hid ((w.alloc (.cells #[.int .i64 d.s.ru, .string d.s.nm, .string d.s.ot, .bool d.s.g, .slice d.aq d.an d.ac, .slice d.cq d.cn d.cc, .int .i64 d.s.kk, .int .i64 d.s.nn, .int .i64 d.s.pr, .int .i64 d.e.k, .int .i64 d.e.f, .bool d.e.neg, .slice d.e.aq d.e.an d.e.ac, .slice d.e.cq d.e.cn d.e.cc, .string d.e.m, .slice d.e.sq d.e.sn d.e.sc, .slice d.poq d.pon d.poc, .string d.s.en, .int .i64 d.s.ve, .slice d.arq d.arn d.arc, .slice d.kiq d.kin d.kic] 32)).rangeAt (w.heap.size) 0 d.cells) := range_new w d.cells 32
  have hz0 : (w.alloc (.cells #[.int .i64 d.s.ru, .string d.s.nm, .string d.s.ot, .bool d.s.g, .slice d.aq d.an d.ac, .slice d.cq d.cn d.cc, .int .i64 d.s.kk, .int .i64 d.s.nn, .int .i64 d.s.pr, .int .i64 d.e.k, .int .i64 d.e.f, .bool d.e.neg, .slice d.e.aq d.e.an d.e.ac, .slice d.e.cq d.e.cn d.e.cc, .string d.e.m, .slice d.e.sq d.e.sn d.e.sc, .slice d.poq d.pon d.poc, .string d.s.en, .int .i64 d.s.ve, .slice d.arq d.arn d.arc, .slice d.kiq d.kin d.kic] 32)).heap.size = w.heap.size + 1 := by simp
  have hw1 := hW _ hb0.out
  clear hW
  have hmin : min (m : Int) 2001 = (m : Int) := by omega
  go_enter Tryz.func7, Tryz.ntmps7
  go_wp2_with (first
    | (with_reducible refine wpList_load_mid (op := ⟨some 3, _, _, _, _, _⟩) ?_ 32 (.tmp 1) ?_ (w.heap.size) 0 ?_ d.cells dd ?_ hHu.out hd ?_ ?_
       rotate_left 1
       · with_reducible rfl
       · kernel_rfl
       · exact D0.out
       · exact st_size
       rotate_left 1
       · rfl)
    | (go_at_call 15; refine hw1.mono ?_; rintro e w2 ⟨rfl, hb2⟩))
  go_ret
  exact ⟨rfl, hb0.out.trans (hb2.mono hb0.out.size)⟩

set_option maxRecDepth 100000 in
set_option maxHeartbeats 2000000 in
/-- check.Depth. -/
theorem depth_walk {w : World} {d : Sd} {m : Int}
    (hW : ∀ z, Below w.heap.size w z → Calls Tryz.prog 16 #[.agg d.cells.toArray, .int .i64 1] z fun e w' => e = .returned (.int .i64 m) ∧ Below z.heap.size z w') :
    Calls Tryz.prog 8 #[.agg #[.int .i64 d.s.ru, .string d.s.nm, .string d.s.ot, .bool d.s.g, .slice d.aq d.an d.ac, .slice d.cq d.cn d.cc, .int .i64 d.s.kk, .int .i64 d.s.nn, .int .i64 d.s.pr, .int .i64 d.e.k, .int .i64 d.e.f, .bool d.e.neg, .slice d.e.aq d.e.an d.e.ac, .slice d.e.cq d.e.cn d.e.cc, .string d.e.m, .slice d.e.sq d.e.sn d.e.sc, .slice d.poq d.pon d.poc, .string d.s.en, .int .i64 d.s.ve, .slice d.arq d.arn d.arc, .slice d.kiq d.kin d.kic]] w fun e w' => e = .returned (.int .i64 m) ∧ Below w.heap.size w w' := by
  obtain ⟨dd, hu, hd⟩ := st_row
  have hHu : Hid (Tryz.prog.underlying 32 = some dd) := hu
  clear hu
  have hb0 : Hid (Below w.heap.size w (w.alloc (.cells #[.int .i64 d.s.ru, .string d.s.nm, .string d.s.ot, .bool d.s.g, .slice d.aq d.an d.ac, .slice d.cq d.cn d.cc, .int .i64 d.s.kk, .int .i64 d.s.nn, .int .i64 d.s.pr, .int .i64 d.e.k, .int .i64 d.e.f, .bool d.e.neg, .slice d.e.aq d.e.an d.e.ac, .slice d.e.cq d.e.cn d.e.cc, .string d.e.m, .slice d.e.sq d.e.sn d.e.sc, .slice d.poq d.pon d.poc, .string d.s.en, .int .i64 d.s.ve, .slice d.arq d.arn d.arc, .slice d.kiq d.kin d.kic] 32))) := below_alloc w _
  have D0 : Hid ((w.alloc (.cells #[.int .i64 d.s.ru, .string d.s.nm, .string d.s.ot, .bool d.s.g, .slice d.aq d.an d.ac, .slice d.cq d.cn d.cc, .int .i64 d.s.kk, .int .i64 d.s.nn, .int .i64 d.s.pr, .int .i64 d.e.k, .int .i64 d.e.f, .bool d.e.neg, .slice d.e.aq d.e.an d.e.ac, .slice d.e.cq d.e.cn d.e.cc, .string d.e.m, .slice d.e.sq d.e.sn d.e.sc, .slice d.poq d.pon d.poc, .string d.s.en, .int .i64 d.s.ve, .slice d.arq d.arn d.arc, .slice d.kiq d.kin d.kic] 32)).rangeAt (w.heap.size) 0 d.cells) := range_new w d.cells 32
  have hz0 : (w.alloc (.cells #[.int .i64 d.s.ru, .string d.s.nm, .string d.s.ot, .bool d.s.g, .slice d.aq d.an d.ac, .slice d.cq d.cn d.cc, .int .i64 d.s.kk, .int .i64 d.s.nn, .int .i64 d.s.pr, .int .i64 d.e.k, .int .i64 d.e.f, .bool d.e.neg, .slice d.e.aq d.e.an d.e.ac, .slice d.e.cq d.e.cn d.e.cc, .string d.e.m, .slice d.e.sq d.e.sn d.e.sc, .slice d.poq d.pon d.poc, .string d.s.en, .int .i64 d.s.ve, .slice d.arq d.arn d.arc, .slice d.kiq d.kin d.kic] 32)).heap.size = w.heap.size + 1 := by simp
  have hw1 := hW _ hb0.out
  clear hW
  go_enter Tryz.func8, Tryz.ntmps8
  go_wp2_with (first
    | (with_reducible refine wpList_load_mid (op := ⟨some 3, _, _, _, _, _⟩) ?_ 32 (.tmp 1) ?_ (w.heap.size) 0 ?_ d.cells dd ?_ hHu.out hd ?_ ?_
       rotate_left 1
       · with_reducible rfl
       · kernel_rfl
       · exact D0.out
       · exact st_size
       rotate_left 1
       · rfl)
    | (go_at_call 16; refine hw1.mono ?_; rintro e w2 ⟨rfl, hb2⟩))
  go_ret
  exact ⟨rfl, hb0.out.trans (hb2.mono hb0.out.size)⟩

set_option maxRecDepth 100000 in
set_option maxHeartbeats 2000000 in
/-- The reference's Depth. -/
theorem depthQ_walk {w : World} {d : Sd} {m : Int}
    (hW : ∀ z, Below w.heap.size w z → Calls Tryz.prog 17 #[.agg d.cells.toArray, .int .i64 42] z fun e w' => e = .returned (.int .i64 m) ∧ Below z.heap.size z w') :
    Calls Tryz.prog 9 #[.agg #[.int .i64 d.s.ru, .string d.s.nm, .string d.s.ot, .bool d.s.g, .slice d.aq d.an d.ac, .slice d.cq d.cn d.cc, .int .i64 d.s.kk, .int .i64 d.s.nn, .int .i64 d.s.pr, .int .i64 d.e.k, .int .i64 d.e.f, .bool d.e.neg, .slice d.e.aq d.e.an d.e.ac, .slice d.e.cq d.e.cn d.e.cc, .string d.e.m, .slice d.e.sq d.e.sn d.e.sc, .slice d.poq d.pon d.poc, .string d.s.en, .int .i64 d.s.ve, .slice d.arq d.arn d.arc, .slice d.kiq d.kin d.kic]] w fun e w' => e = .returned (.int .i64 m) ∧ Below w.heap.size w w' := by
  obtain ⟨dd, hu, hd⟩ := st_row
  have hHu : Hid (Tryz.prog.underlying 32 = some dd) := hu
  clear hu
  have hb0 : Hid (Below w.heap.size w (w.alloc (.cells #[.int .i64 d.s.ru, .string d.s.nm, .string d.s.ot, .bool d.s.g, .slice d.aq d.an d.ac, .slice d.cq d.cn d.cc, .int .i64 d.s.kk, .int .i64 d.s.nn, .int .i64 d.s.pr, .int .i64 d.e.k, .int .i64 d.e.f, .bool d.e.neg, .slice d.e.aq d.e.an d.e.ac, .slice d.e.cq d.e.cn d.e.cc, .string d.e.m, .slice d.e.sq d.e.sn d.e.sc, .slice d.poq d.pon d.poc, .string d.s.en, .int .i64 d.s.ve, .slice d.arq d.arn d.arc, .slice d.kiq d.kin d.kic] 32))) := below_alloc w _
  have D0 : Hid ((w.alloc (.cells #[.int .i64 d.s.ru, .string d.s.nm, .string d.s.ot, .bool d.s.g, .slice d.aq d.an d.ac, .slice d.cq d.cn d.cc, .int .i64 d.s.kk, .int .i64 d.s.nn, .int .i64 d.s.pr, .int .i64 d.e.k, .int .i64 d.e.f, .bool d.e.neg, .slice d.e.aq d.e.an d.e.ac, .slice d.e.cq d.e.cn d.e.cc, .string d.e.m, .slice d.e.sq d.e.sn d.e.sc, .slice d.poq d.pon d.poc, .string d.s.en, .int .i64 d.s.ve, .slice d.arq d.arn d.arc, .slice d.kiq d.kin d.kic] 32)).rangeAt (w.heap.size) 0 d.cells) := range_new w d.cells 32
  have hz0 : (w.alloc (.cells #[.int .i64 d.s.ru, .string d.s.nm, .string d.s.ot, .bool d.s.g, .slice d.aq d.an d.ac, .slice d.cq d.cn d.cc, .int .i64 d.s.kk, .int .i64 d.s.nn, .int .i64 d.s.pr, .int .i64 d.e.k, .int .i64 d.e.f, .bool d.e.neg, .slice d.e.aq d.e.an d.e.ac, .slice d.e.cq d.e.cn d.e.cc, .string d.e.m, .slice d.e.sq d.e.sn d.e.sc, .slice d.poq d.pon d.poc, .string d.s.en, .int .i64 d.s.ve, .slice d.arq d.arn d.arc, .slice d.kiq d.kin d.kic] 32)).heap.size = w.heap.size + 1 := by simp
  have hw1 := hW _ hb0.out
  clear hW
  go_enter Tryz.func9, Tryz.ntmps9
  go_wp2_with (first
    | (with_reducible refine wpList_load_mid (op := ⟨some 3, _, _, _, _, _⟩) ?_ 32 (.tmp 1) ?_ (w.heap.size) 0 ?_ d.cells dd ?_ hHu.out hd ?_ ?_
       rotate_left 1
       · with_reducible rfl
       · kernel_rfl
       · exact D0.out
       · exact st_size
       rotate_left 1
       · rfl)
    | (go_at_call 17; refine hw1.mono ?_; rintro e w2 ⟨rfl, hb2⟩))
  go_ret
  exact ⟨rfl, hb0.out.trans (hb2.mono hb0.out.size)⟩

set_option maxRecDepth 100000 in
set_option maxHeartbeats 4000000 in
/-- check.Shape. -/
theorem shape_walk {w : World} {d : Sd} {n m : Int} {B : Bool}
    (h1 : ∀ z, Below w.heap.size w z → Calls Tryz.prog 6 #[.agg d.cells.toArray] z fun e w' => e = .returned (.int .i64 n) ∧ Below z.heap.size z w')
    (h2 : ∀ z, Below w.heap.size w z → Calls Tryz.prog 8 #[.agg d.cells.toArray] z fun e w' => e = .returned (.int .i64 m) ∧ Below z.heap.size z w')
    (h3 : ∀ z, Below w.heap.size w z → Calls Tryz.prog 11 #[.agg d.cells.toArray, .func (.func 12) #[] #[]] z fun e w' => e = .returned (.bool B) ∧ Below z.heap.size z w') :
    Calls Tryz.prog 4 #[.agg #[.int .i64 d.s.ru, .string d.s.nm, .string d.s.ot, .bool d.s.g, .slice d.aq d.an d.ac, .slice d.cq d.cn d.cc, .int .i64 d.s.kk, .int .i64 d.s.nn, .int .i64 d.s.pr, .int .i64 d.e.k, .int .i64 d.e.f, .bool d.e.neg, .slice d.e.aq d.e.an d.e.ac, .slice d.e.cq d.e.cn d.e.cc, .string d.e.m, .slice d.e.sq d.e.sn d.e.sc, .slice d.poq d.pon d.poc, .string d.s.en, .int .i64 d.s.ve, .slice d.arq d.arn d.arc, .slice d.kiq d.kin d.kic]] w fun e w' => e = .returned (.int .i64 (if n > 2000 then 4 else if m > 41 then 4 else if B then 0 else 70)) ∧ Below w.heap.size w w' := by
  obtain ⟨dd, hu, hd⟩ := st_row
  have hHu : Hid (Tryz.prog.underlying 32 = some dd) := hu
  clear hu
  have hb0 : Hid (Below w.heap.size w (w.alloc (.cells #[.int .i64 d.s.ru, .string d.s.nm, .string d.s.ot, .bool d.s.g, .slice d.aq d.an d.ac, .slice d.cq d.cn d.cc, .int .i64 d.s.kk, .int .i64 d.s.nn, .int .i64 d.s.pr, .int .i64 d.e.k, .int .i64 d.e.f, .bool d.e.neg, .slice d.e.aq d.e.an d.e.ac, .slice d.e.cq d.e.cn d.e.cc, .string d.e.m, .slice d.e.sq d.e.sn d.e.sc, .slice d.poq d.pon d.poc, .string d.s.en, .int .i64 d.s.ve, .slice d.arq d.arn d.arc, .slice d.kiq d.kin d.kic] 32))) := below_alloc w _
  have D0 : Hid ((w.alloc (.cells #[.int .i64 d.s.ru, .string d.s.nm, .string d.s.ot, .bool d.s.g, .slice d.aq d.an d.ac, .slice d.cq d.cn d.cc, .int .i64 d.s.kk, .int .i64 d.s.nn, .int .i64 d.s.pr, .int .i64 d.e.k, .int .i64 d.e.f, .bool d.e.neg, .slice d.e.aq d.e.an d.e.ac, .slice d.e.cq d.e.cn d.e.cc, .string d.e.m, .slice d.e.sq d.e.sn d.e.sc, .slice d.poq d.pon d.poc, .string d.s.en, .int .i64 d.s.ve, .slice d.arq d.arn d.arc, .slice d.kiq d.kin d.kic] 32)).rangeAt (w.heap.size) 0 d.cells) := range_new w d.cells 32
  have hz0 : (w.alloc (.cells #[.int .i64 d.s.ru, .string d.s.nm, .string d.s.ot, .bool d.s.g, .slice d.aq d.an d.ac, .slice d.cq d.cn d.cc, .int .i64 d.s.kk, .int .i64 d.s.nn, .int .i64 d.s.pr, .int .i64 d.e.k, .int .i64 d.e.f, .bool d.e.neg, .slice d.e.aq d.e.an d.e.ac, .slice d.e.cq d.e.cn d.e.cc, .string d.e.m, .slice d.e.sq d.e.sn d.e.sc, .slice d.poq d.pon d.poc, .string d.s.en, .int .i64 d.s.ve, .slice d.arq d.arn d.arc, .slice d.kiq d.kin d.kic] 32)).heap.size = w.heap.size + 1 := by simp
  by_cases c1 : n > 2000
  · rw [if_pos c1]
    have e1 : decide (n > 2000) = true := decide_eq_true c1
    have e1' : decide (2000 < n) = true := decide_eq_true c1
    go_enter Tryz.func4, Tryz.ntmps4
    go_wp2_with (first
      | (with_reducible refine wpList_load_mid (op := ⟨some 3, _, _, _, _, _⟩) ?_ 32 (.tmp 1) ?_ (w.heap.size) 0 ?_ d.cells dd ?_ hHu.out hd ?_ ?_
         rotate_left 1
         · with_reducible rfl
         · kernel_rfl
         · exact D0.out
         · exact st_size
         rotate_left 1
         · rfl)
      | (go_at_call 6; refine (h1 _ hb0.out).mono ?_; rintro e w2 ⟨rfl, hb2⟩
         have W2 : Hid (Below w.heap.size w w2) := hb0.out.trans (hb2.mono hb0.out.size)
         have hs2 : w.heap.size < w2.heap.size := by have := hb2.size; omega
         have D2 : Hid (w2.rangeAt (w.heap.size) 0 d.cells) := rangeAt_below D0.out hb2 (by omega)))
    go_ret
    exact ⟨rfl, W2.out⟩
  · rw [if_neg c1]
    have e1 : decide (n > 2000) = false := decide_eq_false c1
    have e1' : decide (2000 < n) = false := decide_eq_false c1
    by_cases c2 : m > 41
    · rw [if_pos c2]
      go_enter Tryz.func4, Tryz.ntmps4
      go_wp2_with (first
        | (with_reducible refine wpList_load_mid (op := ⟨some 3, _, _, _, _, _⟩) ?_ 32 (.tmp 1) ?_ (w.heap.size) 0 ?_ d.cells dd ?_ hHu.out hd ?_ ?_
           rotate_left 1
           · with_reducible rfl
           · kernel_rfl
           · exact D0.out
           · exact st_size
           rotate_left 1
           · rfl)
        | (go_at_call 6; refine (h1 _ hb0.out).mono ?_; rintro e w2 ⟨rfl, hb2⟩
           have W2 : Hid (Below w.heap.size w w2) := hb0.out.trans (hb2.mono hb0.out.size)
           have hs2 : w.heap.size < w2.heap.size := by have := hb2.size; omega
           have D2 : Hid (w2.rangeAt (w.heap.size) 0 d.cells) := rangeAt_below D0.out hb2 (by omega))
        | (with_reducible refine wpList_load_mid_g (op := ⟨some 7, _, _, _, _, _⟩) ?_ 32 (.tmp 1) ?_ (w.heap.size) 0 ?_ d.cells dd ?_ hHu.out hd ?_ ?_
           rotate_left 1
           · with_reducible rfl
           · kernel_rfl
           · exact D2.out
           · exact st_size
           rotate_left 1
           · kernel_rfl)
        | (go_at_call 8; refine (h2 _ W2.out).mono ?_; rintro e w3 ⟨rfl, hb3⟩
           have W3 : Hid (Below w.heap.size w w3) := W2.out.trans (hb3.mono W2.out.size)
           have hs3 : w.heap.size < w3.heap.size := by have := hb3.size; omega
           have D3 : Hid (w3.rangeAt (w.heap.size) 0 d.cells) := rangeAt_below D2.out hb3 (by omega)))
      go_ret
      exact ⟨rfl, W3.out⟩
    · rw [if_neg c2]
      cases B with
      | false =>
        show Calls Tryz.prog 4 #[.agg #[.int .i64 d.s.ru, .string d.s.nm, .string d.s.ot, .bool d.s.g, .slice d.aq d.an d.ac, .slice d.cq d.cn d.cc, .int .i64 d.s.kk, .int .i64 d.s.nn, .int .i64 d.s.pr, .int .i64 d.e.k, .int .i64 d.e.f, .bool d.e.neg, .slice d.e.aq d.e.an d.e.ac, .slice d.e.cq d.e.cn d.e.cc, .string d.e.m, .slice d.e.sq d.e.sn d.e.sc, .slice d.poq d.pon d.poc, .string d.s.en, .int .i64 d.s.ve, .slice d.arq d.arn d.arc, .slice d.kiq d.kin d.kic]] w fun e w' => e = .returned (.int .i64 70) ∧ Below w.heap.size w w'
        go_enter Tryz.func4, Tryz.ntmps4
        go_wp2_with (first
          | (with_reducible refine wpList_load_mid (op := ⟨some 3, _, _, _, _, _⟩) ?_ 32 (.tmp 1) ?_ (w.heap.size) 0 ?_ d.cells dd ?_ hHu.out hd ?_ ?_
             rotate_left 1
             · with_reducible rfl
             · kernel_rfl
             · exact D0.out
             · exact st_size
             rotate_left 1
             · rfl)
          | (go_at_call 6; refine (h1 _ hb0.out).mono ?_; rintro e w2 ⟨rfl, hb2⟩
             have W2 : Hid (Below w.heap.size w w2) := hb0.out.trans (hb2.mono hb0.out.size)
             have hs2 : w.heap.size < w2.heap.size := by have := hb2.size; omega
             have D2 : Hid (w2.rangeAt (w.heap.size) 0 d.cells) := rangeAt_below D0.out hb2 (by omega))
          | (with_reducible refine wpList_load_mid_g (op := ⟨some 7, _, _, _, _, _⟩) ?_ 32 (.tmp 1) ?_ (w.heap.size) 0 ?_ d.cells dd ?_ hHu.out hd ?_ ?_
             rotate_left 1
             · with_reducible rfl
             · kernel_rfl
             · exact D2.out
             · exact st_size
             rotate_left 1
             · kernel_rfl)
          | (go_at_call 8; refine (h2 _ W2.out).mono ?_; rintro e w3 ⟨rfl, hb3⟩
             have W3 : Hid (Below w.heap.size w w3) := W2.out.trans (hb3.mono W2.out.size)
             have hs3 : w.heap.size < w3.heap.size := by have := hb3.size; omega
             have D3 : Hid (w3.rangeAt (w.heap.size) 0 d.cells) := rangeAt_below D2.out hb3 (by omega))
          | (with_reducible refine wpList_load_mid (op := ⟨some 11, _, _, _, _, _⟩) ?_ 32 (.tmp 1) ?_ (w.heap.size) 0 ?_ d.cells dd ?_ hHu.out hd ?_ ?_
             rotate_left 1
             · with_reducible rfl
             · kernel_rfl
             · exact D3.out
             · exact st_size
             rotate_left 1
             · rfl)
          | (go_at_call 11; refine (h3 _ W3.out).mono ?_; rintro e w4 ⟨rfl, hb4⟩
             have W4 : Hid (Below w.heap.size w w4) := W3.out.trans (hb4.mono W3.out.size)))
        go_ret
        exact ⟨rfl, W4.out⟩
      | true =>
        show Calls Tryz.prog 4 #[.agg #[.int .i64 d.s.ru, .string d.s.nm, .string d.s.ot, .bool d.s.g, .slice d.aq d.an d.ac, .slice d.cq d.cn d.cc, .int .i64 d.s.kk, .int .i64 d.s.nn, .int .i64 d.s.pr, .int .i64 d.e.k, .int .i64 d.e.f, .bool d.e.neg, .slice d.e.aq d.e.an d.e.ac, .slice d.e.cq d.e.cn d.e.cc, .string d.e.m, .slice d.e.sq d.e.sn d.e.sc, .slice d.poq d.pon d.poc, .string d.s.en, .int .i64 d.s.ve, .slice d.arq d.arn d.arc, .slice d.kiq d.kin d.kic]] w fun e w' => e = .returned (.int .i64 0) ∧ Below w.heap.size w w'
        go_enter Tryz.func4, Tryz.ntmps4
        go_wp2_with (first
          | (with_reducible refine wpList_load_mid (op := ⟨some 3, _, _, _, _, _⟩) ?_ 32 (.tmp 1) ?_ (w.heap.size) 0 ?_ d.cells dd ?_ hHu.out hd ?_ ?_
             rotate_left 1
             · with_reducible rfl
             · kernel_rfl
             · exact D0.out
             · exact st_size
             rotate_left 1
             · rfl)
          | (go_at_call 6; refine (h1 _ hb0.out).mono ?_; rintro e w2 ⟨rfl, hb2⟩
             have W2 : Hid (Below w.heap.size w w2) := hb0.out.trans (hb2.mono hb0.out.size)
             have hs2 : w.heap.size < w2.heap.size := by have := hb2.size; omega
             have D2 : Hid (w2.rangeAt (w.heap.size) 0 d.cells) := rangeAt_below D0.out hb2 (by omega))
          | (with_reducible refine wpList_load_mid_g (op := ⟨some 7, _, _, _, _, _⟩) ?_ 32 (.tmp 1) ?_ (w.heap.size) 0 ?_ d.cells dd ?_ hHu.out hd ?_ ?_
             rotate_left 1
             · with_reducible rfl
             · kernel_rfl
             · exact D2.out
             · exact st_size
             rotate_left 1
             · kernel_rfl)
          | (go_at_call 8; refine (h2 _ W2.out).mono ?_; rintro e w3 ⟨rfl, hb3⟩
             have W3 : Hid (Below w.heap.size w w3) := W2.out.trans (hb3.mono W2.out.size)
             have hs3 : w.heap.size < w3.heap.size := by have := hb3.size; omega
             have D3 : Hid (w3.rangeAt (w.heap.size) 0 d.cells) := rangeAt_below D2.out hb3 (by omega))
          | (with_reducible refine wpList_load_mid (op := ⟨some 11, _, _, _, _, _⟩) ?_ 32 (.tmp 1) ?_ (w.heap.size) 0 ?_ d.cells dd ?_ hHu.out hd ?_ ?_
             rotate_left 1
             · with_reducible rfl
             · kernel_rfl
             · exact D3.out
             · exact st_size
             rotate_left 1
             · rfl)
          | (go_at_call 11; refine (h3 _ W3.out).mono ?_; rintro e w4 ⟨rfl, hb4⟩
             have W4 : Hid (Below w.heap.size w w4) := W3.out.trans (hb4.mono W3.out.size)))
        go_ret
        exact ⟨rfl, W4.out⟩

set_option maxRecDepth 100000 in
set_option maxHeartbeats 4000000 in
/-- The reference's Shape. -/
theorem shapeQ_walk {w : World} {d : Sd} {n m : Int} {B : Bool}
    (h1 : ∀ z, Below w.heap.size w z → Calls Tryz.prog 7 #[.agg d.cells.toArray] z fun e w' => e = .returned (.int .i64 n) ∧ Below z.heap.size z w')
    (h2 : ∀ z, Below w.heap.size w z → Calls Tryz.prog 9 #[.agg d.cells.toArray] z fun e w' => e = .returned (.int .i64 m) ∧ Below z.heap.size z w')
    (h3 : ∀ z, Below w.heap.size w z → Calls Tryz.prog 13 #[.agg d.cells.toArray] z fun e w' => e = .returned (.bool B) ∧ Below z.heap.size z w') :
    Calls Tryz.prog 5 #[.agg #[.int .i64 d.s.ru, .string d.s.nm, .string d.s.ot, .bool d.s.g, .slice d.aq d.an d.ac, .slice d.cq d.cn d.cc, .int .i64 d.s.kk, .int .i64 d.s.nn, .int .i64 d.s.pr, .int .i64 d.e.k, .int .i64 d.e.f, .bool d.e.neg, .slice d.e.aq d.e.an d.e.ac, .slice d.e.cq d.e.cn d.e.cc, .string d.e.m, .slice d.e.sq d.e.sn d.e.sc, .slice d.poq d.pon d.poc, .string d.s.en, .int .i64 d.s.ve, .slice d.arq d.arn d.arc, .slice d.kiq d.kin d.kic]] w fun e w' => e = .returned (.int .i64 (if n > 2000 then 4 else if m > 41 then 4 else if B then 0 else 70)) ∧ Below w.heap.size w w' := by
  obtain ⟨dd, hu, hd⟩ := st_row
  have hHu : Hid (Tryz.prog.underlying 32 = some dd) := hu
  clear hu
  have hb0 : Hid (Below w.heap.size w (w.alloc (.cells #[.int .i64 d.s.ru, .string d.s.nm, .string d.s.ot, .bool d.s.g, .slice d.aq d.an d.ac, .slice d.cq d.cn d.cc, .int .i64 d.s.kk, .int .i64 d.s.nn, .int .i64 d.s.pr, .int .i64 d.e.k, .int .i64 d.e.f, .bool d.e.neg, .slice d.e.aq d.e.an d.e.ac, .slice d.e.cq d.e.cn d.e.cc, .string d.e.m, .slice d.e.sq d.e.sn d.e.sc, .slice d.poq d.pon d.poc, .string d.s.en, .int .i64 d.s.ve, .slice d.arq d.arn d.arc, .slice d.kiq d.kin d.kic] 32))) := below_alloc w _
  have D0 : Hid ((w.alloc (.cells #[.int .i64 d.s.ru, .string d.s.nm, .string d.s.ot, .bool d.s.g, .slice d.aq d.an d.ac, .slice d.cq d.cn d.cc, .int .i64 d.s.kk, .int .i64 d.s.nn, .int .i64 d.s.pr, .int .i64 d.e.k, .int .i64 d.e.f, .bool d.e.neg, .slice d.e.aq d.e.an d.e.ac, .slice d.e.cq d.e.cn d.e.cc, .string d.e.m, .slice d.e.sq d.e.sn d.e.sc, .slice d.poq d.pon d.poc, .string d.s.en, .int .i64 d.s.ve, .slice d.arq d.arn d.arc, .slice d.kiq d.kin d.kic] 32)).rangeAt (w.heap.size) 0 d.cells) := range_new w d.cells 32
  have hz0 : (w.alloc (.cells #[.int .i64 d.s.ru, .string d.s.nm, .string d.s.ot, .bool d.s.g, .slice d.aq d.an d.ac, .slice d.cq d.cn d.cc, .int .i64 d.s.kk, .int .i64 d.s.nn, .int .i64 d.s.pr, .int .i64 d.e.k, .int .i64 d.e.f, .bool d.e.neg, .slice d.e.aq d.e.an d.e.ac, .slice d.e.cq d.e.cn d.e.cc, .string d.e.m, .slice d.e.sq d.e.sn d.e.sc, .slice d.poq d.pon d.poc, .string d.s.en, .int .i64 d.s.ve, .slice d.arq d.arn d.arc, .slice d.kiq d.kin d.kic] 32)).heap.size = w.heap.size + 1 := by simp
  by_cases c1 : n > 2000
  · rw [if_pos c1]
    have e1 : decide (n > 2000) = true := decide_eq_true c1
    have e1' : decide (2000 < n) = true := decide_eq_true c1
    go_enter Tryz.func5, Tryz.ntmps5
    go_wp2_with (first
      | (with_reducible refine wpList_load_mid (op := ⟨some 3, _, _, _, _, _⟩) ?_ 32 (.tmp 1) ?_ (w.heap.size) 0 ?_ d.cells dd ?_ hHu.out hd ?_ ?_
         rotate_left 1
         · with_reducible rfl
         · kernel_rfl
         · exact D0.out
         · exact st_size
         rotate_left 1
         · rfl)
      | (go_at_call 7; refine (h1 _ hb0.out).mono ?_; rintro e w2 ⟨rfl, hb2⟩
         have W2 : Hid (Below w.heap.size w w2) := hb0.out.trans (hb2.mono hb0.out.size)
         have hs2 : w.heap.size < w2.heap.size := by have := hb2.size; omega
         have D2 : Hid (w2.rangeAt (w.heap.size) 0 d.cells) := rangeAt_below D0.out hb2 (by omega)))
    go_ret
    exact ⟨rfl, W2.out⟩
  · rw [if_neg c1]
    have e1 : decide (n > 2000) = false := decide_eq_false c1
    have e1' : decide (2000 < n) = false := decide_eq_false c1
    by_cases c2 : m > 41
    · rw [if_pos c2]
      go_enter Tryz.func5, Tryz.ntmps5
      go_wp2_with (first
        | (with_reducible refine wpList_load_mid (op := ⟨some 3, _, _, _, _, _⟩) ?_ 32 (.tmp 1) ?_ (w.heap.size) 0 ?_ d.cells dd ?_ hHu.out hd ?_ ?_
           rotate_left 1
           · with_reducible rfl
           · kernel_rfl
           · exact D0.out
           · exact st_size
           rotate_left 1
           · rfl)
        | (go_at_call 7; refine (h1 _ hb0.out).mono ?_; rintro e w2 ⟨rfl, hb2⟩
           have W2 : Hid (Below w.heap.size w w2) := hb0.out.trans (hb2.mono hb0.out.size)
           have hs2 : w.heap.size < w2.heap.size := by have := hb2.size; omega
           have D2 : Hid (w2.rangeAt (w.heap.size) 0 d.cells) := rangeAt_below D0.out hb2 (by omega))
        | (with_reducible refine wpList_load_mid_g (op := ⟨some 7, _, _, _, _, _⟩) ?_ 32 (.tmp 1) ?_ (w.heap.size) 0 ?_ d.cells dd ?_ hHu.out hd ?_ ?_
           rotate_left 1
           · with_reducible rfl
           · kernel_rfl
           · exact D2.out
           · exact st_size
           rotate_left 1
           · kernel_rfl)
        | (go_at_call 9; refine (h2 _ W2.out).mono ?_; rintro e w3 ⟨rfl, hb3⟩
           have W3 : Hid (Below w.heap.size w w3) := W2.out.trans (hb3.mono W2.out.size)
           have hs3 : w.heap.size < w3.heap.size := by have := hb3.size; omega
           have D3 : Hid (w3.rangeAt (w.heap.size) 0 d.cells) := rangeAt_below D2.out hb3 (by omega)))
      go_ret
      exact ⟨rfl, W3.out⟩
    · rw [if_neg c2]
      cases B with
      | false =>
        show Calls Tryz.prog 5 #[.agg #[.int .i64 d.s.ru, .string d.s.nm, .string d.s.ot, .bool d.s.g, .slice d.aq d.an d.ac, .slice d.cq d.cn d.cc, .int .i64 d.s.kk, .int .i64 d.s.nn, .int .i64 d.s.pr, .int .i64 d.e.k, .int .i64 d.e.f, .bool d.e.neg, .slice d.e.aq d.e.an d.e.ac, .slice d.e.cq d.e.cn d.e.cc, .string d.e.m, .slice d.e.sq d.e.sn d.e.sc, .slice d.poq d.pon d.poc, .string d.s.en, .int .i64 d.s.ve, .slice d.arq d.arn d.arc, .slice d.kiq d.kin d.kic]] w fun e w' => e = .returned (.int .i64 70) ∧ Below w.heap.size w w'
        go_enter Tryz.func5, Tryz.ntmps5
        go_wp2_with (first
          | (with_reducible refine wpList_load_mid (op := ⟨some 3, _, _, _, _, _⟩) ?_ 32 (.tmp 1) ?_ (w.heap.size) 0 ?_ d.cells dd ?_ hHu.out hd ?_ ?_
             rotate_left 1
             · with_reducible rfl
             · kernel_rfl
             · exact D0.out
             · exact st_size
             rotate_left 1
             · rfl)
          | (go_at_call 7; refine (h1 _ hb0.out).mono ?_; rintro e w2 ⟨rfl, hb2⟩
             have W2 : Hid (Below w.heap.size w w2) := hb0.out.trans (hb2.mono hb0.out.size)
             have hs2 : w.heap.size < w2.heap.size := by have := hb2.size; omega
             have D2 : Hid (w2.rangeAt (w.heap.size) 0 d.cells) := rangeAt_below D0.out hb2 (by omega))
          | (with_reducible refine wpList_load_mid_g (op := ⟨some 7, _, _, _, _, _⟩) ?_ 32 (.tmp 1) ?_ (w.heap.size) 0 ?_ d.cells dd ?_ hHu.out hd ?_ ?_
             rotate_left 1
             · with_reducible rfl
             · kernel_rfl
             · exact D2.out
             · exact st_size
             rotate_left 1
             · kernel_rfl)
          | (go_at_call 9; refine (h2 _ W2.out).mono ?_; rintro e w3 ⟨rfl, hb3⟩
             have W3 : Hid (Below w.heap.size w w3) := W2.out.trans (hb3.mono W2.out.size)
             have hs3 : w.heap.size < w3.heap.size := by have := hb3.size; omega
             have D3 : Hid (w3.rangeAt (w.heap.size) 0 d.cells) := rangeAt_below D2.out hb3 (by omega))
          | (with_reducible refine wpList_load_mid (op := ⟨some 11, _, _, _, _, _⟩) ?_ 32 (.tmp 1) ?_ (w.heap.size) 0 ?_ d.cells dd ?_ hHu.out hd ?_ ?_
             rotate_left 1
             · with_reducible rfl
             · kernel_rfl
             · exact D3.out
             · exact st_size
             rotate_left 1
             · rfl)
          | (go_at_call 13; refine (h3 _ W3.out).mono ?_; rintro e w4 ⟨rfl, hb4⟩
             have W4 : Hid (Below w.heap.size w w4) := W3.out.trans (hb4.mono W3.out.size)))
        go_ret
        exact ⟨rfl, W4.out⟩
      | true =>
        show Calls Tryz.prog 5 #[.agg #[.int .i64 d.s.ru, .string d.s.nm, .string d.s.ot, .bool d.s.g, .slice d.aq d.an d.ac, .slice d.cq d.cn d.cc, .int .i64 d.s.kk, .int .i64 d.s.nn, .int .i64 d.s.pr, .int .i64 d.e.k, .int .i64 d.e.f, .bool d.e.neg, .slice d.e.aq d.e.an d.e.ac, .slice d.e.cq d.e.cn d.e.cc, .string d.e.m, .slice d.e.sq d.e.sn d.e.sc, .slice d.poq d.pon d.poc, .string d.s.en, .int .i64 d.s.ve, .slice d.arq d.arn d.arc, .slice d.kiq d.kin d.kic]] w fun e w' => e = .returned (.int .i64 0) ∧ Below w.heap.size w w'
        go_enter Tryz.func5, Tryz.ntmps5
        go_wp2_with (first
          | (with_reducible refine wpList_load_mid (op := ⟨some 3, _, _, _, _, _⟩) ?_ 32 (.tmp 1) ?_ (w.heap.size) 0 ?_ d.cells dd ?_ hHu.out hd ?_ ?_
             rotate_left 1
             · with_reducible rfl
             · kernel_rfl
             · exact D0.out
             · exact st_size
             rotate_left 1
             · rfl)
          | (go_at_call 7; refine (h1 _ hb0.out).mono ?_; rintro e w2 ⟨rfl, hb2⟩
             have W2 : Hid (Below w.heap.size w w2) := hb0.out.trans (hb2.mono hb0.out.size)
             have hs2 : w.heap.size < w2.heap.size := by have := hb2.size; omega
             have D2 : Hid (w2.rangeAt (w.heap.size) 0 d.cells) := rangeAt_below D0.out hb2 (by omega))
          | (with_reducible refine wpList_load_mid_g (op := ⟨some 7, _, _, _, _, _⟩) ?_ 32 (.tmp 1) ?_ (w.heap.size) 0 ?_ d.cells dd ?_ hHu.out hd ?_ ?_
             rotate_left 1
             · with_reducible rfl
             · kernel_rfl
             · exact D2.out
             · exact st_size
             rotate_left 1
             · kernel_rfl)
          | (go_at_call 9; refine (h2 _ W2.out).mono ?_; rintro e w3 ⟨rfl, hb3⟩
             have W3 : Hid (Below w.heap.size w w3) := W2.out.trans (hb3.mono W2.out.size)
             have hs3 : w.heap.size < w3.heap.size := by have := hb3.size; omega
             have D3 : Hid (w3.rangeAt (w.heap.size) 0 d.cells) := rangeAt_below D2.out hb3 (by omega))
          | (with_reducible refine wpList_load_mid (op := ⟨some 11, _, _, _, _, _⟩) ?_ 32 (.tmp 1) ?_ (w.heap.size) 0 ?_ d.cells dd ?_ hHu.out hd ?_ ?_
             rotate_left 1
             · with_reducible rfl
             · kernel_rfl
             · exact D3.out
             · exact st_size
             rotate_left 1
             · rfl)
          | (go_at_call 13; refine (h3 _ W3.out).mono ?_; rintro e w4 ⟨rfl, hb4⟩
             have W4 : Hid (Below w.heap.size w w4) := W3.out.trans (hb4.mono W3.out.size)))
        go_ret
        exact ⟨rfl, W4.out⟩

set_option maxRecDepth 100000 in
set_option maxHeartbeats 8000000 in
/-- CheckShapes, out of the answers of what it calls. -/
theorem shapes_walk {w : World} {d : Sd} {E n m : Int}
    (k4 : ∀ z, Below w.heap.size w z → Calls Tryz.prog 4 #[.agg d.cells.toArray] z fun e w' => e = .returned (.int .i64 E) ∧ Below z.heap.size z w')
    (k5 : ∀ z, Below w.heap.size w z → Calls Tryz.prog 5 #[.agg d.cells.toArray] z fun e w' => e = .returned (.int .i64 E) ∧ Below z.heap.size z w')
    (k6 : ∀ z, Below w.heap.size w z → Calls Tryz.prog 6 #[.agg d.cells.toArray] z fun e w' => e = .returned (.int .i64 n) ∧ Below z.heap.size z w')
    (k7 : ∀ z, Below w.heap.size w z → Calls Tryz.prog 7 #[.agg d.cells.toArray] z fun e w' => e = .returned (.int .i64 n) ∧ Below z.heap.size z w')
    (k8 : ∀ z, Below w.heap.size w z → Calls Tryz.prog 8 #[.agg d.cells.toArray] z fun e w' => e = .returned (.int .i64 m) ∧ Below z.heap.size z w')
    (k9 : ∀ z, Below w.heap.size w z → Calls Tryz.prog 9 #[.agg d.cells.toArray] z fun e w' => e = .returned (.int .i64 m) ∧ Below z.heap.size z w')
    (kA : ∀ z, Below w.heap.size w z → Calls Tryz.prog 10 #[] z fun e w' => e = .returned (.bool true) ∧ Below z.heap.size z w') :
    Calls Tryz.prog 3 #[.agg #[.int .i64 d.s.ru, .string d.s.nm, .string d.s.ot, .bool d.s.g, .slice d.aq d.an d.ac, .slice d.cq d.cn d.cc, .int .i64 d.s.kk, .int .i64 d.s.nn, .int .i64 d.s.pr, .int .i64 d.e.k, .int .i64 d.e.f, .bool d.e.neg, .slice d.e.aq d.e.an d.e.ac, .slice d.e.cq d.e.cn d.e.cc, .string d.e.m, .slice d.e.sq d.e.sn d.e.sc, .slice d.poq d.pon d.poc, .string d.s.en, .int .i64 d.s.ve, .slice d.arq d.arn d.arc, .slice d.kiq d.kin d.kic]] w fun e w' => e = .returned (.bool true) ∧ Below w.heap.size w w' := by
  obtain ⟨dd, hu, hd⟩ := st_row
  have hHu : Hid (Tryz.prog.underlying 32 = some dd) := hu
  clear hu
  have hb0 : Hid (Below w.heap.size w (w.alloc (.cells #[.int .i64 d.s.ru, .string d.s.nm, .string d.s.ot, .bool d.s.g, .slice d.aq d.an d.ac, .slice d.cq d.cn d.cc, .int .i64 d.s.kk, .int .i64 d.s.nn, .int .i64 d.s.pr, .int .i64 d.e.k, .int .i64 d.e.f, .bool d.e.neg, .slice d.e.aq d.e.an d.e.ac, .slice d.e.cq d.e.cn d.e.cc, .string d.e.m, .slice d.e.sq d.e.sn d.e.sc, .slice d.poq d.pon d.poc, .string d.s.en, .int .i64 d.s.ve, .slice d.arq d.arn d.arc, .slice d.kiq d.kin d.kic] 32))) := below_alloc w _
  have lx : Hid (d.cells.length = 21) := rfl
  obtain ⟨cs, hcs⟩ : ∃ c : List Value, c = d.cells := ⟨_, rfl⟩
  rw [← hcs] at lx k4 k5 k6 k7 k8 k9
  have h4 : Hid (∀ z, Below w.heap.size w z → Calls Tryz.prog 4 #[.agg cs.toArray] z fun e w' => e = .returned (.int .i64 E) ∧ Below z.heap.size z w') := k4
  have h5 : Hid (∀ z, Below w.heap.size w z → Calls Tryz.prog 5 #[.agg cs.toArray] z fun e w' => e = .returned (.int .i64 E) ∧ Below z.heap.size z w') := k5
  have h6 : Hid (∀ z, Below w.heap.size w z → Calls Tryz.prog 6 #[.agg cs.toArray] z fun e w' => e = .returned (.int .i64 n) ∧ Below z.heap.size z w') := k6
  have h7 : Hid (∀ z, Below w.heap.size w z → Calls Tryz.prog 7 #[.agg cs.toArray] z fun e w' => e = .returned (.int .i64 n) ∧ Below z.heap.size z w') := k7
  have h8 : Hid (∀ z, Below w.heap.size w z → Calls Tryz.prog 8 #[.agg cs.toArray] z fun e w' => e = .returned (.int .i64 m) ∧ Below z.heap.size z w') := k8
  have h9 : Hid (∀ z, Below w.heap.size w z → Calls Tryz.prog 9 #[.agg cs.toArray] z fun e w' => e = .returned (.int .i64 m) ∧ Below z.heap.size z w') := k9
  have hA : Hid (∀ z, Below w.heap.size w z → Calls Tryz.prog 10 #[] z fun e w' => e = .returned (.bool true) ∧ Below z.heap.size z w') := kA
  have hS0 : (fun z => z.rangeAt w.heap.size 0 cs) (w.alloc (.cells #[.int .i64 d.s.ru, .string d.s.nm, .string d.s.ot, .bool d.s.g, .slice d.aq d.an d.ac, .slice d.cq d.cn d.cc, .int .i64 d.s.kk, .int .i64 d.s.nn, .int .i64 d.s.pr, .int .i64 d.e.k, .int .i64 d.e.f, .bool d.e.neg, .slice d.e.aq d.e.an d.e.ac, .slice d.e.cq d.e.cn d.e.cc, .string d.e.m, .slice d.e.sq d.e.sn d.e.sc, .slice d.poq d.pon d.poc, .string d.s.en, .int .i64 d.s.ve, .slice d.arq d.arn d.arc, .slice d.kiq d.kin d.kic] 32)) := by rw [hcs]; exact range_new w d.cells 32
  have hsT : w.heap.size < (w.alloc (.cells #[.int .i64 d.s.ru, .string d.s.nm, .string d.s.ot, .bool d.s.g, .slice d.aq d.an d.ac, .slice d.cq d.cn d.cc, .int .i64 d.s.kk, .int .i64 d.s.nn, .int .i64 d.s.pr, .int .i64 d.e.k, .int .i64 d.e.f, .bool d.e.neg, .slice d.e.aq d.e.an d.e.ac, .slice d.e.cq d.e.cn d.e.cc, .string d.e.m, .slice d.e.sq d.e.sn d.e.sc, .slice d.poq d.pon d.poc, .string d.s.en, .int .i64 d.s.ve, .slice d.arq d.arn d.arc, .slice d.kiq d.kin d.kic] 32)).drew.heap.size := by simp
  clear k4 k5 k6 k7 k8 k9 kA hcs
  go_enter Tryz.func3, Tryz.ntmps3
  go_upto_region 1 with fail
  generalize (w.alloc (.cells #[.int .i64 d.s.ru, .string d.s.nm, .string d.s.ot, .bool d.s.g, .slice d.aq d.an d.ac, .slice d.cq d.cn d.cc, .int .i64 d.s.kk, .int .i64 d.s.nn, .int .i64 d.s.pr, .int .i64 d.e.k, .int .i64 d.e.f, .bool d.e.neg, .slice d.e.aq d.e.an d.e.ac, .slice d.e.cq d.e.cn d.e.cc, .string d.e.m, .slice d.e.sq d.e.sn d.e.sc, .slice d.poq d.pon d.poc, .string d.s.en, .int .i64 d.s.ve, .slice d.arq d.arn d.arc, .slice d.kiq d.kin d.kic] 32)) = WW at *
  have hSW := hS0
  clear hS0
  refine wp_region_held_drew (S := (fun z => z.rangeAt w.heap.size 0 cs)) (by kernel_rfl) hSW (fun hHeld => ?_)
  refine wpAnyH_take (i := 0) (v := .agg cs.toArray) rfl (by kernel_rfl) (by kernel_rfl) (by kernel_rfl) (fun _ _ _ h => h) (yieldsIf_load_mid (by kernel_rfl) 32 (.tmp 1) rfl w.heap.size 0 (by kernel_rfl) cs dd (fun z hz => hz) hHu.out hd (by rw [lx.out]; exact st_size)) hHeld ?_
  simp only [Act.put, List.getElem_toArray, List.getElem_cons_succ, List.getElem_cons_zero, List.setIfInBounds_toArray, List.set_cons_zero, List.set_cons_succ]
  refine wpAnyH_take (i := 2) (v := .agg cs.toArray) rfl (by kernel_rfl) (by kernel_rfl) (by kernel_rfl) (fun _ _ _ h => h) (yieldsIf_load_mid (by kernel_rfl) 32 (.tmp 1) rfl w.heap.size 0 (by kernel_rfl) cs dd (fun z hz => hz) hHu.out hd (by rw [lx.out]; exact st_size)) hHeld ?_
  simp only [Act.put, List.getElem_toArray, List.getElem_cons_succ, List.getElem_cons_zero, List.setIfInBounds_toArray, List.set_cons_zero, List.set_cons_succ]
  refine wpAnyH_ready (rs := [1]) (by kernel_rfl) (by simp) ?_
  refine AllReadyH.cons rfl (fun K hK => ?_) AllReadyH.nil
  go_simp
  refine (h4.out _ hb0.out.drew).mono ?_
  rintro e w5 ⟨rfl, hb5⟩
  have H5 : (fun z => z.rangeAt w.heap.size 0 cs) w5 := rangeAt_below ((World.rangeAt_drew _ _ _ _).2 hSW) hb5 hsT
  have hs5 : w.heap.size < w5.heap.size := Nat.lt_of_lt_of_le hsT hb5.size
  have hw5 : Hid (Below w.heap.size w w5) := hb0.out.drew.trans (hb5.mono hb0.out.drew.size)
  refine hK.out _ _ H5 (fun hHeld5 => ?_)
  clear hK K hHeld
  refine wpAnyH_ready (rs := [3]) (by kernel_rfl) (by simp) ?_
  refine AllReadyH.cons rfl (fun K hK => ?_) AllReadyH.nil
  go_simp
  refine (h5.out _ hw5.out).mono ?_
  rintro e w6 ⟨rfl, hb6⟩
  have H6 : (fun z => z.rangeAt w.heap.size 0 cs) w6 := rangeAt_below H5 hb6 hs5
  have hs6 : w.heap.size < w6.heap.size := Nat.lt_of_lt_of_le hs5 hb6.size
  have hw6 : Hid (Below w.heap.size w w6) := hw5.out.trans (hb6.mono hw5.out.size)
  refine hK.out _ _ H6 (fun hHeld6 => ?_)
  clear hK K hHeld5
  refine wpAnyH_take (i := 4) (v := .bool true) rfl (by kernel_rfl) (by kernel_rfl) (by kernel_rfl) (fun _ _ _ h => h) (.inl ⟨by rfl, fun z hSz => by go_simp⟩) hHeld6 ?_
  simp only [Act.put, List.getElem_toArray, List.getElem_cons_succ, List.getElem_cons_zero, List.setIfInBounds_toArray, List.set_cons_zero, List.set_cons_succ]
  refine wpAnyH_take (i := 5) (v := .bool true) rfl (by kernel_rfl) (by kernel_rfl) (by kernel_rfl) (fun _ _ _ h => h) (.inl ⟨by rfl, fun z hSz => by go_simp⟩) hHeld6 ?_
  simp only [Act.put, List.getElem_toArray, List.getElem_cons_succ, List.getElem_cons_zero, List.setIfInBounds_toArray, List.set_cons_zero, List.set_cons_succ]
  refine wpAnyH_take (i := 6) (v := .agg cs.toArray) rfl (by kernel_rfl) (by kernel_rfl) (by kernel_rfl) (fun _ _ _ h => h) (yieldsIf_load_mid (by kernel_rfl) 32 (.tmp 1) rfl w.heap.size 0 (by kernel_rfl) cs dd (fun z hz => hz) hHu.out hd (by rw [lx.out]; exact st_size)) hHeld6 ?_
  simp only [Act.put, List.getElem_toArray, List.getElem_cons_succ, List.getElem_cons_zero, List.setIfInBounds_toArray, List.set_cons_zero, List.set_cons_succ]
  refine wpAnyH_take (i := 8) (v := .agg cs.toArray) rfl (by kernel_rfl) (by kernel_rfl) (by kernel_rfl) (fun _ _ _ h => h) (yieldsIf_load_mid (by kernel_rfl) 32 (.tmp 1) rfl w.heap.size 0 (by kernel_rfl) cs dd (fun z hz => hz) hHu.out hd (by rw [lx.out]; exact st_size)) hHeld6 ?_
  simp only [Act.put, List.getElem_toArray, List.getElem_cons_succ, List.getElem_cons_zero, List.setIfInBounds_toArray, List.set_cons_zero, List.set_cons_succ]
  refine wpAnyH_ready (rs := [7]) (by kernel_rfl) (by simp) ?_
  refine AllReadyH.cons rfl (fun K hK => ?_) AllReadyH.nil
  go_simp
  refine (h6.out _ hw6.out).mono ?_
  rintro e w7 ⟨rfl, hb7⟩
  have H7 : (fun z => z.rangeAt w.heap.size 0 cs) w7 := rangeAt_below H6 hb7 hs6
  have hs7 : w.heap.size < w7.heap.size := Nat.lt_of_lt_of_le hs6 hb7.size
  have hw7 : Hid (Below w.heap.size w w7) := hw6.out.trans (hb7.mono hw6.out.size)
  refine hK.out _ _ H7 (fun hHeld7 => ?_)
  clear hK K hHeld6
  refine wpAnyH_ready (rs := [9]) (by kernel_rfl) (by simp) ?_
  refine AllReadyH.cons rfl (fun K hK => ?_) AllReadyH.nil
  go_simp
  refine (h7.out _ hw7.out).mono ?_
  rintro e w8 ⟨rfl, hb8⟩
  have H8 : (fun z => z.rangeAt w.heap.size 0 cs) w8 := rangeAt_below H7 hb8 hs7
  have hs8 : w.heap.size < w8.heap.size := Nat.lt_of_lt_of_le hs7 hb8.size
  have hw8 : Hid (Below w.heap.size w w8) := hw7.out.trans (hb8.mono hw7.out.size)
  refine hK.out _ _ H8 (fun hHeld8 => ?_)
  clear hK K hHeld7
  refine wpAnyH_take (i := 10) (v := .bool true) rfl (by kernel_rfl) (by kernel_rfl) (by kernel_rfl) (fun _ _ _ h => h) (.inl ⟨by rfl, fun z hSz => by go_simp⟩) hHeld8 ?_
  simp only [Act.put, List.getElem_toArray, List.getElem_cons_succ, List.getElem_cons_zero, List.setIfInBounds_toArray, List.set_cons_zero, List.set_cons_succ]
  refine wpAnyH_take (i := 11) (v := .bool true) rfl (by kernel_rfl) (by kernel_rfl) (by kernel_rfl) (fun _ _ _ h => h) (.inl ⟨by rfl, fun z hSz => by go_simp⟩) hHeld8 ?_
  simp only [Act.put, List.getElem_toArray, List.getElem_cons_succ, List.getElem_cons_zero, List.setIfInBounds_toArray, List.set_cons_zero, List.set_cons_succ]
  refine wpAnyH_take (i := 12) (v := .bool true) rfl (by kernel_rfl) (by kernel_rfl) (by kernel_rfl) (fun _ _ _ h => h) (.inl ⟨by rfl, fun z hSz => by go_simp⟩) hHeld8 ?_
  simp only [Act.put, List.getElem_toArray, List.getElem_cons_succ, List.getElem_cons_zero, List.setIfInBounds_toArray, List.set_cons_zero, List.set_cons_succ]
  refine wpAnyH_take (i := 13) (v := .agg cs.toArray) rfl (by kernel_rfl) (by kernel_rfl) (by kernel_rfl) (fun _ _ _ h => h) (yieldsIf_load_mid (by kernel_rfl) 32 (.tmp 1) rfl w.heap.size 0 (by kernel_rfl) cs dd (fun z hz => hz) hHu.out hd (by rw [lx.out]; exact st_size)) hHeld8 ?_
  simp only [Act.put, List.getElem_toArray, List.getElem_cons_succ, List.getElem_cons_zero, List.setIfInBounds_toArray, List.set_cons_zero, List.set_cons_succ]
  refine wpAnyH_take (i := 15) (v := .agg cs.toArray) rfl (by kernel_rfl) (by kernel_rfl) (by kernel_rfl) (fun _ _ _ h => h) (yieldsIf_load_mid (by kernel_rfl) 32 (.tmp 1) rfl w.heap.size 0 (by kernel_rfl) cs dd (fun z hz => hz) hHu.out hd (by rw [lx.out]; exact st_size)) hHeld8 ?_
  simp only [Act.put, List.getElem_toArray, List.getElem_cons_succ, List.getElem_cons_zero, List.setIfInBounds_toArray, List.set_cons_zero, List.set_cons_succ]
  refine wpAnyH_ready (rs := [14]) (by kernel_rfl) (by simp) ?_
  refine AllReadyH.cons rfl (fun K hK => ?_) AllReadyH.nil
  go_simp
  refine (h8.out _ hw8.out).mono ?_
  rintro e w9 ⟨rfl, hb9⟩
  have H9 : (fun z => z.rangeAt w.heap.size 0 cs) w9 := rangeAt_below H8 hb9 hs8
  have hs9 : w.heap.size < w9.heap.size := Nat.lt_of_lt_of_le hs8 hb9.size
  have hw9 : Hid (Below w.heap.size w w9) := hw8.out.trans (hb9.mono hw8.out.size)
  refine hK.out _ _ H9 (fun hHeld9 => ?_)
  clear hK K hHeld8
  refine wpAnyH_ready (rs := [16]) (by kernel_rfl) (by simp) ?_
  refine AllReadyH.cons rfl (fun K hK => ?_) AllReadyH.nil
  go_simp
  refine (h9.out _ hw9.out).mono ?_
  rintro e w10 ⟨rfl, hb10⟩
  have H10 : (fun z => z.rangeAt w.heap.size 0 cs) w10 := rangeAt_below H9 hb10 hs9
  have hs10 : w.heap.size < w10.heap.size := Nat.lt_of_lt_of_le hs9 hb10.size
  have hw10 : Hid (Below w.heap.size w w10) := hw9.out.trans (hb10.mono hw9.out.size)
  refine hK.out _ _ H10 (fun hHeld10 => ?_)
  clear hK K hHeld9
  refine wpAnyH_take (i := 17) (v := .bool true) rfl (by kernel_rfl) (by kernel_rfl) (by kernel_rfl) (fun _ _ _ h => h) (.inl ⟨by rfl, fun z hSz => by go_simp⟩) hHeld10 ?_
  simp only [Act.put, List.getElem_toArray, List.getElem_cons_succ, List.getElem_cons_zero, List.setIfInBounds_toArray, List.set_cons_zero, List.set_cons_succ]
  refine wpAnyH_take (i := 18) (v := .bool true) rfl (by kernel_rfl) (by kernel_rfl) (by kernel_rfl) (fun _ _ _ h => h) (.inl ⟨by rfl, fun z hSz => by go_simp⟩) hHeld10 ?_
  simp only [Act.put, List.getElem_toArray, List.getElem_cons_succ, List.getElem_cons_zero, List.setIfInBounds_toArray, List.set_cons_zero, List.set_cons_succ]
  refine wpAnyH_take (i := 19) (v := .bool true) rfl (by kernel_rfl) (by kernel_rfl) (by kernel_rfl) (fun _ _ _ h => h) (.inl ⟨by rfl, fun z hSz => by go_simp⟩) hHeld10 ?_
  simp only [Act.put, List.getElem_toArray, List.getElem_cons_succ, List.getElem_cons_zero, List.setIfInBounds_toArray, List.set_cons_zero, List.set_cons_succ]
  refine wpAnyH_ready (rs := [20]) (by kernel_rfl) (by simp) ?_
  refine AllReadyH.cons rfl (fun K hK => ?_) AllReadyH.nil
  go_simp
  refine (hA.out _ hw10.out).mono ?_
  rintro e w11 ⟨rfl, hb11⟩
  have H11 : (fun z => z.rangeAt w.heap.size 0 cs) w11 := rangeAt_below H10 hb11 hs10
  have hs11 : w.heap.size < w11.heap.size := Nat.lt_of_lt_of_le hs10 hb11.size
  have hw11 : Hid (Below w.heap.size w w11) := hw10.out.trans (hb11.mono hw10.out.size)
  refine hK.out _ _ H11 (fun hHeld11 => ?_)
  clear hK K hHeld10
  refine wpAnyH_take (i := 21) (v := .bool true) rfl (by kernel_rfl) (by kernel_rfl) (by kernel_rfl) (fun _ _ _ h => h) (.inl ⟨by rfl, fun z hSz => by go_simp⟩) hHeld11 ?_
  simp only [Act.put, List.getElem_toArray, List.getElem_cons_succ, List.getElem_cons_zero, List.setIfInBounds_toArray, List.set_cons_zero, List.set_cons_succ]
  refine wpAnyH_take (i := 22) (v := .bool true) rfl (by kernel_rfl) (by kernel_rfl) (by kernel_rfl) (fun _ _ _ h => h) (.inl ⟨by rfl, fun z hSz => by go_simp⟩) hHeld11 ?_
  simp only [Act.put, List.getElem_toArray, List.getElem_cons_succ, List.getElem_cons_zero, List.setIfInBounds_toArray, List.set_cons_zero, List.set_cons_succ]
  refine wpAnyH_done (by kernel_rfl) ?_ _
  clear hHeld11
  go_wp2_with fail
  go_ret
  exact ⟨rfl, hw11.out⟩

/-- CheckShapes, out of awake. -/
theorem shapes_law_ok {w : World} {t : St} {d : Sd} (h : StOk w t d) (hT : Tb w)
    (hA : ∀ z, Below w.heap.size w z → Calls Tryz.prog 10 #[] z fun e w' => e = .returned (.bool true) ∧ Below z.heap.size z w') :
    Calls Tryz.prog 3 #[d.val] w fun e w' => e = .returned (.bool true) ∧ Below w.heap.size w w' := by
  have s6 : ∀ z, Below w.heap.size w z → Calls Tryz.prog 6 #[.agg d.cells.toArray] z fun e w' => e = .returned (.int .i64 (t.steps 0)) ∧ Below z.heap.size z w' := fun z hz =>
    steps_walk (fun z' hz' hc => (walkN_ok t d (h.below hz) z' (z.heap.size + 1) 0 hz' (by omega) hc (by omega)).mono fun e w' ⟨h1, h2, h3⟩ => ⟨⟨_, h1⟩, h2, h3⟩)
  have s7 : ∀ z, Below w.heap.size w z → Calls Tryz.prog 7 #[.agg d.cells.toArray] z fun e w' => e = .returned (.int .i64 (t.steps 0)) ∧ Below z.heap.size z w' := fun z hz =>
    stepsQ_walk (t.steps_le 0 (by omega)) (fun z' hz' => countT_ok t d z' 0 ((h.below hz).below hz') (by omega))
  have s8 : ∀ z, Below w.heap.size w z → Calls Tryz.prog 8 #[.agg d.cells.toArray] z fun e w' => e = .returned (.int .i64 (t.dep 42)) ∧ Below z.heap.size z w' := fun z hz =>
    depth_walk (fun z' hz' => by
      have := depthT_ok t d z' 1 42 ((h.below hz).below hz') (by omega) (by omega) (by omega)
      rw [show ((1 : Nat) : Int) - 1 + (t.dep 42 : Int) = (t.dep 42 : Int) by omega] at this
      exact this)
  have s9 : ∀ z, Below w.heap.size w z → Calls Tryz.prog 9 #[.agg d.cells.toArray] z fun e w' => e = .returned (.int .i64 (t.dep 42)) ∧ Below z.heap.size z w' := fun z hz =>
    depthQ_walk (fun z' hz' => deepT_ok t d z' 42 ((h.below hz).below hz') (by omega) (by omega))
  exact shapes_walk
    (fun z hz => shape_walk (fun z' hz' => s6 z' (hz.trans (hz'.mono hz.size))) (fun z' hz' => s8 z' (hz.trans (hz'.mono hz.size))) (fun z' hz' => walkF_ok t d z' ((h.below hz).below hz') ((hT.below hz).below hz')))
    (fun z hz => shapeQ_walk (fun z' hz' => s7 z' (hz.trans (hz'.mono hz.size))) (fun z' hz' => s9 z' (hz.trans (hz'.mono hz.size))) (fun z' hz' => formedT_ok t d z' ((h.below hz).below hz')))
    s6 s7 s8 s9 hA
end Go.Proofs.YtgmbeedbeahblaaGreatDoor
