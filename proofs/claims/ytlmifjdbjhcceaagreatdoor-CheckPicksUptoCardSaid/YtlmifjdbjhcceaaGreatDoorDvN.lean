/-
  check.graft, check.Graft; the arguments opened.
-/
import Derived.Test.YtlmifjdbjhcceaaGreatDoorDvM
import Derived.Test.YtlmifjdbjhcceaaGreatDoorDvI
namespace Go.Proofs.YtlmifjdbjhcceaaGreatDoor
open Go Go.RowKit

set_option maxRecDepth 100000 in
set_option maxHeartbeats 4000000 in
theorem graft_walk {w : World} {d tt : Sd} (X0 : St) (ds : Nat → Sd) (gk : Nat → St) (pb po n c : Nat) (I : Int) (hn : d.kin ≤ 1048576) (hn0 : 0 < n) (_hnc : n ≤ c) (_hcm : c ≤ maxLen) (hnm : n ≤ 1099511627776) (hpb : pb < w.heap.size) (hpi : w.cell? ⟨pb, po, none⟩ = some (.int .i64 I)) (pq : Option Addr) (hpq : (if c = 1 then some (⟨pb, po, none⟩ : Addr) else some ⟨pb, po + 1, none⟩) = pq)
    (hF : ∀ z, Below w.heap.size w z → Calls Tryz.prog 54 #[.agg #[.int .i64 d.s.ru, .string d.s.nm, .string d.s.ot, .bool d.s.g, .slice d.aq d.an d.ac, .slice d.cq d.cn d.cc, .int .i64 d.s.kk, .int .i64 d.s.nn, .int .i64 d.s.pr, .int .i64 d.e.k, .int .i64 d.e.f, .bool d.e.neg, .slice d.e.aq d.e.an d.e.ac, .slice d.e.cq d.e.cn d.e.cc, .string d.e.m, .slice d.e.sq d.e.sn d.e.sc, .slice d.poq d.pon d.poc, .string d.s.en, .int .i64 d.s.ve, .slice d.arq d.arn d.arc, .slice d.kiq d.kin d.kic]] z fun e w' => ∃ D : Sd, e = .returned (.agg #[.int .i64 D.s.ru, .string D.s.nm, .string D.s.ot, .bool D.s.g, .slice D.aq D.an D.ac, .slice D.cq D.cn D.cc, .int .i64 D.s.kk, .int .i64 D.s.nn, .int .i64 D.s.pr, .int .i64 D.e.k, .int .i64 D.e.f, .bool D.e.neg, .slice D.e.aq D.e.an D.e.ac, .slice D.e.cq D.e.cn D.e.cc, .string D.e.m, .slice D.e.sq D.e.sn D.e.sc, .slice D.poq D.pon D.poc, .string D.s.en, .int .i64 D.s.ve, .slice D.arq D.arn D.arc, .slice none 0 0]) ∧ StA w' (Fresh z w') X0 D ∧ Below z.heap.size z w')
    (hk : d.kin = 0 ∨ ∃ b o, d.kiq = some ⟨b, o, none⟩ ∧ b < w.heap.size ∧ ∀ i, i < d.kin → w.rangeAt b (o + i * 21) (ds i).cells)
    (hK1 : ∀ i, i < d.kin → ¬ (i : Int) = I → ∀ z, Below w.heap.size w z → Calls Tryz.prog 35 #[.agg (ds i).cells.toArray] z fun e w' => ∃ d' : Sd, e = .returned (.agg #[.int .i64 d'.s.ru, .string d'.s.nm, .string d'.s.ot, .bool d'.s.g, .slice d'.aq d'.an d'.ac, .slice d'.cq d'.cn d'.cc, .int .i64 d'.s.kk, .int .i64 d'.s.nn, .int .i64 d'.s.pr, .int .i64 d'.e.k, .int .i64 d'.e.f, .bool d'.e.neg, .slice d'.e.aq d'.e.an d'.e.ac, .slice d'.e.cq d'.e.cn d'.e.cc, .string d'.e.m, .slice d'.e.sq d'.e.sn d'.e.sc, .slice d'.poq d'.pon d'.poc, .string d'.s.en, .int .i64 d'.s.ve, .slice d'.arq d'.arn d'.arc, .slice d'.kiq d'.kin d'.kic]) ∧ StA w' (Fresh z w') (gk i) d' ∧ Below z.heap.size z w')
    (hK2 : ∀ i, i < d.kin → (i : Int) = I → ∀ z, Below w.heap.size w z → Calls Tryz.prog 36 #[.agg (ds i).cells.toArray, .slice pq (n - 1) (c - 1), .agg #[.int .i64 tt.s.ru, .string tt.s.nm, .string tt.s.ot, .bool tt.s.g, .slice tt.aq tt.an tt.ac, .slice tt.cq tt.cn tt.cc, .int .i64 tt.s.kk, .int .i64 tt.s.nn, .int .i64 tt.s.pr, .int .i64 tt.e.k, .int .i64 tt.e.f, .bool tt.e.neg, .slice tt.e.aq tt.e.an tt.e.ac, .slice tt.e.cq tt.e.cn tt.e.cc, .string tt.e.m, .slice tt.e.sq tt.e.sn tt.e.sc, .slice tt.poq tt.pon tt.poc, .string tt.s.en, .int .i64 tt.s.ve, .slice tt.arq tt.arn tt.arc, .slice tt.kiq tt.kin tt.kic]] z fun e w' => ∃ d' : Sd, e = .returned (.agg #[.int .i64 d'.s.ru, .string d'.s.nm, .string d'.s.ot, .bool d'.s.g, .slice d'.aq d'.an d'.ac, .slice d'.cq d'.cn d'.cc, .int .i64 d'.s.kk, .int .i64 d'.s.nn, .int .i64 d'.s.pr, .int .i64 d'.e.k, .int .i64 d'.e.f, .bool d'.e.neg, .slice d'.e.aq d'.e.an d'.e.ac, .slice d'.e.cq d'.e.cn d'.e.cc, .string d'.e.m, .slice d'.e.sq d'.e.sn d'.e.sc, .slice d'.poq d'.pon d'.poc, .string d'.s.en, .int .i64 d'.s.ve, .slice d'.arq d'.arn d'.arc, .slice d'.kiq d'.kin d'.kic]) ∧ StA w' (Fresh z w') (gk i) d' ∧ Below z.heap.size z w') :
    Calls Tryz.prog 36 #[.agg #[.int .i64 d.s.ru, .string d.s.nm, .string d.s.ot, .bool d.s.g, .slice d.aq d.an d.ac, .slice d.cq d.cn d.cc, .int .i64 d.s.kk, .int .i64 d.s.nn, .int .i64 d.s.pr, .int .i64 d.e.k, .int .i64 d.e.f, .bool d.e.neg, .slice d.e.aq d.e.an d.e.ac, .slice d.e.cq d.e.cn d.e.cc, .string d.e.m, .slice d.e.sq d.e.sn d.e.sc, .slice d.poq d.pon d.poc, .string d.s.en, .int .i64 d.s.ve, .slice d.arq d.arn d.arc, .slice d.kiq d.kin d.kic], .slice (some ⟨pb, po, none⟩) n c, .agg #[.int .i64 tt.s.ru, .string tt.s.nm, .string tt.s.ot, .bool tt.s.g, .slice tt.aq tt.an tt.ac, .slice tt.cq tt.cn tt.cc, .int .i64 tt.s.kk, .int .i64 tt.s.nn, .int .i64 tt.s.pr, .int .i64 tt.e.k, .int .i64 tt.e.f, .bool tt.e.neg, .slice tt.e.aq tt.e.an tt.e.ac, .slice tt.e.cq tt.e.cn tt.e.cc, .string tt.e.m, .slice tt.e.sq tt.e.sn tt.e.sc, .slice tt.poq tt.pon tt.poc, .string tt.s.en, .int .i64 tt.s.ve, .slice tt.arq tt.arn tt.arc, .slice tt.kiq tt.kin tt.kic]] w fun e w' => ∃ (D : Sd) (q3 : Option Addr) (c3 : Nat), e = .returned (.agg #[.int .i64 D.s.ru, .string D.s.nm, .string D.s.ot, .bool D.s.g, .slice D.aq D.an D.ac, .slice D.cq D.cn D.cc, .int .i64 D.s.kk, .int .i64 D.s.nn, .int .i64 D.s.pr, .int .i64 D.e.k, .int .i64 D.e.f, .bool D.e.neg, .slice D.e.aq D.e.an D.e.ac, .slice D.e.cq D.e.cn D.e.cc, .string D.e.m, .slice D.e.sq D.e.sn D.e.sc, .slice D.poq D.pon D.poc, .string D.s.en, .int .i64 D.s.ve, .slice D.arq D.arn D.arc, .slice q3 d.kin c3]) ∧
      StA w' (Fresh w w') X0 D ∧ (d.kin = 0 ∨ ∃ b, q3 = some ⟨b, 0, none⟩ ∧ Fresh w w' b ∧ ∃ es : Nat → Sd, ∀ i, i < d.kin → w'.rangeAt b (0 + i * 21) (es i).cells ∧ StA w' (Fresh w w') (gk i) (es i)) ∧ Below w.heap.size w w' := by
  have hk' : Hid (d.kin = 0 ∨ ∃ b o, d.kiq = some ⟨b, o, none⟩ ∧ b < w.heap.size ∧ ∀ i, i < d.kin → w.rangeAt b (o + i * 21) (ds i).cells) := hk
  clear hk
  obtain ⟨dd, hu, hd⟩ := st_row
  have hHu : Hid (Tryz.prog.underlying 32 = some dd) := hu
  clear hu
  have hn0' : ¬ (n : Int) = 0 := by omega
  have hn1' : (0 : Int) < (n : Int) := by omega
  have hn2' : (1 : Int) ≤ (n : Int) := by omega
  have h3 : ∀ o o2 o3, Below w.heap.size w (((w.alloc o).alloc o2).alloc o3) := fun o o2 o3 => (below_two w o o2).alloc (by simp; omega) o3
  go_enter Tryz.func36, Tryz.ntmps36
  go_wp2_with (first
    | (with_reducible refine wpList_load_mid (op := ⟨some 15, _, _, _, _, _⟩) ?_ 32 (.tmp 3) ?_ w.heap.size 0 ?_ [.int .i64 d.s.ru, .string d.s.nm, .string d.s.ot, .bool d.s.g, .slice d.aq d.an d.ac, .slice d.cq d.cn d.cc, .int .i64 d.s.kk, .int .i64 d.s.nn, .int .i64 d.s.pr, .int .i64 d.e.k, .int .i64 d.e.f, .bool d.e.neg, .slice d.e.aq d.e.an d.e.ac, .slice d.e.cq d.e.cn d.e.cc, .string d.e.m, .slice d.e.sq d.e.sn d.e.sc, .slice d.poq d.pon d.poc, .string d.s.en, .int .i64 d.s.ve, .slice d.arq d.arn d.arc, .slice d.kiq d.kin d.kic] dd (World.rangeAt_alloc (World.rangeAt_alloc (range_new w _ 32) _) _) hHu.out hd ?_ ?_
       rotate_left 1
       · with_reducible rfl
       · rfl
       · exact st_size
       rotate_left 1
       · rfl)
    | (go_at_call 54; with_reducible refine (hF _ ?_).mono ?_; exact h3 _ _ _; rintro e w2 ⟨D, rfl, hA, hb2⟩
       have hs2 := hb2.size
       have hs2' : w.heap.size + 3 ≤ w2.heap.size := by simpa using hs2
       have k20 : ∀ ob, (w2.alloc ob).cell? ⟨w.heap.size, 20, none⟩ = some (.slice d.kiq d.kin d.kic) := fun ob => by
         have hbx : w2.heap[w.heap.size]? = some (.cells #[.int .i64 d.s.ru, .string d.s.nm, .string d.s.ot, .bool d.s.g, .slice d.aq d.an d.ac, .slice d.cq d.cn d.cc, .int .i64 d.s.kk, .int .i64 d.s.nn, .int .i64 d.s.pr, .int .i64 d.e.k, .int .i64 d.e.f, .bool d.e.neg, .slice d.e.aq d.e.an d.e.ac, .slice d.e.cq d.e.cn d.e.cc, .string d.e.m, .slice d.e.sq d.e.sn d.e.sc, .slice d.poq d.pon d.poc, .string d.s.en, .int .i64 d.s.ve, .slice d.arq d.arn d.arc, .slice d.kiq d.kin d.kic] 32 (0, 0)) := by
           rw [hb2.block _ (by show w.heap.size < (((w.heap.push _).push _).push _).size; simp only [Array.size_push]; omega), Below.heap_alloc _ _ _ (by show w.heap.size < ((w.heap.push _).push _).size; simp only [Array.size_push]; omega), Below.heap_alloc _ _ _ (by show w.heap.size < (w.heap.push _).size; simp only [Array.size_push]; omega)]
           exact heap_alloc_last w _
         rw [World.cell?_alloc_lt _ _ _ (by show w.heap.size < _; omega), cell_of_row _ _ _ _ _ _ hbx]
         rfl
       have hres2 : w2.heap[w.heap.size + 2]? = some (.cells #[.int .i64 0, .string ⟨#[]⟩, .string ⟨#[]⟩, .bool false, .slice none 0 0, .slice none 0 0, .int .i64 0, .int .i64 0, .int .i64 0, .int .i64 0, .int .i64 0, .bool false, .slice none 0 0, .slice none 0 0, .string ⟨#[]⟩, .slice none 0 0, .slice none 0 0, .string ⟨#[]⟩, .int .i64 0, .slice none 0 0, .slice none 0 0] 32 (0, 0)) := by
         rw [hb2.block _ (by show w.heap.size + 2 < (((w.heap.push _).push _).push _).size; simp only [Array.size_push]; omega)]
         have h := heap_alloc_last ((w.alloc (.cells #[.int .i64 d.s.ru, .string d.s.nm, .string d.s.ot, .bool d.s.g, .slice d.aq d.an d.ac, .slice d.cq d.cn d.cc, .int .i64 d.s.kk, .int .i64 d.s.nn, .int .i64 d.s.pr, .int .i64 d.e.k, .int .i64 d.e.f, .bool d.e.neg, .slice d.e.aq d.e.an d.e.ac, .slice d.e.cq d.e.cn d.e.cc, .string d.e.m, .slice d.e.sq d.e.sn d.e.sc, .slice d.poq d.pon d.poc, .string d.s.en, .int .i64 d.s.ve, .slice d.arq d.arn d.arc, .slice d.kiq d.kin d.kic] 32)).alloc (.cells #[.int .i64 tt.s.ru, .string tt.s.nm, .string tt.s.ot, .bool tt.s.g, .slice tt.aq tt.an tt.ac, .slice tt.cq tt.cn tt.cc, .int .i64 tt.s.kk, .int .i64 tt.s.nn, .int .i64 tt.s.pr, .int .i64 tt.e.k, .int .i64 tt.e.f, .bool tt.e.neg, .slice tt.e.aq tt.e.an tt.e.ac, .slice tt.e.cq tt.e.cn tt.e.cc, .string tt.e.m, .slice tt.e.sq tt.e.sn tt.e.sc, .slice tt.poq tt.pon tt.poc, .string tt.s.en, .int .i64 tt.s.ve, .slice tt.arq tt.arn tt.arc, .slice tt.kiq tt.kin tt.kic] 32)) (.cells #[.int .i64 0, .string ⟨#[]⟩, .string ⟨#[]⟩, .bool false, .slice none 0 0, .slice none 0 0, .int .i64 0, .int .i64 0, .int .i64 0, .int .i64 0, .int .i64 0, .bool false, .slice none 0 0, .slice none 0 0, .string ⟨#[]⟩, .slice none 0 0, .slice none 0 0, .string ⟨#[]⟩, .int .i64 0, .slice none 0 0, .slice none 0 0] 32 (0, 0))
         rw [show ((w.alloc (.cells #[.int .i64 d.s.ru, .string d.s.nm, .string d.s.ot, .bool d.s.g, .slice d.aq d.an d.ac, .slice d.cq d.cn d.cc, .int .i64 d.s.kk, .int .i64 d.s.nn, .int .i64 d.s.pr, .int .i64 d.e.k, .int .i64 d.e.f, .bool d.e.neg, .slice d.e.aq d.e.an d.e.ac, .slice d.e.cq d.e.cn d.e.cc, .string d.e.m, .slice d.e.sq d.e.sn d.e.sc, .slice d.poq d.pon d.poc, .string d.s.en, .int .i64 d.s.ve, .slice d.arq d.arn d.arc, .slice d.kiq d.kin d.kic] 32)).alloc (.cells #[.int .i64 tt.s.ru, .string tt.s.nm, .string tt.s.ot, .bool tt.s.g, .slice tt.aq tt.an tt.ac, .slice tt.cq tt.cn tt.cc, .int .i64 tt.s.kk, .int .i64 tt.s.nn, .int .i64 tt.s.pr, .int .i64 tt.e.k, .int .i64 tt.e.f, .bool tt.e.neg, .slice tt.e.aq tt.e.an tt.e.ac, .slice tt.e.cq tt.e.cn tt.e.cc, .string tt.e.m, .slice tt.e.sq tt.e.sn tt.e.sc, .slice tt.poq tt.pon tt.poc, .string tt.s.en, .int .i64 tt.s.ve, .slice tt.arq tt.arn tt.arc, .slice tt.kiq tt.kin tt.kic] 32)).heap.size = w.heap.size + 2 by simp] at h
         exact h
       have hbt2 : w2.heap[w.heap.size + 1]? = some (.cells #[.int .i64 tt.s.ru, .string tt.s.nm, .string tt.s.ot, .bool tt.s.g, .slice tt.aq tt.an tt.ac, .slice tt.cq tt.cn tt.cc, .int .i64 tt.s.kk, .int .i64 tt.s.nn, .int .i64 tt.s.pr, .int .i64 tt.e.k, .int .i64 tt.e.f, .bool tt.e.neg, .slice tt.e.aq tt.e.an tt.e.ac, .slice tt.e.cq tt.e.cn tt.e.cc, .string tt.e.m, .slice tt.e.sq tt.e.sn tt.e.sc, .slice tt.poq tt.pon tt.poc, .string tt.s.en, .int .i64 tt.s.ve, .slice tt.arq tt.arn tt.arc, .slice tt.kiq tt.kin tt.kic] 32 (0, 0)) := by
         rw [hb2.block _ (by show w.heap.size + 1 < (((w.heap.push _).push _).push _).size; simp only [Array.size_push]; omega), Below.heap_alloc _ _ _ (by show w.heap.size + 1 < ((w.heap.push _).push _).size; simp only [Array.size_push]; omega)]
         have h := heap_alloc_last (w.alloc (.cells #[.int .i64 d.s.ru, .string d.s.nm, .string d.s.ot, .bool d.s.g, .slice d.aq d.an d.ac, .slice d.cq d.cn d.cc, .int .i64 d.s.kk, .int .i64 d.s.nn, .int .i64 d.s.pr, .int .i64 d.e.k, .int .i64 d.e.f, .bool d.e.neg, .slice d.e.aq d.e.an d.e.ac, .slice d.e.cq d.e.cn d.e.cc, .string d.e.m, .slice d.e.sq d.e.sn d.e.sc, .slice d.poq d.pon d.poc, .string d.s.en, .int .i64 d.s.ve, .slice d.arq d.arn d.arc, .slice d.kiq d.kin d.kic] 32)) (.cells #[.int .i64 tt.s.ru, .string tt.s.nm, .string tt.s.ot, .bool tt.s.g, .slice tt.aq tt.an tt.ac, .slice tt.cq tt.cn tt.cc, .int .i64 tt.s.kk, .int .i64 tt.s.nn, .int .i64 tt.s.pr, .int .i64 tt.e.k, .int .i64 tt.e.f, .bool tt.e.neg, .slice tt.e.aq tt.e.an tt.e.ac, .slice tt.e.cq tt.e.cn tt.e.cc, .string tt.e.m, .slice tt.e.sq tt.e.sn tt.e.sc, .slice tt.poq tt.pon tt.poc, .string tt.s.en, .int .i64 tt.s.ve, .slice tt.arq tt.arn tt.arc, .slice tt.kiq tt.kin tt.kic] 32 (0, 0))
         rw [show (w.alloc (.cells #[.int .i64 d.s.ru, .string d.s.nm, .string d.s.ot, .bool d.s.g, .slice d.aq d.an d.ac, .slice d.cq d.cn d.cc, .int .i64 d.s.kk, .int .i64 d.s.nn, .int .i64 d.s.pr, .int .i64 d.e.k, .int .i64 d.e.f, .bool d.e.neg, .slice d.e.aq d.e.an d.e.ac, .slice d.e.cq d.e.cn d.e.cc, .string d.e.m, .slice d.e.sq d.e.sn d.e.sc, .slice d.poq d.pon d.poc, .string d.s.en, .int .i64 d.s.ve, .slice d.arq d.arn d.arc, .slice d.kiq d.kin d.kic] 32)).heap.size = w.heap.size + 1 by simp] at h
         exact h
       have hW2 := (h3 _ _ _).trans (hb2.mono (h3 _ _ _).size))
    | (with_reducible refine wpList_store_new ?_ 32 (.tmp 7) (.tmp 16) ?_ #[.int .i64 D.s.ru, .string D.s.nm, .string D.s.ot, .bool D.s.g, .slice D.aq D.an D.ac, .slice D.cq D.cn D.cc, .int .i64 D.s.kk, .int .i64 D.s.nn, .int .i64 D.s.pr, .int .i64 D.e.k, .int .i64 D.e.f, .bool D.e.neg, .slice D.e.aq D.e.an D.e.ac, .slice D.e.cq D.e.cn D.e.cc, .string D.e.m, .slice D.e.sq D.e.sn D.e.sc, .slice D.poq D.pon D.poc, .string D.s.en, .int .i64 D.s.ve, .slice D.arq D.arn D.arc, .slice none 0 0] w2.heap.size rfl ?_ ?_ ?_ ?_ ?_ ?_
       rotate_left 1
       · with_reducible rfl
       · rfl
       · rfl
       · rfl
       · exact st_size
       · exact all_oneCell_toArray (one_sd ⟨D.s, D.aq, D.an, D.ac, D.cq, D.cn, D.cc, D.e, D.poq, D.pon, D.poc, D.arq, D.arn, D.arc, none, 0, 0⟩)
       rotate_left 1
       · rfl))
  obtain ⟨i0, hi, hz0, hz1, hz2⟩ := info_parts (show (Tryz.prog.info? 32).map (fun i => (i.zero, i.size, i.bytes)) = some (some (.agg #[.int .i64 0, .string ⟨#[]⟩, .string ⟨#[]⟩, .bool false, .slice none 0 0, .slice none 0 0, .int .i64 0, .int .i64 0, .int .i64 0, .int .i64 0, .int .i64 0, .bool false, .slice none 0 0, .slice none 0 0, .string ⟨#[]⟩, .slice none 0 0, .slice none 0 0, .string ⟨#[]⟩, .int .i64 0, .slice none 0 0, .slice none 0 0]), 21, 328) by kernel_rfl)
  generalize hwc : w2.alloc _ = wc
  have hG2 : w2.heap.size < wc.heap.size := by rw [← hwc]; simp
  have hG3 : wc.heap[w2.heap.size]? = some (.cells #[.int .i64 D.s.ru, .string D.s.nm, .string D.s.ot, .bool D.s.g, .slice D.aq D.an D.ac, .slice D.cq D.cn D.cc, .int .i64 D.s.kk, .int .i64 D.s.nn, .int .i64 D.s.pr, .int .i64 D.e.k, .int .i64 D.e.f, .bool D.e.neg, .slice D.e.aq D.e.an D.e.ac, .slice D.e.cq D.e.cn D.e.cc, .string D.e.m, .slice D.e.sq D.e.sn D.e.sc, .slice D.poq D.pon D.poc, .string D.s.en, .int .i64 D.s.ve, .slice D.arq D.arn D.arc, .slice none 0 0] 32 (0, 0)) := by rw [← hwc]; exact heap_alloc_last _ _
  have hA0 : StA wc (fun b => (w.heap.size + 3) ≤ b ∧ b < wc.heap.size ∧ b ≠ w2.heap.size) X0 D := by
    rw [← hwc]
    refine hA.keep ((keeps_below (below_one w2 _)).mono fun b hb => hb.2) (fun b hb => ?_)
    have e1 := hb.1
    have e2 := hb.2
    simp at e1
    exact ⟨by omega, by show _ < (w2.heap.push _).size; simp; omega, by omega⟩
  have hWc : Below w.heap.size w wc := by rw [← hwc]; exact hW2.alloc (by omega) _
  have hresc : wc.heap[w.heap.size + 2]? = some (.cells #[.int .i64 0, .string ⟨#[]⟩, .string ⟨#[]⟩, .bool false, .slice none 0 0, .slice none 0 0, .int .i64 0, .int .i64 0, .int .i64 0, .int .i64 0, .int .i64 0, .bool false, .slice none 0 0, .slice none 0 0, .string ⟨#[]⟩, .slice none 0 0, .slice none 0 0, .string ⟨#[]⟩, .int .i64 0, .slice none 0 0, .slice none 0 0] 32 (0, 0)) := by rw [← hwc, Below.heap_alloc _ _ _ (by omega)]; exact hres2
  have hbtc : wc.heap[w.heap.size + 1]? = some (.cells #[.int .i64 tt.s.ru, .string tt.s.nm, .string tt.s.ot, .bool tt.s.g, .slice tt.aq tt.an tt.ac, .slice tt.cq tt.cn tt.cc, .int .i64 tt.s.kk, .int .i64 tt.s.nn, .int .i64 tt.s.pr, .int .i64 tt.e.k, .int .i64 tt.e.f, .bool tt.e.neg, .slice tt.e.aq tt.e.an tt.e.ac, .slice tt.e.cq tt.e.cn tt.e.cc, .string tt.e.m, .slice tt.e.sq tt.e.sn tt.e.sc, .slice tt.poq tt.pon tt.poc, .string tt.s.en, .int .i64 tt.s.ve, .slice tt.arq tt.arn tt.arc, .slice tt.kiq tt.kin tt.kic] 32 (0, 0)) := by rw [← hwc, Below.heap_alloc _ _ _ (by omega)]; exact hbt2
  clear hF hb2 hs2 k20 hres2 hbt2 hW2 hwc hA
  generalize w2.heap.size = G at *
  go_loopw [20] (fun i wr => ∃ k : Nat, k ≤ d.kin ∧ i = .int .i64 k ∧ ∃ (v : Value) (L : List Sd), L.length = k ∧ wr.heap[G]? = some (.cells #[.int .i64 D.s.ru, .string D.s.nm, .string D.s.ot, .bool D.s.g, .slice D.aq D.an D.ac, .slice D.cq D.cn D.cc, .int .i64 D.s.kk, .int .i64 D.s.nn, .int .i64 D.s.pr, .int .i64 D.e.k, .int .i64 D.e.f, .bool D.e.neg, .slice D.e.aq D.e.an D.e.ac, .slice D.e.cq D.e.cn D.e.cc, .string D.e.m, .slice D.e.sq D.e.sn D.e.sc, .slice D.poq D.pon D.poc, .string D.s.en, .int .i64 D.s.ve, .slice D.arq D.arn D.arc, v] 32 (0, 0)) ∧
      wr.ownsRow (w.heap.size + 3) 32 21 v k (L.flatMap Sd.cells) ∧ v.ownBlock ≠ some G ∧ (∀ i x, L[i]? = some x → StA wr (Free (w.heap.size + 3) wr G v) (gk i) x) ∧ StA wr (Free (w.heap.size + 3) wr G v) X0 D ∧
      Below w.heap.size w wr ∧ G < wr.heap.size ∧ wr.heap[w.heap.size + 2]? = some (.cells #[.int .i64 0, .string ⟨#[]⟩, .string ⟨#[]⟩, .bool false, .slice none 0 0, .slice none 0 0, .int .i64 0, .int .i64 0, .int .i64 0, .int .i64 0, .int .i64 0, .bool false, .slice none 0 0, .slice none 0 0, .string ⟨#[]⟩, .slice none 0 0, .slice none 0 0, .string ⟨#[]⟩, .int .i64 0, .slice none 0 0, .slice none 0 0] 32 (0, 0)) ∧ wr.heap[w.heap.size + 1]? = some (.cells #[.int .i64 tt.s.ru, .string tt.s.nm, .string tt.s.ot, .bool tt.s.g, .slice tt.aq tt.an tt.ac, .slice tt.cq tt.cn tt.cc, .int .i64 tt.s.kk, .int .i64 tt.s.nn, .int .i64 tt.s.pr, .int .i64 tt.e.k, .int .i64 tt.e.f, .bool tt.e.neg, .slice tt.e.aq tt.e.an tt.e.ac, .slice tt.e.cq tt.e.cn tt.e.cc, .string tt.e.m, .slice tt.e.sq tt.e.sn tt.e.sc, .slice tt.poq tt.pon tt.poc, .string tt.s.en, .int .i64 tt.s.ve, .slice tt.arq tt.arn tt.arc, .slice tt.kiq tt.kin tt.kic] 32 (0, 0))) (fun i _ => d.kin - (intOf i).toNat)
  case atStart =>
    exact ⟨0, Nat.zero_le _, rfl, .slice none 0 0, [], rfl, hG3, World.ownsRow_nil _ _ _ _, by simp [Value.ownBlock], fun i x h => by simp at h, hA0.keep (Keeps.refl _ _) (fun b hb => ⟨hb.1, hb.2.1, hb.2.2, by simp [Value.ownBlock]⟩), hWc, hG2, hresc, hbtc⟩
  case round =>
    clear hA0 hG3 hWc hG2 hresc hbtc
    obtain ⟨k, hk, rfl, v, L, hLk, hblk, hown, hne, hLx, hA0, hbw, hGr, hres, hboxt⟩ := hrel
    by_cases hlt : k < d.kin
    · have hlt' : (k : Int) < (d.kin : Int) := by omega
      have hK1k := hK1 k hlt
      have hK2k := hK2 k hlt
      rcases hk'.out with h0 | ⟨b, o, hq, hbb, hcx⟩
      · omega
      have hx := rangeAt_below (hcx k hlt) hbw hbb
      have lx : (ds k).cells.length = 21 := rfl
      have ox' : Hid ((ds k).cells.toArray.all (·.oneCell') = true) := (ds k).one
      clear hcx
      generalize (ds k).cells = cx at *
      rw [hq]
      have hws := hbw.size
      have cpi : ∀ ob, (wr.alloc ob).cell? ⟨pb, po, none⟩ = some (.int .i64 I) := fun ob => (World.cell?_alloc_lt _ _ _ (by show pb < _; omega)).trans ((hbw.cell (by exact hpb)).trans hpi)
      have hT : (fun z => z.rangeAt wr.heap.size 0 cx ∧ z.rangeAt (w.heap.size + 1) 0 [.int .i64 tt.s.ru, .string tt.s.nm, .string tt.s.ot, .bool tt.s.g, .slice tt.aq tt.an tt.ac, .slice tt.cq tt.cn tt.cc, .int .i64 tt.s.kk, .int .i64 tt.s.nn, .int .i64 tt.s.pr, .int .i64 tt.e.k, .int .i64 tt.e.f, .bool tt.e.neg, .slice tt.e.aq tt.e.an tt.e.ac, .slice tt.e.cq tt.e.cn tt.e.cc, .string tt.e.m, .slice tt.e.sq tt.e.sn tt.e.sc, .slice tt.poq tt.pon tt.poc, .string tt.s.en, .int .i64 tt.s.ve, .slice tt.arq tt.arn tt.arc, .slice tt.kiq tt.kin tt.kic]) (wr.alloc (.cells cx.toArray 32)) := ⟨range_new _ _ _, World.rangeAt_alloc (by have h := World.rangeAt_of_block hboxt 0 21; simpa using h) _⟩
      have hTh : Hid ((fun z => z.rangeAt wr.heap.size 0 cx ∧ z.rangeAt (w.heap.size + 1) 0 [.int .i64 tt.s.ru, .string tt.s.nm, .string tt.s.ot, .bool tt.s.g, .slice tt.aq tt.an tt.ac, .slice tt.cq tt.cn tt.cc, .int .i64 tt.s.kk, .int .i64 tt.s.nn, .int .i64 tt.s.pr, .int .i64 tt.e.k, .int .i64 tt.e.f, .bool tt.e.neg, .slice tt.e.aq tt.e.an tt.e.ac, .slice tt.e.cq tt.e.cn tt.e.cc, .string tt.e.m, .slice tt.e.sq tt.e.sn tt.e.sc, .slice tt.poq tt.pon tt.poc, .string tt.s.en, .int .i64 tt.s.ve, .slice tt.arq tt.arn tt.arc, .slice tt.kiq tt.kin tt.kic]) (wr.alloc (.cells cx.toArray 32))) := hT
      clear hT
      by_cases hki : (k : Int) = I
      · subst hki
        have hK2' := hK2k rfl
        go_wp2_with (first
          | (with_reducible refine wpList_load_mid ?_ 32 (.tmp 23) ?_ b (o + k * 21) ?_ cx dd hx hHu.out hd ?_ ?_
             rotate_left 1
             · with_reducible rfl
             · rfl
             · (rw [lx]; exact st_size)
             rotate_left 1
             · rfl)
          | (with_reducible refine wpList_store_new ?_ 32 (.tmp 9) (.tmp 24) ?_ cx.toArray wr.heap.size rfl ?_ ?_ ?_ ?_ ox'.out ?_
             rotate_left 1
             · with_reducible rfl
             · rfl
             · rfl
             · simp [lx]
             · (simp only [List.size_toArray, lx]; exact st_size)
             rotate_left 1
             · rfl))
        try simp only [Act.put]
        have hT := hTh.out
        have hz : Below wr.heap.size wr (wr.alloc (.cells cx.toArray 32)).drew := (below_one _ _).drew
        have hzs : (wr.alloc (.cells cx.toArray 32)).drew.heap.size = wr.heap.size + 1 := by show (wr.heap.push _).size = _; simp
        have hbz : Below w.heap.size w (wr.alloc (.cells cx.toArray 32)).drew := hbw.trans (hz.mono hbw.size)
        have c6 : (wr.alloc (.cells cx.toArray 32)).cell? ⟨G, 20, none⟩ = some v := by rw [World.cell?_alloc_lt _ _ _ (by exact hGr), cell_of_row _ _ _ _ _ _ hblk]; rfl
        have hrl := hown.lt
        refine wp_region_held_drew (S := fun z => z.rangeAt wr.heap.size 0 cx ∧ z.rangeAt (w.heap.size + 1) 0 [.int .i64 tt.s.ru, .string tt.s.nm, .string tt.s.ot, .bool tt.s.g, .slice tt.aq tt.an tt.ac, .slice tt.cq tt.cn tt.cc, .int .i64 tt.s.kk, .int .i64 tt.s.nn, .int .i64 tt.s.pr, .int .i64 tt.e.k, .int .i64 tt.e.f, .bool tt.e.neg, .slice tt.e.aq tt.e.an tt.e.ac, .slice tt.e.cq tt.e.cn tt.e.cc, .string tt.e.m, .slice tt.e.sq tt.e.sn tt.e.sc, .slice tt.poq tt.pon tt.poc, .string tt.s.en, .int .i64 tt.s.ve, .slice tt.arq tt.arn tt.arc, .slice tt.kiq tt.kin tt.kic]) (by kernel_rfl) (by exact hT) (fun hHeld => ?_)
        refine wpAnyH_take (i := 0) (oi := ?op0x1) (v := .pointer (some ⟨G, 20, none⟩)) ?ta0x1 ?tb0x1 ?tc0x1 ?td0x1 ?tq0x1 ?ty0x1 hHeld ?_
        case ta0x1 => rfl
        case tb0x1 => kernel_rfl
        case tc0x1 => kernel_rfl
        case td0x1 => kernel_rfl
        case tq0x1 => exact fun _ _ _ h => h
        case ty0x1 => exact Or.inl ⟨by rfl, by intro z hSz; go_simp⟩
        simp only [Act.put, List.setIfInBounds_toArray]
        refine wpAnyH_take (i := 2) (oi := ?op2x2) (v := .agg cx.toArray) ?ta2x2 ?tb2x2 ?tc2x2 ?td2x2 ?tq2x2 ?ty2x2 hHeld ?_
        case ta2x2 => rfl
        case tb2x2 => kernel_rfl
        case tc2x2 => kernel_rfl
        case td2x2 => kernel_rfl
        case tq2x2 => exact fun _ _ _ h => h
        case ty2x2 =>
          refine yieldsIf_load_mid ?tw2x2 32 (.tmp 9) ?to2x2 (wr.heap.size) 0 ?tx2x2 cx dd (fun z hz => hz.1) hHu.out hd (by rw [lx]; exact st_size)
          case tw2x2 => kernel_rfl
          case to2x2 => rfl
          case tx2x2 => kernel_rfl
        simp only [Act.put]
        refine wpAnyH_take (i := 3) (oi := ?op3x3) (v := .slice (some ⟨pb, po, none⟩) n c) ?ta3x3 ?tb3x3 ?tc3x3 ?td3x3 ?tq3x3 ?ty3x3 hHeld ?_
        case ta3x3 => rfl
        case tb3x3 => kernel_rfl
        case tc3x3 => kernel_rfl
        case td3x3 => kernel_rfl
        case tq3x3 => exact fun _ _ _ h => h
        case ty3x3 => exact Or.inl ⟨by rfl, by intro z hSz; go_simp⟩
        simp only [Act.put]
        refine wpAnyH_take (i := 4) (oi := ?op4x4) (v := .slice pq (n - 1) (c - 1)) ?ta4x4 ?tb4x4 ?tc4x4 ?td4x4 ?tq4x4 ?ty4x4 hHeld ?_
        case ta4x4 => rfl
        case tb4x4 => kernel_rfl
        case tc4x4 => kernel_rfl
        case td4x4 => kernel_rfl
        case tq4x4 => exact fun _ _ _ h => h
        case ty4x4 => exact Or.inl ⟨by rfl, by intro z hSz; go_simp⟩
        simp only [Act.put]
        refine wpAnyH_take (i := 5) (oi := ?op5x5) (v := .agg #[.int .i64 tt.s.ru, .string tt.s.nm, .string tt.s.ot, .bool tt.s.g, .slice tt.aq tt.an tt.ac, .slice tt.cq tt.cn tt.cc, .int .i64 tt.s.kk, .int .i64 tt.s.nn, .int .i64 tt.s.pr, .int .i64 tt.e.k, .int .i64 tt.e.f, .bool tt.e.neg, .slice tt.e.aq tt.e.an tt.e.ac, .slice tt.e.cq tt.e.cn tt.e.cc, .string tt.e.m, .slice tt.e.sq tt.e.sn tt.e.sc, .slice tt.poq tt.pon tt.poc, .string tt.s.en, .int .i64 tt.s.ve, .slice tt.arq tt.arn tt.arc, .slice tt.kiq tt.kin tt.kic]) ?ta5x5 ?tb5x5 ?tc5x5 ?td5x5 ?tq5x5 ?ty5x5 hHeld ?_
        case ta5x5 => rfl
        case tb5x5 => kernel_rfl
        case tc5x5 => kernel_rfl
        case td5x5 => kernel_rfl
        case tq5x5 => exact fun _ _ _ h => h
        case ty5x5 =>
          refine yieldsIf_load_mid ?tw5x5 32 (.tmp 5) ?to5x5 (w.heap.size + 1) 0 ?tx5x5 [.int .i64 tt.s.ru, .string tt.s.nm, .string tt.s.ot, .bool tt.s.g, .slice tt.aq tt.an tt.ac, .slice tt.cq tt.cn tt.cc, .int .i64 tt.s.kk, .int .i64 tt.s.nn, .int .i64 tt.s.pr, .int .i64 tt.e.k, .int .i64 tt.e.f, .bool tt.e.neg, .slice tt.e.aq tt.e.an tt.e.ac, .slice tt.e.cq tt.e.cn tt.e.cc, .string tt.e.m, .slice tt.e.sq tt.e.sn tt.e.sc, .slice tt.poq tt.pon tt.poc, .string tt.s.en, .int .i64 tt.s.ve, .slice tt.arq tt.arn tt.arc, .slice tt.kiq tt.kin tt.kic] dd (fun z hz => hz.2) hHu.out hd (st_size)
          case tw5x5 => kernel_rfl
          case to5x5 => rfl
          case tx5x5 => kernel_rfl
        simp only [Act.put]
        refine wpAnyH_ready (rs := [1, 6]) (by kernel_rfl) (by simp) ?_
        refine AllReadyH.cons rfl (fun K hKK => ?_) (AllReadyH.cons rfl (fun K hKK => ?_) AllReadyH.nil)
        · go_simp
          refine hKK.out _ _ hHeld (fun _ => ?_)
          clear hKK K
          refine wpAnyH_ready (rs := [6]) (by kernel_rfl) (by simp) ?_
          refine AllReadyH.cons rfl (fun K hKK => ?_) AllReadyH.nil
          go_simp
          refine (hK2' _ hbz).mono ?_
          rintro e w5 ⟨d', rfl, hA5, hb5⟩
          have hs5 := hb5.size
          have hT5 : (fun z => z.rangeAt wr.heap.size 0 cx ∧ z.rangeAt (w.heap.size + 1) 0 [.int .i64 tt.s.ru, .string tt.s.nm, .string tt.s.ot, .bool tt.s.g, .slice tt.aq tt.an tt.ac, .slice tt.cq tt.cn tt.cc, .int .i64 tt.s.kk, .int .i64 tt.s.nn, .int .i64 tt.s.pr, .int .i64 tt.e.k, .int .i64 tt.e.f, .bool tt.e.neg, .slice tt.e.aq tt.e.an tt.e.ac, .slice tt.e.cq tt.e.cn tt.e.cc, .string tt.e.m, .slice tt.e.sq tt.e.sn tt.e.sc, .slice tt.poq tt.pon tt.poc, .string tt.s.en, .int .i64 tt.s.ve, .slice tt.arq tt.arn tt.arc, .slice tt.kiq tt.kin tt.kic]) w5 := ⟨rangeAt_below (w := (wr.alloc (.cells cx.toArray 32)).drew) hT.1 hb5 (by omega), rangeAt_below (w := (wr.alloc (.cells cx.toArray 32)).drew) hT.2 hb5 (by omega)⟩
          have c65 : w5.cell? ⟨G, 20, none⟩ = some v := (hb5.cell (by show G < _; omega)).trans c6
          have hown5 : w5.ownsRow (w.heap.size + 3) 32 21 v k (L.flatMap Sd.cells) := ((hown.alloc _).drew).kept (row := none) ⟨hb5.os, hb5.tape, hb5.output, hb5.size, fun b hb _ => hb5.block b hb⟩ (by cases hv : v.ownBlock with | none => exact .inl rfl | some _ => exact .inr (by simp))
          refine hKK.out _ _ hT5 (fun _ => ?_)
          clear hKK K
          refine wpAnyH_ready (rs := [7]) (by kernel_rfl) (by simp) ?_
          refine AllReadyH.cons rfl (fun K hKK => ?_) AllReadyH.nil
          go_simp
          have hT6 : (fun z => z.rangeAt wr.heap.size 0 cx ∧ z.rangeAt (w.heap.size + 1) 0 [.int .i64 tt.s.ru, .string tt.s.nm, .string tt.s.ot, .bool tt.s.g, .slice tt.aq tt.an tt.ac, .slice tt.cq tt.cn tt.cc, .int .i64 tt.s.kk, .int .i64 tt.s.nn, .int .i64 tt.s.pr, .int .i64 tt.e.k, .int .i64 tt.e.f, .bool tt.e.neg, .slice tt.e.aq tt.e.an tt.e.ac, .slice tt.e.cq tt.e.cn tt.e.cc, .string tt.e.m, .slice tt.e.sq tt.e.sn tt.e.sc, .slice tt.poq tt.pon tt.poc, .string tt.s.en, .int .i64 tt.s.ve, .slice tt.arq tt.arn tt.arc, .slice tt.kiq tt.kin tt.kic]) (w5.alloc (.cells d'.cells.toArray 32)) := ⟨World.rangeAt_alloc hT5.1 _, World.rangeAt_alloc hT5.2 _⟩
          have c66 : (w5.alloc (.cells d'.cells.toArray 32)).cell? ⟨G, 20, none⟩ = some v := by rw [World.cell?_alloc_lt _ _ _ (by show G < _; omega)]; exact c65
          have c66w : (w5.alloc (.cells #[.int .i64 d'.s.ru, .string d'.s.nm, .string d'.s.ot, .bool d'.s.g, .slice d'.aq d'.an d'.ac, .slice d'.cq d'.cn d'.cc, .int .i64 d'.s.kk, .int .i64 d'.s.nn, .int .i64 d'.s.pr, .int .i64 d'.e.k, .int .i64 d'.e.f, .bool d'.e.neg, .slice d'.e.aq d'.e.an d'.e.ac, .slice d'.e.cq d'.e.cn d'.e.cc, .string d'.e.m, .slice d'.e.sq d'.e.sn d'.e.sc, .slice d'.poq d'.pon d'.poc, .string d'.s.en, .int .i64 d'.s.ve, .slice d'.arq d'.arn d'.arc, .slice d'.kiq d'.kin d'.kic] 32)).cell? ⟨G, 20, none⟩ = some v := c66
          refine hKK.out _ _ hT6 (fun _ => ?_)
          clear hKK K
          refine wpAnyH_ready (rs := [8]) (by kernel_rfl) (by simp) ?_
          refine AllReadyH.cons rfl (fun K hKK => ?_) AllReadyH.nil
          refine step_append_lies _ rfl _ _ 30 rfl (w.heap.size + 3) 32 i0 (.agg #[.int .i64 0, .string ⟨#[]⟩, .string ⟨#[]⟩, .bool false, .slice none 0 0, .slice none 0 0, .int .i64 0, .int .i64 0, .int .i64 0, .int .i64 0, .int .i64 0, .bool false, .slice none 0 0, .slice none 0 0, .string ⟨#[]⟩, .slice none 0 0, .slice none 0 0, .string ⟨#[]⟩, .int .i64 0, .slice none 0 0, .slice none 0 0]) 21 328 Tryz.underlying30 hi hz0 hz1 hz2 rfl (by decide) v k (L.flatMap Sd.cells) rfl (hown5.alloc _) ⟨w5.heap.size, 0, none⟩ 1 1 d'.cells rfl rfl (World.news_of_block (heap_alloc_last w5 (.cells d'.cells.toArray 32))) (one_sd d') (by decide) (by unfold maxLen; omega) (by omega) (by simp; omega) _ rfl ?_
          intro g cap w7 hown7 hgrow7 hat7 hlt7
          have hTne : some wr.heap.size ≠ v.ownBlock := fun e => by have := (hrl _ e.symm).2; omega
          have hTne2 : some (w.heap.size + 1) ≠ v.ownBlock := fun e => by have := (hrl _ e.symm).1; omega
          have hT7 : (fun z => z.rangeAt wr.heap.size 0 cx ∧ z.rangeAt (w.heap.size + 1) 0 [.int .i64 tt.s.ru, .string tt.s.nm, .string tt.s.ot, .bool tt.s.g, .slice tt.aq tt.an tt.ac, .slice tt.cq tt.cn tt.cc, .int .i64 tt.s.kk, .int .i64 tt.s.nn, .int .i64 tt.s.pr, .int .i64 tt.e.k, .int .i64 tt.e.f, .bool tt.e.neg, .slice tt.e.aq tt.e.an tt.e.ac, .slice tt.e.cq tt.e.cn tt.e.cc, .string tt.e.m, .slice tt.e.sq tt.e.sn tt.e.sc, .slice tt.poq tt.pon tt.poc, .string tt.s.en, .int .i64 tt.s.ve, .slice tt.arq tt.arn tt.arc, .slice tt.kiq tt.kin tt.kic]) w7 := ⟨fun j u hu => hgrow7.cell (hT6.1 j u hu) hTne, fun j u hu => hgrow7.cell (hT6.2 j u hu) hTne2⟩
          have c67 : w7.cell? ⟨G, 20, none⟩ = some v := hgrow7.cell c66 (fun e => hne e.symm)
          obtain ⟨m1, m2, m3, m4, m5, m6, m7, m8⟩ := grow_step (j := 20) (u := .slice (some ⟨g, 0, none⟩) (k + 1) cap) hGr (by omega : (w.heap.size + 3) ≤ wr.heap.size) hz hb5 hgrow7 hat7 hlt7 hrl hne rfl
          have f67 : ∀ j, w7.frozen? ⟨G, j, none⟩ = false := fun j => frozen_of_row _ _ _ _ _ (m5 _ _ _ hblk)
          refine hKK.out _ _ hT7 (fun hHeld7 => ?_)
          clear hKK K
          refine wpAnyH_take (i := 9) (oi := ?op9x6) (v := .pointer (some ⟨G, 20, none⟩)) ?ta9x6 ?tb9x6 ?tc9x6 ?td9x6 ?tq9x6 ?ty9x6 hHeld7 ?_
          case ta9x6 => rfl
          case tb9x6 => kernel_rfl
          case tc9x6 => kernel_rfl
          case td9x6 => kernel_rfl
          case tq9x6 => exact fun _ _ _ h => h
          case ty9x6 => exact Or.inl ⟨by rfl, by intro z hSz; go_simp⟩
          simp only [Act.put, List.setIfInBounds_toArray]
          refine wpAnyH_ready (rs := [10]) (by kernel_rfl) (by simp) ?_
          refine AllReadyH.cons rfl (fun K hKK => ?_) AllReadyH.nil
          go_simp
          refine hKK.out _ _ ⟨fun j u hu => (World.cell?_setCell_far _ _ _ _ (by show G ≠ wr.heap.size; omega)).trans (hT7.1 j u hu), fun j u hu => (World.cell?_setCell_far _ _ _ _ (by show G ≠ w.heap.size + 1; omega)).trans (hT7.2 j u hu)⟩ (fun _ => ?_)
          clear hKK K
          refine wpAnyH_done (by kernel_rfl) ?_ _
          go_wp2_with fail
          go_roundw
          case rel =>
            refine ⟨k + 1, by omega, by go_num, .slice (some ⟨g, 0, none⟩) (k + 1) cap, L ++ [d'], by simp [hLk], heap_setCell_at (m5 _ _ _ hblk), ?_, m6, ?_, hA0.keep m1 m2, ?_, by omega, ?_, ?_⟩
            · rw [List.flatMap_append, List.flatMap_singleton]
              exact owns_setCell hown7 m6
            · intro i x hi
              by_cases hik : i < k
              · rw [List.getElem?_append_left (by omega)] at hi
                exact (hLx i x hi).keep m1 m2
              · rw [List.getElem?_append_right (by omega)] at hi
                have hi0 : i - L.length = 0 := by
                  rcases Nat.eq_zero_or_pos (i - L.length) with h | h
                  · exact h
                  · rw [List.getElem?_eq_none (by simp; omega)] at hi
                    cases hi
                rw [hi0] at hi
                simp only [List.getElem?_cons_zero, Option.some.injEq] at hi
                subst hi
                have : i = k := by omega
                subst this
                exact hA5.keep m3 m4
            · refine Below.setCell ?_ (by show w.heap.size ≤ G; omega) _
              exact ((hbz.trans (hb5.mono hbz.size)).alloc (by omega) _).grown hgrow7 (by simp; omega) (fun b hb => by have := (hrl b hb).1; omega)
            · rw [m8 (w.heap.size + 2) (by omega) (by omega) (fun e => by have := (hrl _ e).1; omega)]
              exact hres
            · rw [m8 (w.heap.size + 1) (by omega) (by omega) (fun e => by have := (hrl _ e).1; omega)]
              exact hboxt
          case measure => simp [intOf]; omega
        · go_simp
          refine (hK2' _ hbz).mono ?_
          rintro e w5 ⟨d', rfl, hA5, hb5⟩
          have hs5 := hb5.size
          have hT5 : (fun z => z.rangeAt wr.heap.size 0 cx ∧ z.rangeAt (w.heap.size + 1) 0 [.int .i64 tt.s.ru, .string tt.s.nm, .string tt.s.ot, .bool tt.s.g, .slice tt.aq tt.an tt.ac, .slice tt.cq tt.cn tt.cc, .int .i64 tt.s.kk, .int .i64 tt.s.nn, .int .i64 tt.s.pr, .int .i64 tt.e.k, .int .i64 tt.e.f, .bool tt.e.neg, .slice tt.e.aq tt.e.an tt.e.ac, .slice tt.e.cq tt.e.cn tt.e.cc, .string tt.e.m, .slice tt.e.sq tt.e.sn tt.e.sc, .slice tt.poq tt.pon tt.poc, .string tt.s.en, .int .i64 tt.s.ve, .slice tt.arq tt.arn tt.arc, .slice tt.kiq tt.kin tt.kic]) w5 := ⟨rangeAt_below (w := (wr.alloc (.cells cx.toArray 32)).drew) hT.1 hb5 (by omega), rangeAt_below (w := (wr.alloc (.cells cx.toArray 32)).drew) hT.2 hb5 (by omega)⟩
          have c65 : w5.cell? ⟨G, 20, none⟩ = some v := (hb5.cell (by show G < _; omega)).trans c6
          have hown5 : w5.ownsRow (w.heap.size + 3) 32 21 v k (L.flatMap Sd.cells) := ((hown.alloc _).drew).kept (row := none) ⟨hb5.os, hb5.tape, hb5.output, hb5.size, fun b hb _ => hb5.block b hb⟩ (by cases hv : v.ownBlock with | none => exact .inl rfl | some _ => exact .inr (by simp))
          refine hKK.out _ _ hT5 (fun _ => ?_)
          clear hKK K
          refine wpAnyH_ready (rs := [1, 7]) (by kernel_rfl) (by simp) ?_
          refine AllReadyH.cons rfl (fun K hKK => ?_) (AllReadyH.cons rfl (fun K hKK => ?_) AllReadyH.nil)
          · go_simp
            refine hKK.out _ _ hT5 (fun _ => ?_)
            clear hKK K
            refine wpAnyH_ready (rs := [7]) (by kernel_rfl) (by simp) ?_
            refine AllReadyH.cons rfl (fun K hKK => ?_) AllReadyH.nil
            go_simp
            have hT6 : (fun z => z.rangeAt wr.heap.size 0 cx ∧ z.rangeAt (w.heap.size + 1) 0 [.int .i64 tt.s.ru, .string tt.s.nm, .string tt.s.ot, .bool tt.s.g, .slice tt.aq tt.an tt.ac, .slice tt.cq tt.cn tt.cc, .int .i64 tt.s.kk, .int .i64 tt.s.nn, .int .i64 tt.s.pr, .int .i64 tt.e.k, .int .i64 tt.e.f, .bool tt.e.neg, .slice tt.e.aq tt.e.an tt.e.ac, .slice tt.e.cq tt.e.cn tt.e.cc, .string tt.e.m, .slice tt.e.sq tt.e.sn tt.e.sc, .slice tt.poq tt.pon tt.poc, .string tt.s.en, .int .i64 tt.s.ve, .slice tt.arq tt.arn tt.arc, .slice tt.kiq tt.kin tt.kic]) (w5.alloc (.cells d'.cells.toArray 32)) := ⟨World.rangeAt_alloc hT5.1 _, World.rangeAt_alloc hT5.2 _⟩
            have c66 : (w5.alloc (.cells d'.cells.toArray 32)).cell? ⟨G, 20, none⟩ = some v := by rw [World.cell?_alloc_lt _ _ _ (by show G < _; omega)]; exact c65
            have c66w : (w5.alloc (.cells #[.int .i64 d'.s.ru, .string d'.s.nm, .string d'.s.ot, .bool d'.s.g, .slice d'.aq d'.an d'.ac, .slice d'.cq d'.cn d'.cc, .int .i64 d'.s.kk, .int .i64 d'.s.nn, .int .i64 d'.s.pr, .int .i64 d'.e.k, .int .i64 d'.e.f, .bool d'.e.neg, .slice d'.e.aq d'.e.an d'.e.ac, .slice d'.e.cq d'.e.cn d'.e.cc, .string d'.e.m, .slice d'.e.sq d'.e.sn d'.e.sc, .slice d'.poq d'.pon d'.poc, .string d'.s.en, .int .i64 d'.s.ve, .slice d'.arq d'.arn d'.arc, .slice d'.kiq d'.kin d'.kic] 32)).cell? ⟨G, 20, none⟩ = some v := c66
            refine hKK.out _ _ hT6 (fun _ => ?_)
            clear hKK K
            refine wpAnyH_ready (rs := [8]) (by kernel_rfl) (by simp) ?_
            refine AllReadyH.cons rfl (fun K hKK => ?_) AllReadyH.nil
            refine step_append_lies _ rfl _ _ 30 rfl (w.heap.size + 3) 32 i0 (.agg #[.int .i64 0, .string ⟨#[]⟩, .string ⟨#[]⟩, .bool false, .slice none 0 0, .slice none 0 0, .int .i64 0, .int .i64 0, .int .i64 0, .int .i64 0, .int .i64 0, .bool false, .slice none 0 0, .slice none 0 0, .string ⟨#[]⟩, .slice none 0 0, .slice none 0 0, .string ⟨#[]⟩, .int .i64 0, .slice none 0 0, .slice none 0 0]) 21 328 Tryz.underlying30 hi hz0 hz1 hz2 rfl (by decide) v k (L.flatMap Sd.cells) rfl (hown5.alloc _) ⟨w5.heap.size, 0, none⟩ 1 1 d'.cells rfl rfl (World.news_of_block (heap_alloc_last w5 (.cells d'.cells.toArray 32))) (one_sd d') (by decide) (by unfold maxLen; omega) (by omega) (by simp; omega) _ rfl ?_
            intro g cap w7 hown7 hgrow7 hat7 hlt7
            have hTne : some wr.heap.size ≠ v.ownBlock := fun e => by have := (hrl _ e.symm).2; omega
            have hTne2 : some (w.heap.size + 1) ≠ v.ownBlock := fun e => by have := (hrl _ e.symm).1; omega
            have hT7 : (fun z => z.rangeAt wr.heap.size 0 cx ∧ z.rangeAt (w.heap.size + 1) 0 [.int .i64 tt.s.ru, .string tt.s.nm, .string tt.s.ot, .bool tt.s.g, .slice tt.aq tt.an tt.ac, .slice tt.cq tt.cn tt.cc, .int .i64 tt.s.kk, .int .i64 tt.s.nn, .int .i64 tt.s.pr, .int .i64 tt.e.k, .int .i64 tt.e.f, .bool tt.e.neg, .slice tt.e.aq tt.e.an tt.e.ac, .slice tt.e.cq tt.e.cn tt.e.cc, .string tt.e.m, .slice tt.e.sq tt.e.sn tt.e.sc, .slice tt.poq tt.pon tt.poc, .string tt.s.en, .int .i64 tt.s.ve, .slice tt.arq tt.arn tt.arc, .slice tt.kiq tt.kin tt.kic]) w7 := ⟨fun j u hu => hgrow7.cell (hT6.1 j u hu) hTne, fun j u hu => hgrow7.cell (hT6.2 j u hu) hTne2⟩
            have c67 : w7.cell? ⟨G, 20, none⟩ = some v := hgrow7.cell c66 (fun e => hne e.symm)
            obtain ⟨m1, m2, m3, m4, m5, m6, m7, m8⟩ := grow_step (j := 20) (u := .slice (some ⟨g, 0, none⟩) (k + 1) cap) hGr (by omega : (w.heap.size + 3) ≤ wr.heap.size) hz hb5 hgrow7 hat7 hlt7 hrl hne rfl
            have f67 : ∀ j, w7.frozen? ⟨G, j, none⟩ = false := fun j => frozen_of_row _ _ _ _ _ (m5 _ _ _ hblk)
            refine hKK.out _ _ hT7 (fun hHeld7 => ?_)
            clear hKK K
            refine wpAnyH_take (i := 9) (oi := ?op9x7) (v := .pointer (some ⟨G, 20, none⟩)) ?ta9x7 ?tb9x7 ?tc9x7 ?td9x7 ?tq9x7 ?ty9x7 hHeld7 ?_
            case ta9x7 => rfl
            case tb9x7 => kernel_rfl
            case tc9x7 => kernel_rfl
            case td9x7 => kernel_rfl
            case tq9x7 => exact fun _ _ _ h => h
            case ty9x7 => exact Or.inl ⟨by rfl, by intro z hSz; go_simp⟩
            simp only [Act.put, List.setIfInBounds_toArray]
            refine wpAnyH_ready (rs := [10]) (by kernel_rfl) (by simp) ?_
            refine AllReadyH.cons rfl (fun K hKK => ?_) AllReadyH.nil
            go_simp
            refine hKK.out _ _ ⟨fun j u hu => (World.cell?_setCell_far _ _ _ _ (by show G ≠ wr.heap.size; omega)).trans (hT7.1 j u hu), fun j u hu => (World.cell?_setCell_far _ _ _ _ (by show G ≠ w.heap.size + 1; omega)).trans (hT7.2 j u hu)⟩ (fun _ => ?_)
            clear hKK K
            refine wpAnyH_done (by kernel_rfl) ?_ _
            go_wp2_with fail
            go_roundw
            case rel =>
              refine ⟨k + 1, by omega, by go_num, .slice (some ⟨g, 0, none⟩) (k + 1) cap, L ++ [d'], by simp [hLk], heap_setCell_at (m5 _ _ _ hblk), ?_, m6, ?_, hA0.keep m1 m2, ?_, by omega, ?_, ?_⟩
              · rw [List.flatMap_append, List.flatMap_singleton]
                exact owns_setCell hown7 m6
              · intro i x hi
                by_cases hik : i < k
                · rw [List.getElem?_append_left (by omega)] at hi
                  exact (hLx i x hi).keep m1 m2
                · rw [List.getElem?_append_right (by omega)] at hi
                  have hi0 : i - L.length = 0 := by
                    rcases Nat.eq_zero_or_pos (i - L.length) with h | h
                    · exact h
                    · rw [List.getElem?_eq_none (by simp; omega)] at hi
                      cases hi
                  rw [hi0] at hi
                  simp only [List.getElem?_cons_zero, Option.some.injEq] at hi
                  subst hi
                  have : i = k := by omega
                  subst this
                  exact hA5.keep m3 m4
              · refine Below.setCell ?_ (by show w.heap.size ≤ G; omega) _
                exact ((hbz.trans (hb5.mono hbz.size)).alloc (by omega) _).grown hgrow7 (by simp; omega) (fun b hb => by have := (hrl b hb).1; omega)
              · rw [m8 (w.heap.size + 2) (by omega) (by omega) (fun e => by have := (hrl _ e).1; omega)]
                exact hres
              · rw [m8 (w.heap.size + 1) (by omega) (by omega) (fun e => by have := (hrl _ e).1; omega)]
                exact hboxt
            case measure => simp [intOf]; omega
          · go_simp
            have hT6 : (fun z => z.rangeAt wr.heap.size 0 cx ∧ z.rangeAt (w.heap.size + 1) 0 [.int .i64 tt.s.ru, .string tt.s.nm, .string tt.s.ot, .bool tt.s.g, .slice tt.aq tt.an tt.ac, .slice tt.cq tt.cn tt.cc, .int .i64 tt.s.kk, .int .i64 tt.s.nn, .int .i64 tt.s.pr, .int .i64 tt.e.k, .int .i64 tt.e.f, .bool tt.e.neg, .slice tt.e.aq tt.e.an tt.e.ac, .slice tt.e.cq tt.e.cn tt.e.cc, .string tt.e.m, .slice tt.e.sq tt.e.sn tt.e.sc, .slice tt.poq tt.pon tt.poc, .string tt.s.en, .int .i64 tt.s.ve, .slice tt.arq tt.arn tt.arc, .slice tt.kiq tt.kin tt.kic]) (w5.alloc (.cells d'.cells.toArray 32)) := ⟨World.rangeAt_alloc hT5.1 _, World.rangeAt_alloc hT5.2 _⟩
            have c66 : (w5.alloc (.cells d'.cells.toArray 32)).cell? ⟨G, 20, none⟩ = some v := by rw [World.cell?_alloc_lt _ _ _ (by show G < _; omega)]; exact c65
            have c66w : (w5.alloc (.cells #[.int .i64 d'.s.ru, .string d'.s.nm, .string d'.s.ot, .bool d'.s.g, .slice d'.aq d'.an d'.ac, .slice d'.cq d'.cn d'.cc, .int .i64 d'.s.kk, .int .i64 d'.s.nn, .int .i64 d'.s.pr, .int .i64 d'.e.k, .int .i64 d'.e.f, .bool d'.e.neg, .slice d'.e.aq d'.e.an d'.e.ac, .slice d'.e.cq d'.e.cn d'.e.cc, .string d'.e.m, .slice d'.e.sq d'.e.sn d'.e.sc, .slice d'.poq d'.pon d'.poc, .string d'.s.en, .int .i64 d'.s.ve, .slice d'.arq d'.arn d'.arc, .slice d'.kiq d'.kin d'.kic] 32)).cell? ⟨G, 20, none⟩ = some v := c66
            refine hKK.out _ _ hT6 (fun _ => ?_)
            clear hKK K
            refine wpAnyH_ready (rs := [1]) (by kernel_rfl) (by simp) ?_
            refine AllReadyH.cons rfl (fun K hKK => ?_) AllReadyH.nil
            go_simp
            refine hKK.out _ _ hT6 (fun _ => ?_)
            clear hKK K
            refine wpAnyH_ready (rs := [8]) (by kernel_rfl) (by simp) ?_
            refine AllReadyH.cons rfl (fun K hKK => ?_) AllReadyH.nil
            refine step_append_lies _ rfl _ _ 30 rfl (w.heap.size + 3) 32 i0 (.agg #[.int .i64 0, .string ⟨#[]⟩, .string ⟨#[]⟩, .bool false, .slice none 0 0, .slice none 0 0, .int .i64 0, .int .i64 0, .int .i64 0, .int .i64 0, .int .i64 0, .bool false, .slice none 0 0, .slice none 0 0, .string ⟨#[]⟩, .slice none 0 0, .slice none 0 0, .string ⟨#[]⟩, .int .i64 0, .slice none 0 0, .slice none 0 0]) 21 328 Tryz.underlying30 hi hz0 hz1 hz2 rfl (by decide) v k (L.flatMap Sd.cells) rfl (hown5.alloc _) ⟨w5.heap.size, 0, none⟩ 1 1 d'.cells rfl rfl (World.news_of_block (heap_alloc_last w5 (.cells d'.cells.toArray 32))) (one_sd d') (by decide) (by unfold maxLen; omega) (by omega) (by simp; omega) _ rfl ?_
            intro g cap w7 hown7 hgrow7 hat7 hlt7
            have hTne : some wr.heap.size ≠ v.ownBlock := fun e => by have := (hrl _ e.symm).2; omega
            have hTne2 : some (w.heap.size + 1) ≠ v.ownBlock := fun e => by have := (hrl _ e.symm).1; omega
            have hT7 : (fun z => z.rangeAt wr.heap.size 0 cx ∧ z.rangeAt (w.heap.size + 1) 0 [.int .i64 tt.s.ru, .string tt.s.nm, .string tt.s.ot, .bool tt.s.g, .slice tt.aq tt.an tt.ac, .slice tt.cq tt.cn tt.cc, .int .i64 tt.s.kk, .int .i64 tt.s.nn, .int .i64 tt.s.pr, .int .i64 tt.e.k, .int .i64 tt.e.f, .bool tt.e.neg, .slice tt.e.aq tt.e.an tt.e.ac, .slice tt.e.cq tt.e.cn tt.e.cc, .string tt.e.m, .slice tt.e.sq tt.e.sn tt.e.sc, .slice tt.poq tt.pon tt.poc, .string tt.s.en, .int .i64 tt.s.ve, .slice tt.arq tt.arn tt.arc, .slice tt.kiq tt.kin tt.kic]) w7 := ⟨fun j u hu => hgrow7.cell (hT6.1 j u hu) hTne, fun j u hu => hgrow7.cell (hT6.2 j u hu) hTne2⟩
            have c67 : w7.cell? ⟨G, 20, none⟩ = some v := hgrow7.cell c66 (fun e => hne e.symm)
            obtain ⟨m1, m2, m3, m4, m5, m6, m7, m8⟩ := grow_step (j := 20) (u := .slice (some ⟨g, 0, none⟩) (k + 1) cap) hGr (by omega : (w.heap.size + 3) ≤ wr.heap.size) hz hb5 hgrow7 hat7 hlt7 hrl hne rfl
            have f67 : ∀ j, w7.frozen? ⟨G, j, none⟩ = false := fun j => frozen_of_row _ _ _ _ _ (m5 _ _ _ hblk)
            refine hKK.out _ _ hT7 (fun hHeld7 => ?_)
            clear hKK K
            refine wpAnyH_take (i := 9) (oi := ?op9x8) (v := .pointer (some ⟨G, 20, none⟩)) ?ta9x8 ?tb9x8 ?tc9x8 ?td9x8 ?tq9x8 ?ty9x8 hHeld7 ?_
            case ta9x8 => rfl
            case tb9x8 => kernel_rfl
            case tc9x8 => kernel_rfl
            case td9x8 => kernel_rfl
            case tq9x8 => exact fun _ _ _ h => h
            case ty9x8 => exact Or.inl ⟨by rfl, by intro z hSz; go_simp⟩
            simp only [Act.put, List.setIfInBounds_toArray]
            refine wpAnyH_ready (rs := [10]) (by kernel_rfl) (by simp) ?_
            refine AllReadyH.cons rfl (fun K hKK => ?_) AllReadyH.nil
            go_simp
            refine hKK.out _ _ ⟨fun j u hu => (World.cell?_setCell_far _ _ _ _ (by show G ≠ wr.heap.size; omega)).trans (hT7.1 j u hu), fun j u hu => (World.cell?_setCell_far _ _ _ _ (by show G ≠ w.heap.size + 1; omega)).trans (hT7.2 j u hu)⟩ (fun _ => ?_)
            clear hKK K
            refine wpAnyH_done (by kernel_rfl) ?_ _
            go_wp2_with fail
            go_roundw
            case rel =>
              refine ⟨k + 1, by omega, by go_num, .slice (some ⟨g, 0, none⟩) (k + 1) cap, L ++ [d'], by simp [hLk], heap_setCell_at (m5 _ _ _ hblk), ?_, m6, ?_, hA0.keep m1 m2, ?_, by omega, ?_, ?_⟩
              · rw [List.flatMap_append, List.flatMap_singleton]
                exact owns_setCell hown7 m6
              · intro i x hi
                by_cases hik : i < k
                · rw [List.getElem?_append_left (by omega)] at hi
                  exact (hLx i x hi).keep m1 m2
                · rw [List.getElem?_append_right (by omega)] at hi
                  have hi0 : i - L.length = 0 := by
                    rcases Nat.eq_zero_or_pos (i - L.length) with h | h
                    · exact h
                    · rw [List.getElem?_eq_none (by simp; omega)] at hi
                      cases hi
                  rw [hi0] at hi
                  simp only [List.getElem?_cons_zero, Option.some.injEq] at hi
                  subst hi
                  have : i = k := by omega
                  subst this
                  exact hA5.keep m3 m4
              · refine Below.setCell ?_ (by show w.heap.size ≤ G; omega) _
                exact ((hbz.trans (hb5.mono hbz.size)).alloc (by omega) _).grown hgrow7 (by simp; omega) (fun b hb => by have := (hrl b hb).1; omega)
              · rw [m8 (w.heap.size + 2) (by omega) (by omega) (fun e => by have := (hrl _ e).1; omega)]
                exact hres
              · rw [m8 (w.heap.size + 1) (by omega) (by omega) (fun e => by have := (hrl _ e).1; omega)]
                exact hboxt
            case measure => simp [intOf]; omega
      · have hK1' := hK1k hki
        go_wp2_with (first
          | (with_reducible refine wpList_load_mid ?_ 32 (.tmp 23) ?_ b (o + k * 21) ?_ cx dd hx hHu.out hd ?_ ?_
             rotate_left 1
             · with_reducible rfl
             · rfl
             · (rw [lx]; exact st_size)
             rotate_left 1
             · rfl)
          | (with_reducible refine wpList_store_new ?_ 32 (.tmp 9) (.tmp 24) ?_ cx.toArray wr.heap.size rfl ?_ ?_ ?_ ?_ ox'.out ?_
             rotate_left 1
             · with_reducible rfl
             · rfl
             · rfl
             · simp [lx]
             · (simp only [List.size_toArray, lx]; exact st_size)
             rotate_left 1
             · rfl))
        try simp only [Act.put]
        have hT := hTh.out
        have hz : Below wr.heap.size wr (wr.alloc (.cells cx.toArray 32)).drew := (below_one _ _).drew
        have hzs : (wr.alloc (.cells cx.toArray 32)).drew.heap.size = wr.heap.size + 1 := by show (wr.heap.push _).size = _; simp
        have hbz : Below w.heap.size w (wr.alloc (.cells cx.toArray 32)).drew := hbw.trans (hz.mono hbw.size)
        have c6 : (wr.alloc (.cells cx.toArray 32)).cell? ⟨G, 20, none⟩ = some v := by rw [World.cell?_alloc_lt _ _ _ (by exact hGr), cell_of_row _ _ _ _ _ _ hblk]; rfl
        have hrl := hown.lt
        refine wp_region_held_drew (S := fun z => z.rangeAt wr.heap.size 0 cx ∧ z.rangeAt (w.heap.size + 1) 0 [.int .i64 tt.s.ru, .string tt.s.nm, .string tt.s.ot, .bool tt.s.g, .slice tt.aq tt.an tt.ac, .slice tt.cq tt.cn tt.cc, .int .i64 tt.s.kk, .int .i64 tt.s.nn, .int .i64 tt.s.pr, .int .i64 tt.e.k, .int .i64 tt.e.f, .bool tt.e.neg, .slice tt.e.aq tt.e.an tt.e.ac, .slice tt.e.cq tt.e.cn tt.e.cc, .string tt.e.m, .slice tt.e.sq tt.e.sn tt.e.sc, .slice tt.poq tt.pon tt.poc, .string tt.s.en, .int .i64 tt.s.ve, .slice tt.arq tt.arn tt.arc, .slice tt.kiq tt.kin tt.kic]) (by kernel_rfl) (by exact hT) (fun hHeld => ?_)
        refine wpAnyH_take (i := 0) (oi := ?op0x9) (v := .pointer (some ⟨G, 20, none⟩)) ?ta0x9 ?tb0x9 ?tc0x9 ?td0x9 ?tq0x9 ?ty0x9 hHeld ?_
        case ta0x9 => rfl
        case tb0x9 => kernel_rfl
        case tc0x9 => kernel_rfl
        case td0x9 => kernel_rfl
        case tq0x9 => exact fun _ _ _ h => h
        case ty0x9 => exact Or.inl ⟨by rfl, by intro z hSz; go_simp⟩
        simp only [Act.put, List.setIfInBounds_toArray]
        refine wpAnyH_take (i := 2) (oi := ?op2x10) (v := .agg cx.toArray) ?ta2x10 ?tb2x10 ?tc2x10 ?td2x10 ?tq2x10 ?ty2x10 hHeld ?_
        case ta2x10 => rfl
        case tb2x10 => kernel_rfl
        case tc2x10 => kernel_rfl
        case td2x10 => kernel_rfl
        case tq2x10 => exact fun _ _ _ h => h
        case ty2x10 =>
          refine yieldsIf_load_mid ?tw2x10 32 (.tmp 9) ?to2x10 (wr.heap.size) 0 ?tx2x10 cx dd (fun z hz => hz.1) hHu.out hd (by rw [lx]; exact st_size)
          case tw2x10 => kernel_rfl
          case to2x10 => rfl
          case tx2x10 => kernel_rfl
        simp only [Act.put]
        refine wpAnyH_ready (rs := [1, 3]) (by kernel_rfl) (by simp) ?_
        refine AllReadyH.cons rfl (fun K hKK => ?_) (AllReadyH.cons rfl (fun K hKK => ?_) AllReadyH.nil)
        · go_simp
          refine hKK.out _ _ hHeld (fun _ => ?_)
          clear hKK K
          refine wpAnyH_ready (rs := [3]) (by kernel_rfl) (by simp) ?_
          refine AllReadyH.cons rfl (fun K hKK => ?_) AllReadyH.nil
          go_simp
          refine (hK1' _ hbz).mono ?_
          rintro e w5 ⟨d', rfl, hA5, hb5⟩
          have hs5 := hb5.size
          have hT5 : (fun z => z.rangeAt wr.heap.size 0 cx ∧ z.rangeAt (w.heap.size + 1) 0 [.int .i64 tt.s.ru, .string tt.s.nm, .string tt.s.ot, .bool tt.s.g, .slice tt.aq tt.an tt.ac, .slice tt.cq tt.cn tt.cc, .int .i64 tt.s.kk, .int .i64 tt.s.nn, .int .i64 tt.s.pr, .int .i64 tt.e.k, .int .i64 tt.e.f, .bool tt.e.neg, .slice tt.e.aq tt.e.an tt.e.ac, .slice tt.e.cq tt.e.cn tt.e.cc, .string tt.e.m, .slice tt.e.sq tt.e.sn tt.e.sc, .slice tt.poq tt.pon tt.poc, .string tt.s.en, .int .i64 tt.s.ve, .slice tt.arq tt.arn tt.arc, .slice tt.kiq tt.kin tt.kic]) w5 := ⟨rangeAt_below (w := (wr.alloc (.cells cx.toArray 32)).drew) hT.1 hb5 (by omega), rangeAt_below (w := (wr.alloc (.cells cx.toArray 32)).drew) hT.2 hb5 (by omega)⟩
          have c65 : w5.cell? ⟨G, 20, none⟩ = some v := (hb5.cell (by show G < _; omega)).trans c6
          have hown5 : w5.ownsRow (w.heap.size + 3) 32 21 v k (L.flatMap Sd.cells) := ((hown.alloc _).drew).kept (row := none) ⟨hb5.os, hb5.tape, hb5.output, hb5.size, fun b hb _ => hb5.block b hb⟩ (by cases hv : v.ownBlock with | none => exact .inl rfl | some _ => exact .inr (by simp))
          refine hKK.out _ _ hT5 (fun _ => ?_)
          clear hKK K
          refine wpAnyH_ready (rs := [4]) (by kernel_rfl) (by simp) ?_
          refine AllReadyH.cons rfl (fun K hKK => ?_) AllReadyH.nil
          go_simp
          have hT6 : (fun z => z.rangeAt wr.heap.size 0 cx ∧ z.rangeAt (w.heap.size + 1) 0 [.int .i64 tt.s.ru, .string tt.s.nm, .string tt.s.ot, .bool tt.s.g, .slice tt.aq tt.an tt.ac, .slice tt.cq tt.cn tt.cc, .int .i64 tt.s.kk, .int .i64 tt.s.nn, .int .i64 tt.s.pr, .int .i64 tt.e.k, .int .i64 tt.e.f, .bool tt.e.neg, .slice tt.e.aq tt.e.an tt.e.ac, .slice tt.e.cq tt.e.cn tt.e.cc, .string tt.e.m, .slice tt.e.sq tt.e.sn tt.e.sc, .slice tt.poq tt.pon tt.poc, .string tt.s.en, .int .i64 tt.s.ve, .slice tt.arq tt.arn tt.arc, .slice tt.kiq tt.kin tt.kic]) (w5.alloc (.cells d'.cells.toArray 32)) := ⟨World.rangeAt_alloc hT5.1 _, World.rangeAt_alloc hT5.2 _⟩
          have c66 : (w5.alloc (.cells d'.cells.toArray 32)).cell? ⟨G, 20, none⟩ = some v := by rw [World.cell?_alloc_lt _ _ _ (by show G < _; omega)]; exact c65
          have c66w : (w5.alloc (.cells #[.int .i64 d'.s.ru, .string d'.s.nm, .string d'.s.ot, .bool d'.s.g, .slice d'.aq d'.an d'.ac, .slice d'.cq d'.cn d'.cc, .int .i64 d'.s.kk, .int .i64 d'.s.nn, .int .i64 d'.s.pr, .int .i64 d'.e.k, .int .i64 d'.e.f, .bool d'.e.neg, .slice d'.e.aq d'.e.an d'.e.ac, .slice d'.e.cq d'.e.cn d'.e.cc, .string d'.e.m, .slice d'.e.sq d'.e.sn d'.e.sc, .slice d'.poq d'.pon d'.poc, .string d'.s.en, .int .i64 d'.s.ve, .slice d'.arq d'.arn d'.arc, .slice d'.kiq d'.kin d'.kic] 32)).cell? ⟨G, 20, none⟩ = some v := c66
          refine hKK.out _ _ hT6 (fun _ => ?_)
          clear hKK K
          refine wpAnyH_ready (rs := [5]) (by kernel_rfl) (by simp) ?_
          refine AllReadyH.cons rfl (fun K hKK => ?_) AllReadyH.nil
          refine step_append_lies _ rfl _ _ 30 rfl (w.heap.size + 3) 32 i0 (.agg #[.int .i64 0, .string ⟨#[]⟩, .string ⟨#[]⟩, .bool false, .slice none 0 0, .slice none 0 0, .int .i64 0, .int .i64 0, .int .i64 0, .int .i64 0, .int .i64 0, .bool false, .slice none 0 0, .slice none 0 0, .string ⟨#[]⟩, .slice none 0 0, .slice none 0 0, .string ⟨#[]⟩, .int .i64 0, .slice none 0 0, .slice none 0 0]) 21 328 Tryz.underlying30 hi hz0 hz1 hz2 rfl (by decide) v k (L.flatMap Sd.cells) rfl (hown5.alloc _) ⟨w5.heap.size, 0, none⟩ 1 1 d'.cells rfl rfl (World.news_of_block (heap_alloc_last w5 (.cells d'.cells.toArray 32))) (one_sd d') (by decide) (by unfold maxLen; omega) (by omega) (by simp; omega) _ rfl ?_
          intro g cap w7 hown7 hgrow7 hat7 hlt7
          have hTne : some wr.heap.size ≠ v.ownBlock := fun e => by have := (hrl _ e.symm).2; omega
          have hTne2 : some (w.heap.size + 1) ≠ v.ownBlock := fun e => by have := (hrl _ e.symm).1; omega
          have hT7 : (fun z => z.rangeAt wr.heap.size 0 cx ∧ z.rangeAt (w.heap.size + 1) 0 [.int .i64 tt.s.ru, .string tt.s.nm, .string tt.s.ot, .bool tt.s.g, .slice tt.aq tt.an tt.ac, .slice tt.cq tt.cn tt.cc, .int .i64 tt.s.kk, .int .i64 tt.s.nn, .int .i64 tt.s.pr, .int .i64 tt.e.k, .int .i64 tt.e.f, .bool tt.e.neg, .slice tt.e.aq tt.e.an tt.e.ac, .slice tt.e.cq tt.e.cn tt.e.cc, .string tt.e.m, .slice tt.e.sq tt.e.sn tt.e.sc, .slice tt.poq tt.pon tt.poc, .string tt.s.en, .int .i64 tt.s.ve, .slice tt.arq tt.arn tt.arc, .slice tt.kiq tt.kin tt.kic]) w7 := ⟨fun j u hu => hgrow7.cell (hT6.1 j u hu) hTne, fun j u hu => hgrow7.cell (hT6.2 j u hu) hTne2⟩
          have c67 : w7.cell? ⟨G, 20, none⟩ = some v := hgrow7.cell c66 (fun e => hne e.symm)
          obtain ⟨m1, m2, m3, m4, m5, m6, m7, m8⟩ := grow_step (j := 20) (u := .slice (some ⟨g, 0, none⟩) (k + 1) cap) hGr (by omega : (w.heap.size + 3) ≤ wr.heap.size) hz hb5 hgrow7 hat7 hlt7 hrl hne rfl
          have f67 : ∀ j, w7.frozen? ⟨G, j, none⟩ = false := fun j => frozen_of_row _ _ _ _ _ (m5 _ _ _ hblk)
          refine hKK.out _ _ hT7 (fun hHeld7 => ?_)
          clear hKK K
          refine wpAnyH_take (i := 6) (oi := ?op6x11) (v := .pointer (some ⟨G, 20, none⟩)) ?ta6x11 ?tb6x11 ?tc6x11 ?td6x11 ?tq6x11 ?ty6x11 hHeld7 ?_
          case ta6x11 => rfl
          case tb6x11 => kernel_rfl
          case tc6x11 => kernel_rfl
          case td6x11 => kernel_rfl
          case tq6x11 => exact fun _ _ _ h => h
          case ty6x11 => exact Or.inl ⟨by rfl, by intro z hSz; go_simp⟩
          simp only [Act.put, List.setIfInBounds_toArray]
          refine wpAnyH_ready (rs := [7]) (by kernel_rfl) (by simp) ?_
          refine AllReadyH.cons rfl (fun K hKK => ?_) AllReadyH.nil
          go_simp
          refine hKK.out _ _ ⟨fun j u hu => (World.cell?_setCell_far _ _ _ _ (by show G ≠ wr.heap.size; omega)).trans (hT7.1 j u hu), fun j u hu => (World.cell?_setCell_far _ _ _ _ (by show G ≠ w.heap.size + 1; omega)).trans (hT7.2 j u hu)⟩ (fun _ => ?_)
          clear hKK K
          refine wpAnyH_done (by kernel_rfl) ?_ _
          go_wp2_with fail
          go_roundw
          case rel =>
            refine ⟨k + 1, by omega, by go_num, .slice (some ⟨g, 0, none⟩) (k + 1) cap, L ++ [d'], by simp [hLk], heap_setCell_at (m5 _ _ _ hblk), ?_, m6, ?_, hA0.keep m1 m2, ?_, by omega, ?_, ?_⟩
            · rw [List.flatMap_append, List.flatMap_singleton]
              exact owns_setCell hown7 m6
            · intro i x hi
              by_cases hik : i < k
              · rw [List.getElem?_append_left (by omega)] at hi
                exact (hLx i x hi).keep m1 m2
              · rw [List.getElem?_append_right (by omega)] at hi
                have hi0 : i - L.length = 0 := by
                  rcases Nat.eq_zero_or_pos (i - L.length) with h | h
                  · exact h
                  · rw [List.getElem?_eq_none (by simp; omega)] at hi
                    cases hi
                rw [hi0] at hi
                simp only [List.getElem?_cons_zero, Option.some.injEq] at hi
                subst hi
                have : i = k := by omega
                subst this
                exact hA5.keep m3 m4
            · refine Below.setCell ?_ (by show w.heap.size ≤ G; omega) _
              exact ((hbz.trans (hb5.mono hbz.size)).alloc (by omega) _).grown hgrow7 (by simp; omega) (fun b hb => by have := (hrl b hb).1; omega)
            · rw [m8 (w.heap.size + 2) (by omega) (by omega) (fun e => by have := (hrl _ e).1; omega)]
              exact hres
            · rw [m8 (w.heap.size + 1) (by omega) (by omega) (fun e => by have := (hrl _ e).1; omega)]
              exact hboxt
          case measure => simp [intOf]; omega
        · go_simp
          refine (hK1' _ hbz).mono ?_
          rintro e w5 ⟨d', rfl, hA5, hb5⟩
          have hs5 := hb5.size
          have hT5 : (fun z => z.rangeAt wr.heap.size 0 cx ∧ z.rangeAt (w.heap.size + 1) 0 [.int .i64 tt.s.ru, .string tt.s.nm, .string tt.s.ot, .bool tt.s.g, .slice tt.aq tt.an tt.ac, .slice tt.cq tt.cn tt.cc, .int .i64 tt.s.kk, .int .i64 tt.s.nn, .int .i64 tt.s.pr, .int .i64 tt.e.k, .int .i64 tt.e.f, .bool tt.e.neg, .slice tt.e.aq tt.e.an tt.e.ac, .slice tt.e.cq tt.e.cn tt.e.cc, .string tt.e.m, .slice tt.e.sq tt.e.sn tt.e.sc, .slice tt.poq tt.pon tt.poc, .string tt.s.en, .int .i64 tt.s.ve, .slice tt.arq tt.arn tt.arc, .slice tt.kiq tt.kin tt.kic]) w5 := ⟨rangeAt_below (w := (wr.alloc (.cells cx.toArray 32)).drew) hT.1 hb5 (by omega), rangeAt_below (w := (wr.alloc (.cells cx.toArray 32)).drew) hT.2 hb5 (by omega)⟩
          have c65 : w5.cell? ⟨G, 20, none⟩ = some v := (hb5.cell (by show G < _; omega)).trans c6
          have hown5 : w5.ownsRow (w.heap.size + 3) 32 21 v k (L.flatMap Sd.cells) := ((hown.alloc _).drew).kept (row := none) ⟨hb5.os, hb5.tape, hb5.output, hb5.size, fun b hb _ => hb5.block b hb⟩ (by cases hv : v.ownBlock with | none => exact .inl rfl | some _ => exact .inr (by simp))
          refine hKK.out _ _ hT5 (fun _ => ?_)
          clear hKK K
          refine wpAnyH_ready (rs := [1, 4]) (by kernel_rfl) (by simp) ?_
          refine AllReadyH.cons rfl (fun K hKK => ?_) (AllReadyH.cons rfl (fun K hKK => ?_) AllReadyH.nil)
          · go_simp
            refine hKK.out _ _ hT5 (fun _ => ?_)
            clear hKK K
            refine wpAnyH_ready (rs := [4]) (by kernel_rfl) (by simp) ?_
            refine AllReadyH.cons rfl (fun K hKK => ?_) AllReadyH.nil
            go_simp
            have hT6 : (fun z => z.rangeAt wr.heap.size 0 cx ∧ z.rangeAt (w.heap.size + 1) 0 [.int .i64 tt.s.ru, .string tt.s.nm, .string tt.s.ot, .bool tt.s.g, .slice tt.aq tt.an tt.ac, .slice tt.cq tt.cn tt.cc, .int .i64 tt.s.kk, .int .i64 tt.s.nn, .int .i64 tt.s.pr, .int .i64 tt.e.k, .int .i64 tt.e.f, .bool tt.e.neg, .slice tt.e.aq tt.e.an tt.e.ac, .slice tt.e.cq tt.e.cn tt.e.cc, .string tt.e.m, .slice tt.e.sq tt.e.sn tt.e.sc, .slice tt.poq tt.pon tt.poc, .string tt.s.en, .int .i64 tt.s.ve, .slice tt.arq tt.arn tt.arc, .slice tt.kiq tt.kin tt.kic]) (w5.alloc (.cells d'.cells.toArray 32)) := ⟨World.rangeAt_alloc hT5.1 _, World.rangeAt_alloc hT5.2 _⟩
            have c66 : (w5.alloc (.cells d'.cells.toArray 32)).cell? ⟨G, 20, none⟩ = some v := by rw [World.cell?_alloc_lt _ _ _ (by show G < _; omega)]; exact c65
            have c66w : (w5.alloc (.cells #[.int .i64 d'.s.ru, .string d'.s.nm, .string d'.s.ot, .bool d'.s.g, .slice d'.aq d'.an d'.ac, .slice d'.cq d'.cn d'.cc, .int .i64 d'.s.kk, .int .i64 d'.s.nn, .int .i64 d'.s.pr, .int .i64 d'.e.k, .int .i64 d'.e.f, .bool d'.e.neg, .slice d'.e.aq d'.e.an d'.e.ac, .slice d'.e.cq d'.e.cn d'.e.cc, .string d'.e.m, .slice d'.e.sq d'.e.sn d'.e.sc, .slice d'.poq d'.pon d'.poc, .string d'.s.en, .int .i64 d'.s.ve, .slice d'.arq d'.arn d'.arc, .slice d'.kiq d'.kin d'.kic] 32)).cell? ⟨G, 20, none⟩ = some v := c66
            refine hKK.out _ _ hT6 (fun _ => ?_)
            clear hKK K
            refine wpAnyH_ready (rs := [5]) (by kernel_rfl) (by simp) ?_
            refine AllReadyH.cons rfl (fun K hKK => ?_) AllReadyH.nil
            refine step_append_lies _ rfl _ _ 30 rfl (w.heap.size + 3) 32 i0 (.agg #[.int .i64 0, .string ⟨#[]⟩, .string ⟨#[]⟩, .bool false, .slice none 0 0, .slice none 0 0, .int .i64 0, .int .i64 0, .int .i64 0, .int .i64 0, .int .i64 0, .bool false, .slice none 0 0, .slice none 0 0, .string ⟨#[]⟩, .slice none 0 0, .slice none 0 0, .string ⟨#[]⟩, .int .i64 0, .slice none 0 0, .slice none 0 0]) 21 328 Tryz.underlying30 hi hz0 hz1 hz2 rfl (by decide) v k (L.flatMap Sd.cells) rfl (hown5.alloc _) ⟨w5.heap.size, 0, none⟩ 1 1 d'.cells rfl rfl (World.news_of_block (heap_alloc_last w5 (.cells d'.cells.toArray 32))) (one_sd d') (by decide) (by unfold maxLen; omega) (by omega) (by simp; omega) _ rfl ?_
            intro g cap w7 hown7 hgrow7 hat7 hlt7
            have hTne : some wr.heap.size ≠ v.ownBlock := fun e => by have := (hrl _ e.symm).2; omega
            have hTne2 : some (w.heap.size + 1) ≠ v.ownBlock := fun e => by have := (hrl _ e.symm).1; omega
            have hT7 : (fun z => z.rangeAt wr.heap.size 0 cx ∧ z.rangeAt (w.heap.size + 1) 0 [.int .i64 tt.s.ru, .string tt.s.nm, .string tt.s.ot, .bool tt.s.g, .slice tt.aq tt.an tt.ac, .slice tt.cq tt.cn tt.cc, .int .i64 tt.s.kk, .int .i64 tt.s.nn, .int .i64 tt.s.pr, .int .i64 tt.e.k, .int .i64 tt.e.f, .bool tt.e.neg, .slice tt.e.aq tt.e.an tt.e.ac, .slice tt.e.cq tt.e.cn tt.e.cc, .string tt.e.m, .slice tt.e.sq tt.e.sn tt.e.sc, .slice tt.poq tt.pon tt.poc, .string tt.s.en, .int .i64 tt.s.ve, .slice tt.arq tt.arn tt.arc, .slice tt.kiq tt.kin tt.kic]) w7 := ⟨fun j u hu => hgrow7.cell (hT6.1 j u hu) hTne, fun j u hu => hgrow7.cell (hT6.2 j u hu) hTne2⟩
            have c67 : w7.cell? ⟨G, 20, none⟩ = some v := hgrow7.cell c66 (fun e => hne e.symm)
            obtain ⟨m1, m2, m3, m4, m5, m6, m7, m8⟩ := grow_step (j := 20) (u := .slice (some ⟨g, 0, none⟩) (k + 1) cap) hGr (by omega : (w.heap.size + 3) ≤ wr.heap.size) hz hb5 hgrow7 hat7 hlt7 hrl hne rfl
            have f67 : ∀ j, w7.frozen? ⟨G, j, none⟩ = false := fun j => frozen_of_row _ _ _ _ _ (m5 _ _ _ hblk)
            refine hKK.out _ _ hT7 (fun hHeld7 => ?_)
            clear hKK K
            refine wpAnyH_take (i := 6) (oi := ?op6x12) (v := .pointer (some ⟨G, 20, none⟩)) ?ta6x12 ?tb6x12 ?tc6x12 ?td6x12 ?tq6x12 ?ty6x12 hHeld7 ?_
            case ta6x12 => rfl
            case tb6x12 => kernel_rfl
            case tc6x12 => kernel_rfl
            case td6x12 => kernel_rfl
            case tq6x12 => exact fun _ _ _ h => h
            case ty6x12 => exact Or.inl ⟨by rfl, by intro z hSz; go_simp⟩
            simp only [Act.put, List.setIfInBounds_toArray]
            refine wpAnyH_ready (rs := [7]) (by kernel_rfl) (by simp) ?_
            refine AllReadyH.cons rfl (fun K hKK => ?_) AllReadyH.nil
            go_simp
            refine hKK.out _ _ ⟨fun j u hu => (World.cell?_setCell_far _ _ _ _ (by show G ≠ wr.heap.size; omega)).trans (hT7.1 j u hu), fun j u hu => (World.cell?_setCell_far _ _ _ _ (by show G ≠ w.heap.size + 1; omega)).trans (hT7.2 j u hu)⟩ (fun _ => ?_)
            clear hKK K
            refine wpAnyH_done (by kernel_rfl) ?_ _
            go_wp2_with fail
            go_roundw
            case rel =>
              refine ⟨k + 1, by omega, by go_num, .slice (some ⟨g, 0, none⟩) (k + 1) cap, L ++ [d'], by simp [hLk], heap_setCell_at (m5 _ _ _ hblk), ?_, m6, ?_, hA0.keep m1 m2, ?_, by omega, ?_, ?_⟩
              · rw [List.flatMap_append, List.flatMap_singleton]
                exact owns_setCell hown7 m6
              · intro i x hi
                by_cases hik : i < k
                · rw [List.getElem?_append_left (by omega)] at hi
                  exact (hLx i x hi).keep m1 m2
                · rw [List.getElem?_append_right (by omega)] at hi
                  have hi0 : i - L.length = 0 := by
                    rcases Nat.eq_zero_or_pos (i - L.length) with h | h
                    · exact h
                    · rw [List.getElem?_eq_none (by simp; omega)] at hi
                      cases hi
                  rw [hi0] at hi
                  simp only [List.getElem?_cons_zero, Option.some.injEq] at hi
                  subst hi
                  have : i = k := by omega
                  subst this
                  exact hA5.keep m3 m4
              · refine Below.setCell ?_ (by show w.heap.size ≤ G; omega) _
                exact ((hbz.trans (hb5.mono hbz.size)).alloc (by omega) _).grown hgrow7 (by simp; omega) (fun b hb => by have := (hrl b hb).1; omega)
              · rw [m8 (w.heap.size + 2) (by omega) (by omega) (fun e => by have := (hrl _ e).1; omega)]
                exact hres
              · rw [m8 (w.heap.size + 1) (by omega) (by omega) (fun e => by have := (hrl _ e).1; omega)]
                exact hboxt
            case measure => simp [intOf]; omega
          · go_simp
            have hT6 : (fun z => z.rangeAt wr.heap.size 0 cx ∧ z.rangeAt (w.heap.size + 1) 0 [.int .i64 tt.s.ru, .string tt.s.nm, .string tt.s.ot, .bool tt.s.g, .slice tt.aq tt.an tt.ac, .slice tt.cq tt.cn tt.cc, .int .i64 tt.s.kk, .int .i64 tt.s.nn, .int .i64 tt.s.pr, .int .i64 tt.e.k, .int .i64 tt.e.f, .bool tt.e.neg, .slice tt.e.aq tt.e.an tt.e.ac, .slice tt.e.cq tt.e.cn tt.e.cc, .string tt.e.m, .slice tt.e.sq tt.e.sn tt.e.sc, .slice tt.poq tt.pon tt.poc, .string tt.s.en, .int .i64 tt.s.ve, .slice tt.arq tt.arn tt.arc, .slice tt.kiq tt.kin tt.kic]) (w5.alloc (.cells d'.cells.toArray 32)) := ⟨World.rangeAt_alloc hT5.1 _, World.rangeAt_alloc hT5.2 _⟩
            have c66 : (w5.alloc (.cells d'.cells.toArray 32)).cell? ⟨G, 20, none⟩ = some v := by rw [World.cell?_alloc_lt _ _ _ (by show G < _; omega)]; exact c65
            have c66w : (w5.alloc (.cells #[.int .i64 d'.s.ru, .string d'.s.nm, .string d'.s.ot, .bool d'.s.g, .slice d'.aq d'.an d'.ac, .slice d'.cq d'.cn d'.cc, .int .i64 d'.s.kk, .int .i64 d'.s.nn, .int .i64 d'.s.pr, .int .i64 d'.e.k, .int .i64 d'.e.f, .bool d'.e.neg, .slice d'.e.aq d'.e.an d'.e.ac, .slice d'.e.cq d'.e.cn d'.e.cc, .string d'.e.m, .slice d'.e.sq d'.e.sn d'.e.sc, .slice d'.poq d'.pon d'.poc, .string d'.s.en, .int .i64 d'.s.ve, .slice d'.arq d'.arn d'.arc, .slice d'.kiq d'.kin d'.kic] 32)).cell? ⟨G, 20, none⟩ = some v := c66
            refine hKK.out _ _ hT6 (fun _ => ?_)
            clear hKK K
            refine wpAnyH_ready (rs := [1]) (by kernel_rfl) (by simp) ?_
            refine AllReadyH.cons rfl (fun K hKK => ?_) AllReadyH.nil
            go_simp
            refine hKK.out _ _ hT6 (fun _ => ?_)
            clear hKK K
            refine wpAnyH_ready (rs := [5]) (by kernel_rfl) (by simp) ?_
            refine AllReadyH.cons rfl (fun K hKK => ?_) AllReadyH.nil
            refine step_append_lies _ rfl _ _ 30 rfl (w.heap.size + 3) 32 i0 (.agg #[.int .i64 0, .string ⟨#[]⟩, .string ⟨#[]⟩, .bool false, .slice none 0 0, .slice none 0 0, .int .i64 0, .int .i64 0, .int .i64 0, .int .i64 0, .int .i64 0, .bool false, .slice none 0 0, .slice none 0 0, .string ⟨#[]⟩, .slice none 0 0, .slice none 0 0, .string ⟨#[]⟩, .int .i64 0, .slice none 0 0, .slice none 0 0]) 21 328 Tryz.underlying30 hi hz0 hz1 hz2 rfl (by decide) v k (L.flatMap Sd.cells) rfl (hown5.alloc _) ⟨w5.heap.size, 0, none⟩ 1 1 d'.cells rfl rfl (World.news_of_block (heap_alloc_last w5 (.cells d'.cells.toArray 32))) (one_sd d') (by decide) (by unfold maxLen; omega) (by omega) (by simp; omega) _ rfl ?_
            intro g cap w7 hown7 hgrow7 hat7 hlt7
            have hTne : some wr.heap.size ≠ v.ownBlock := fun e => by have := (hrl _ e.symm).2; omega
            have hTne2 : some (w.heap.size + 1) ≠ v.ownBlock := fun e => by have := (hrl _ e.symm).1; omega
            have hT7 : (fun z => z.rangeAt wr.heap.size 0 cx ∧ z.rangeAt (w.heap.size + 1) 0 [.int .i64 tt.s.ru, .string tt.s.nm, .string tt.s.ot, .bool tt.s.g, .slice tt.aq tt.an tt.ac, .slice tt.cq tt.cn tt.cc, .int .i64 tt.s.kk, .int .i64 tt.s.nn, .int .i64 tt.s.pr, .int .i64 tt.e.k, .int .i64 tt.e.f, .bool tt.e.neg, .slice tt.e.aq tt.e.an tt.e.ac, .slice tt.e.cq tt.e.cn tt.e.cc, .string tt.e.m, .slice tt.e.sq tt.e.sn tt.e.sc, .slice tt.poq tt.pon tt.poc, .string tt.s.en, .int .i64 tt.s.ve, .slice tt.arq tt.arn tt.arc, .slice tt.kiq tt.kin tt.kic]) w7 := ⟨fun j u hu => hgrow7.cell (hT6.1 j u hu) hTne, fun j u hu => hgrow7.cell (hT6.2 j u hu) hTne2⟩
            have c67 : w7.cell? ⟨G, 20, none⟩ = some v := hgrow7.cell c66 (fun e => hne e.symm)
            obtain ⟨m1, m2, m3, m4, m5, m6, m7, m8⟩ := grow_step (j := 20) (u := .slice (some ⟨g, 0, none⟩) (k + 1) cap) hGr (by omega : (w.heap.size + 3) ≤ wr.heap.size) hz hb5 hgrow7 hat7 hlt7 hrl hne rfl
            have f67 : ∀ j, w7.frozen? ⟨G, j, none⟩ = false := fun j => frozen_of_row _ _ _ _ _ (m5 _ _ _ hblk)
            refine hKK.out _ _ hT7 (fun hHeld7 => ?_)
            clear hKK K
            refine wpAnyH_take (i := 6) (oi := ?op6x13) (v := .pointer (some ⟨G, 20, none⟩)) ?ta6x13 ?tb6x13 ?tc6x13 ?td6x13 ?tq6x13 ?ty6x13 hHeld7 ?_
            case ta6x13 => rfl
            case tb6x13 => kernel_rfl
            case tc6x13 => kernel_rfl
            case td6x13 => kernel_rfl
            case tq6x13 => exact fun _ _ _ h => h
            case ty6x13 => exact Or.inl ⟨by rfl, by intro z hSz; go_simp⟩
            simp only [Act.put, List.setIfInBounds_toArray]
            refine wpAnyH_ready (rs := [7]) (by kernel_rfl) (by simp) ?_
            refine AllReadyH.cons rfl (fun K hKK => ?_) AllReadyH.nil
            go_simp
            refine hKK.out _ _ ⟨fun j u hu => (World.cell?_setCell_far _ _ _ _ (by show G ≠ wr.heap.size; omega)).trans (hT7.1 j u hu), fun j u hu => (World.cell?_setCell_far _ _ _ _ (by show G ≠ w.heap.size + 1; omega)).trans (hT7.2 j u hu)⟩ (fun _ => ?_)
            clear hKK K
            refine wpAnyH_done (by kernel_rfl) ?_ _
            go_wp2_with fail
            go_roundw
            case rel =>
              refine ⟨k + 1, by omega, by go_num, .slice (some ⟨g, 0, none⟩) (k + 1) cap, L ++ [d'], by simp [hLk], heap_setCell_at (m5 _ _ _ hblk), ?_, m6, ?_, hA0.keep m1 m2, ?_, by omega, ?_, ?_⟩
              · rw [List.flatMap_append, List.flatMap_singleton]
                exact owns_setCell hown7 m6
              · intro i x hi
                by_cases hik : i < k
                · rw [List.getElem?_append_left (by omega)] at hi
                  exact (hLx i x hi).keep m1 m2
                · rw [List.getElem?_append_right (by omega)] at hi
                  have hi0 : i - L.length = 0 := by
                    rcases Nat.eq_zero_or_pos (i - L.length) with h | h
                    · exact h
                    · rw [List.getElem?_eq_none (by simp; omega)] at hi
                      cases hi
                  rw [hi0] at hi
                  simp only [List.getElem?_cons_zero, Option.some.injEq] at hi
                  subst hi
                  have : i = k := by omega
                  subst this
                  exact hA5.keep m3 m4
              · refine Below.setCell ?_ (by show w.heap.size ≤ G; omega) _
                exact ((hbz.trans (hb5.mono hbz.size)).alloc (by omega) _).grown hgrow7 (by simp; omega) (fun b hb => by have := (hrl b hb).1; omega)
              · rw [m8 (w.heap.size + 2) (by omega) (by omega) (fun e => by have := (hrl _ e).1; omega)]
                exact hres
              · rw [m8 (w.heap.size + 1) (by omega) (by omega) (fun e => by have := (hrl _ e).1; omega)]
                exact hboxt
            case measure => simp [intOf]; omega
    · have hk2 : d.kin = k := by omega
      have hws := hbw.size
      have hr3 : wr.rangeAt G 0 [.int .i64 D.s.ru, .string D.s.nm, .string D.s.ot, .bool D.s.g, .slice D.aq D.an D.ac, .slice D.cq D.cn D.cc, .int .i64 D.s.kk, .int .i64 D.s.nn, .int .i64 D.s.pr, .int .i64 D.e.k, .int .i64 D.e.f, .bool D.e.neg, .slice D.e.aq D.e.an D.e.ac, .slice D.e.cq D.e.cn D.e.cc, .string D.e.m, .slice D.e.sq D.e.sn D.e.sc, .slice D.poq D.pon D.poc, .string D.s.en, .int .i64 D.s.ve, .slice D.arq D.arn D.arc, v] := by
        have h := World.rangeAt_of_block hblk 0 21
        simpa using h
      have hr2 : wr.there (w.heap.size + 2) 0 21 := there_of_block hres rfl
      have hvf : ∃ q c, v = .slice q k c := by
        rcases hown.2 with ⟨h, h0⟩ | ⟨g, cp, cur, h, _⟩
        · exact ⟨none, 0, by rw [h, h0]⟩
        · exact ⟨_, _, h⟩
      obtain ⟨q3, c3, rfl⟩ := hvf
      have hr2' : Hid (wr.there (w.heap.size + 2) 0 21) := hr2
      have hr3' : Hid (wr.rangeAt G 0 [.int .i64 D.s.ru, .string D.s.nm, .string D.s.ot, .bool D.s.g, .slice D.aq D.an D.ac, .slice D.cq D.cn D.cc, .int .i64 D.s.kk, .int .i64 D.s.nn, .int .i64 D.s.pr, .int .i64 D.e.k, .int .i64 D.e.f, .bool D.e.neg, .slice D.e.aq D.e.an D.e.ac, .slice D.e.cq D.e.cn D.e.cc, .string D.e.m, .slice D.e.sq D.e.sn D.e.sc, .slice D.poq D.pon D.poc, .string D.s.en, .int .i64 D.s.ve, .slice D.arq D.arn D.arc, .slice q3 k c3]) := hr3
      clear hr2 hr3
      go_wp2_with (first
        | (with_reducible refine wpList_load_mid ?_ 32 (.tmp 7) ?_ G 0 ?_ [.int .i64 D.s.ru, .string D.s.nm, .string D.s.ot, .bool D.s.g, .slice D.aq D.an D.ac, .slice D.cq D.cn D.cc, .int .i64 D.s.kk, .int .i64 D.s.nn, .int .i64 D.s.pr, .int .i64 D.e.k, .int .i64 D.e.f, .bool D.e.neg, .slice D.e.aq D.e.an D.e.ac, .slice D.e.cq D.e.cn D.e.cc, .string D.e.m, .slice D.e.sq D.e.sn D.e.sc, .slice D.poq D.pon D.poc, .string D.s.en, .int .i64 D.s.ve, .slice D.arq D.arn D.arc, .slice q3 k c3] dd hr3'.out hHu.out hd ?_ ?_
           rotate_left 1
           · with_reducible rfl
           · rfl
           · exact st_size
           rotate_left 1
           · rfl)
        | (with_reducible refine wpList_store_mid ?_ 32 (.tmp 6) (.tmp 48) ?_ (w.heap.size + 2) 0 #[.int .i64 D.s.ru, .string D.s.nm, .string D.s.ot, .bool D.s.g, .slice D.aq D.an D.ac, .slice D.cq D.cn D.cc, .int .i64 D.s.kk, .int .i64 D.s.nn, .int .i64 D.s.pr, .int .i64 D.e.k, .int .i64 D.e.f, .bool D.e.neg, .slice D.e.aq D.e.an D.e.ac, .slice D.e.cq D.e.cn D.e.cc, .string D.e.m, .slice D.e.sq D.e.sn D.e.sc, .slice D.poq D.pon D.poc, .string D.s.en, .int .i64 D.s.ve, .slice D.arq D.arn D.arc, .slice q3 k c3] ?_ ?_ ?_ ?_ ?_ ?_
           rotate_left 1
           · with_reducible rfl
           · rfl
           · rfl
           · exact hr2'.out
           · exact st_size
           · exact all_oneCell_toArray (one_sd ⟨D.s, D.aq, D.an, D.ac, D.cq, D.cn, D.cc, D.e, D.poq, D.pon, D.poc, D.arq, D.arn, D.arc, q3, k, c3⟩)
           rotate_left 1
           · rfl))
      obtain ⟨hW8, hs8, hb8⟩ := setCells_facts w.heap.size (w.heap.size + 2) (by omega) [.int .i64 D.s.ru, .string D.s.nm, .string D.s.ot, .bool D.s.g, .slice D.aq D.an D.ac, .slice D.cq D.cn D.cc, .int .i64 D.s.kk, .int .i64 D.s.nn, .int .i64 D.s.pr, .int .i64 D.e.k, .int .i64 D.e.f, .bool D.e.neg, .slice D.e.aq D.e.an D.e.ac, .slice D.e.cq D.e.cn D.e.cc, .string D.e.m, .slice D.e.sq D.e.sn D.e.sc, .slice D.poq D.pon D.poc, .string D.s.en, .int .i64 D.s.ve, .slice D.arq D.arn D.arc, .slice q3 k c3] 0 w wr hbw
      have hr8 := World.rangeAt_setCells_same wr (w.heap.size + 2) 0 [.int .i64 D.s.ru, .string D.s.nm, .string D.s.ot, .bool D.s.g, .slice D.aq D.an D.ac, .slice D.cq D.cn D.cc, .int .i64 D.s.kk, .int .i64 D.s.nn, .int .i64 D.s.pr, .int .i64 D.e.k, .int .i64 D.e.f, .bool D.e.neg, .slice D.e.aq D.e.an D.e.ac, .slice D.e.cq D.e.cn D.e.cc, .string D.e.m, .slice D.e.sq D.e.sn D.e.sc, .slice D.poq D.pon D.poc, .string D.s.en, .int .i64 D.s.ve, .slice D.arq D.arn D.arc, .slice q3 k c3] hr2'.out
      change bodyPost _ _ _ _ _ (wr.setCells (w.heap.size + 2) 0 [.int .i64 D.s.ru, .string D.s.nm, .string D.s.ot, .bool D.s.g, .slice D.aq D.an D.ac, .slice D.cq D.cn D.cc, .int .i64 D.s.kk, .int .i64 D.s.nn, .int .i64 D.s.pr, .int .i64 D.e.k, .int .i64 D.e.f, .bool D.e.neg, .slice D.e.aq D.e.an D.e.ac, .slice D.e.cq D.e.cn D.e.cc, .string D.e.m, .slice D.e.sq D.e.sn D.e.sc, .slice D.poq D.pon D.poc, .string D.s.en, .int .i64 D.s.ve, .slice D.arq D.arn D.arc, .slice q3 k c3])
      generalize wr.setCells (w.heap.size + 2) 0 [.int .i64 D.s.ru, .string D.s.nm, .string D.s.ot, .bool D.s.g, .slice D.aq D.an D.ac, .slice D.cq D.cn D.cc, .int .i64 D.s.kk, .int .i64 D.s.nn, .int .i64 D.s.pr, .int .i64 D.e.k, .int .i64 D.e.f, .bool D.e.neg, .slice D.e.aq D.e.an D.e.ac, .slice D.e.cq D.e.cn D.e.cc, .string D.e.m, .slice D.e.sq D.e.sn D.e.sc, .slice D.poq D.pon D.poc, .string D.s.en, .int .i64 D.s.ve, .slice D.arq D.arn D.arc, .slice q3 k c3] = w8 at *
      have hk8 : Keeps (Free (w.heap.size + 3) wr G (.slice q3 k c3)) wr w8 := fun b hb => hb8 b (by have := hb.1; omega)
      have ha8 : ∀ b, Free (w.heap.size + 3) wr G (.slice q3 k c3) b → Fresh w w8 b := fun b hb => ⟨by have := hb.1; omega, by have := hb.2.1; omega⟩
      refine bodyPost_ret (results_cell_mid rfl _ _ (w.heap.size + 2) _ dd rfl hr8 hHu.out hd st_size) rfl ?_
      refine ⟨D, q3, c3, by rw [hk2], hA0.keep hk8 ha8, ?_, hW8⟩
      by_cases h0 : k = 0
      · exact .inl (by omega)
      · refine .inr ?_
        obtain ⟨g, cp, hg, hge, hgl⟩ := hown.form (by omega)
        simp only [Value.slice.injEq] at hg
        obtain ⟨rfl, _, rfl⟩ := hg
        refine ⟨g, rfl, ⟨by omega, by omega⟩, fun i => L.getD i default, fun i hi => ?_⟩
        have hiL : i < L.length := by omega
        have hgi : L[i]? = some (L.getD i default) := by simp [List.getD, hiL]
        refine ⟨fun j u hu => ?_, (hLx i _ hgi).keep hk8 ha8⟩
        have hc := owns_range (s := 21) (f := Sd.cells) (fun _ => rfl) hown hgi j u hu
        rw [← hc]
        exact World.cell?_of_block (hb8 g (by omega))
end Go.Proofs.YtlmifjdbjhcceaaGreatDoor

namespace Go.Proofs.YtlmifjdbjhcceaaGreatDoor
open Go Go.RowKit

/-- A step with another one at a path. -/
def St.graft : List Int → St → St → St
  | [], _, T => T
  | _ :: _, .non, _ => .non
  | i :: r, .mk s nu de x pn ps bn bs n ki, T => .mk s nu de x pn ps bn bs n (fun j => if (j : Int) = i then St.graft r (ki j) T else ki j)

theorem pick_graft (T : St) : ∀ (p : List Int) (X Y : St), X.pick p = some Y → (St.graft p X T).pick p = some T
  | [], X, Y, _ => rfl
  | i :: r, .non, Y, h => by simp [St.pick, St.kid] at h
  | i :: r, .mk s nu de x pn ps bn bs n ki, Y, h => by
    simp only [St.pick, St.kid, St.graft] at h ⊢
    by_cases hi : 0 ≤ i ∧ i < n
    · rw [if_pos hi] at h ⊢
      have he : ((i.toNat : Nat) : Int) = i := by omega
      simp only [he, if_true] at h ⊢
      exact pick_graft T r _ Y h
    · rw [if_neg hi] at h
      cases h
theorem graft_pick : ∀ (p : List Int) (X Y : St), X.pick p = some Y → St.graft p X Y = X
  | [], X, Y, h => by simp only [St.pick, Option.some.injEq] at h; rw [h]; rfl
  | i :: r, .non, Y, h => by simp [St.pick, St.kid] at h
  | i :: r, .mk s nu de x pn ps bn bs n ki, Y, h => by
    simp only [St.pick, St.kid, St.graft] at h ⊢
    by_cases hi : 0 ≤ i ∧ i < n
    · rw [if_pos hi] at h
      congr 1
      funext j
      by_cases hj : (j : Int) = i
      · rw [if_pos hj]
        have : i.toNat = j := by omega
        rw [this] at h
        exact graft_pick r _ Y h
      · rw [if_neg hj]
    · rw [if_neg hi] at h
      cases h

set_option maxRecDepth 100000 in
theorem graft_zero {w : World} {d tt : Sd} {T : St} (q : Option Addr) (c : Nat) (hO : ∀ z, Below w.heap.size w z → Calls Tryz.prog 35 #[.agg #[.int .i64 tt.s.ru, .string tt.s.nm, .string tt.s.ot, .bool tt.s.g, .slice tt.aq tt.an tt.ac, .slice tt.cq tt.cn tt.cc, .int .i64 tt.s.kk, .int .i64 tt.s.nn, .int .i64 tt.s.pr, .int .i64 tt.e.k, .int .i64 tt.e.f, .bool tt.e.neg, .slice tt.e.aq tt.e.an tt.e.ac, .slice tt.e.cq tt.e.cn tt.e.cc, .string tt.e.m, .slice tt.e.sq tt.e.sn tt.e.sc, .slice tt.poq tt.pon tt.poc, .string tt.s.en, .int .i64 tt.s.ve, .slice tt.arq tt.arn tt.arc, .slice tt.kiq tt.kin tt.kic]] z fun e w' => ∃ d' : Sd, e = .returned (.agg d'.cells.toArray) ∧ StA w' (Fresh z w') T d' ∧ Below z.heap.size z w') :
    Calls Tryz.prog 36 #[.agg #[.int .i64 d.s.ru, .string d.s.nm, .string d.s.ot, .bool d.s.g, .slice d.aq d.an d.ac, .slice d.cq d.cn d.cc, .int .i64 d.s.kk, .int .i64 d.s.nn, .int .i64 d.s.pr, .int .i64 d.e.k, .int .i64 d.e.f, .bool d.e.neg, .slice d.e.aq d.e.an d.e.ac, .slice d.e.cq d.e.cn d.e.cc, .string d.e.m, .slice d.e.sq d.e.sn d.e.sc, .slice d.poq d.pon d.poc, .string d.s.en, .int .i64 d.s.ve, .slice d.arq d.arn d.arc, .slice d.kiq d.kin d.kic], .slice q 0 c, .agg #[.int .i64 tt.s.ru, .string tt.s.nm, .string tt.s.ot, .bool tt.s.g, .slice tt.aq tt.an tt.ac, .slice tt.cq tt.cn tt.cc, .int .i64 tt.s.kk, .int .i64 tt.s.nn, .int .i64 tt.s.pr, .int .i64 tt.e.k, .int .i64 tt.e.f, .bool tt.e.neg, .slice tt.e.aq tt.e.an tt.e.ac, .slice tt.e.cq tt.e.cn tt.e.cc, .string tt.e.m, .slice tt.e.sq tt.e.sn tt.e.sc, .slice tt.poq tt.pon tt.poc, .string tt.s.en, .int .i64 tt.s.ve, .slice tt.arq tt.arn tt.arc, .slice tt.kiq tt.kin tt.kic]] w fun e w' => ∃ d' : Sd, e = .returned d'.val ∧ StA w' (Fresh w w') T d' ∧ Below w.heap.size w w' := by
  obtain ⟨dd, hu, hd⟩ := st_row
  have hHu : Hid (Tryz.prog.underlying 32 = some dd) := hu
  clear hu
  have h3 : ∀ o o2 o3, Below w.heap.size w (((w.alloc o).alloc o2).alloc o3) := fun o o2 o3 => (below_two w o o2).alloc (by simp; omega) o3
  have htt : Hid ((((w.alloc (.cells #[.int .i64 d.s.ru, .string d.s.nm, .string d.s.ot, .bool d.s.g, .slice d.aq d.an d.ac, .slice d.cq d.cn d.cc, .int .i64 d.s.kk, .int .i64 d.s.nn, .int .i64 d.s.pr, .int .i64 d.e.k, .int .i64 d.e.f, .bool d.e.neg, .slice d.e.aq d.e.an d.e.ac, .slice d.e.cq d.e.cn d.e.cc, .string d.e.m, .slice d.e.sq d.e.sn d.e.sc, .slice d.poq d.pon d.poc, .string d.s.en, .int .i64 d.s.ve, .slice d.arq d.arn d.arc, .slice d.kiq d.kin d.kic] 32)).alloc (.cells #[.int .i64 tt.s.ru, .string tt.s.nm, .string tt.s.ot, .bool tt.s.g, .slice tt.aq tt.an tt.ac, .slice tt.cq tt.cn tt.cc, .int .i64 tt.s.kk, .int .i64 tt.s.nn, .int .i64 tt.s.pr, .int .i64 tt.e.k, .int .i64 tt.e.f, .bool tt.e.neg, .slice tt.e.aq tt.e.an tt.e.ac, .slice tt.e.cq tt.e.cn tt.e.cc, .string tt.e.m, .slice tt.e.sq tt.e.sn tt.e.sc, .slice tt.poq tt.pon tt.poc, .string tt.s.en, .int .i64 tt.s.ve, .slice tt.arq tt.arn tt.arc, .slice tt.kiq tt.kin tt.kic] 32)).alloc (.cells #[.int .i64 0, .string ⟨#[]⟩, .string ⟨#[]⟩, .bool false, .slice none 0 0, .slice none 0 0, .int .i64 0, .int .i64 0, .int .i64 0, .int .i64 0, .int .i64 0, .bool false, .slice none 0 0, .slice none 0 0, .string ⟨#[]⟩, .slice none 0 0, .slice none 0 0, .string ⟨#[]⟩, .int .i64 0, .slice none 0 0, .slice none 0 0] 32)).rangeAt (w.heap.size + 1) 0 [.int .i64 tt.s.ru, .string tt.s.nm, .string tt.s.ot, .bool tt.s.g, .slice tt.aq tt.an tt.ac, .slice tt.cq tt.cn tt.cc, .int .i64 tt.s.kk, .int .i64 tt.s.nn, .int .i64 tt.s.pr, .int .i64 tt.e.k, .int .i64 tt.e.f, .bool tt.e.neg, .slice tt.e.aq tt.e.an tt.e.ac, .slice tt.e.cq tt.e.cn tt.e.cc, .string tt.e.m, .slice tt.e.sq tt.e.sn tt.e.sc, .slice tt.poq tt.pon tt.poc, .string tt.s.en, .int .i64 tt.s.ve, .slice tt.arq tt.arn tt.arc, .slice tt.kiq tt.kin tt.kic]) := World.rangeAt_alloc (range_two w _ [.int .i64 tt.s.ru, .string tt.s.nm, .string tt.s.ot, .bool tt.s.g, .slice tt.aq tt.an tt.ac, .slice tt.cq tt.cn tt.cc, .int .i64 tt.s.kk, .int .i64 tt.s.nn, .int .i64 tt.s.pr, .int .i64 tt.e.k, .int .i64 tt.e.f, .bool tt.e.neg, .slice tt.e.aq tt.e.an tt.e.ac, .slice tt.e.cq tt.e.cn tt.e.cc, .string tt.e.m, .slice tt.e.sq tt.e.sn tt.e.sc, .slice tt.poq tt.pon tt.poc, .string tt.s.en, .int .i64 tt.s.ve, .slice tt.arq tt.arn tt.arc, .slice tt.kiq tt.kin tt.kic] 32) _
  have hth : Hid ((((w.alloc (.cells #[.int .i64 d.s.ru, .string d.s.nm, .string d.s.ot, .bool d.s.g, .slice d.aq d.an d.ac, .slice d.cq d.cn d.cc, .int .i64 d.s.kk, .int .i64 d.s.nn, .int .i64 d.s.pr, .int .i64 d.e.k, .int .i64 d.e.f, .bool d.e.neg, .slice d.e.aq d.e.an d.e.ac, .slice d.e.cq d.e.cn d.e.cc, .string d.e.m, .slice d.e.sq d.e.sn d.e.sc, .slice d.poq d.pon d.poc, .string d.s.en, .int .i64 d.s.ve, .slice d.arq d.arn d.arc, .slice d.kiq d.kin d.kic] 32)).alloc (.cells #[.int .i64 tt.s.ru, .string tt.s.nm, .string tt.s.ot, .bool tt.s.g, .slice tt.aq tt.an tt.ac, .slice tt.cq tt.cn tt.cc, .int .i64 tt.s.kk, .int .i64 tt.s.nn, .int .i64 tt.s.pr, .int .i64 tt.e.k, .int .i64 tt.e.f, .bool tt.e.neg, .slice tt.e.aq tt.e.an tt.e.ac, .slice tt.e.cq tt.e.cn tt.e.cc, .string tt.e.m, .slice tt.e.sq tt.e.sn tt.e.sc, .slice tt.poq tt.pon tt.poc, .string tt.s.en, .int .i64 tt.s.ve, .slice tt.arq tt.arn tt.arc, .slice tt.kiq tt.kin tt.kic] 32)).alloc (.cells #[.int .i64 0, .string ⟨#[]⟩, .string ⟨#[]⟩, .bool false, .slice none 0 0, .slice none 0 0, .int .i64 0, .int .i64 0, .int .i64 0, .int .i64 0, .int .i64 0, .bool false, .slice none 0 0, .slice none 0 0, .string ⟨#[]⟩, .slice none 0 0, .slice none 0 0, .string ⟨#[]⟩, .int .i64 0, .slice none 0 0, .slice none 0 0] 32)).there (w.heap.size + 2) 0 21) := by
    have h := there_of_block (heap_alloc_last ((w.alloc (.cells #[.int .i64 d.s.ru, .string d.s.nm, .string d.s.ot, .bool d.s.g, .slice d.aq d.an d.ac, .slice d.cq d.cn d.cc, .int .i64 d.s.kk, .int .i64 d.s.nn, .int .i64 d.s.pr, .int .i64 d.e.k, .int .i64 d.e.f, .bool d.e.neg, .slice d.e.aq d.e.an d.e.ac, .slice d.e.cq d.e.cn d.e.cc, .string d.e.m, .slice d.e.sq d.e.sn d.e.sc, .slice d.poq d.pon d.poc, .string d.s.en, .int .i64 d.s.ve, .slice d.arq d.arn d.arc, .slice d.kiq d.kin d.kic] 32)).alloc (.cells #[.int .i64 tt.s.ru, .string tt.s.nm, .string tt.s.ot, .bool tt.s.g, .slice tt.aq tt.an tt.ac, .slice tt.cq tt.cn tt.cc, .int .i64 tt.s.kk, .int .i64 tt.s.nn, .int .i64 tt.s.pr, .int .i64 tt.e.k, .int .i64 tt.e.f, .bool tt.e.neg, .slice tt.e.aq tt.e.an tt.e.ac, .slice tt.e.cq tt.e.cn tt.e.cc, .string tt.e.m, .slice tt.e.sq tt.e.sn tt.e.sc, .slice tt.poq tt.pon tt.poc, .string tt.s.en, .int .i64 tt.s.ve, .slice tt.arq tt.arn tt.arc, .slice tt.kiq tt.kin tt.kic] 32)) (.cells #[.int .i64 0, .string ⟨#[]⟩, .string ⟨#[]⟩, .bool false, .slice none 0 0, .slice none 0 0, .int .i64 0, .int .i64 0, .int .i64 0, .int .i64 0, .int .i64 0, .bool false, .slice none 0 0, .slice none 0 0, .string ⟨#[]⟩, .slice none 0 0, .slice none 0 0, .string ⟨#[]⟩, .int .i64 0, .slice none 0 0, .slice none 0 0] 32 (0, 0))) (n := 21) rfl
    rw [show ((w.alloc (.cells #[.int .i64 d.s.ru, .string d.s.nm, .string d.s.ot, .bool d.s.g, .slice d.aq d.an d.ac, .slice d.cq d.cn d.cc, .int .i64 d.s.kk, .int .i64 d.s.nn, .int .i64 d.s.pr, .int .i64 d.e.k, .int .i64 d.e.f, .bool d.e.neg, .slice d.e.aq d.e.an d.e.ac, .slice d.e.cq d.e.cn d.e.cc, .string d.e.m, .slice d.e.sq d.e.sn d.e.sc, .slice d.poq d.pon d.poc, .string d.s.en, .int .i64 d.s.ve, .slice d.arq d.arn d.arc, .slice d.kiq d.kin d.kic] 32)).alloc (.cells #[.int .i64 tt.s.ru, .string tt.s.nm, .string tt.s.ot, .bool tt.s.g, .slice tt.aq tt.an tt.ac, .slice tt.cq tt.cn tt.cc, .int .i64 tt.s.kk, .int .i64 tt.s.nn, .int .i64 tt.s.pr, .int .i64 tt.e.k, .int .i64 tt.e.f, .bool tt.e.neg, .slice tt.e.aq tt.e.an tt.e.ac, .slice tt.e.cq tt.e.cn tt.e.cc, .string tt.e.m, .slice tt.e.sq tt.e.sn tt.e.sc, .slice tt.poq tt.pon tt.poc, .string tt.s.en, .int .i64 tt.s.ve, .slice tt.arq tt.arn tt.arc, .slice tt.kiq tt.kin tt.kic] 32)).heap.size = w.heap.size + 2 by simp] at h
    exact h
  go_enter Tryz.func36, Tryz.ntmps36
  go_wp2_with (first
    | (with_reducible refine wpList_load_mid (op := ⟨some 13, _, _, _, _, _⟩) ?_ 32 (.tmp 5) ?_ (w.heap.size + 1) 0 ?_ [.int .i64 tt.s.ru, .string tt.s.nm, .string tt.s.ot, .bool tt.s.g, .slice tt.aq tt.an tt.ac, .slice tt.cq tt.cn tt.cc, .int .i64 tt.s.kk, .int .i64 tt.s.nn, .int .i64 tt.s.pr, .int .i64 tt.e.k, .int .i64 tt.e.f, .bool tt.e.neg, .slice tt.e.aq tt.e.an tt.e.ac, .slice tt.e.cq tt.e.cn tt.e.cc, .string tt.e.m, .slice tt.e.sq tt.e.sn tt.e.sc, .slice tt.poq tt.pon tt.poc, .string tt.s.en, .int .i64 tt.s.ve, .slice tt.arq tt.arn tt.arc, .slice tt.kiq tt.kin tt.kic] dd htt.out hHu.out hd ?_ ?_
       rotate_left 1
       · with_reducible rfl
       · rfl
       · exact st_size
       rotate_left 1
       · rfl)
    | (go_at_call 35; with_reducible refine (hO _ ?_).mono ?_; exact h3 _ _ _; rintro e w5 ⟨d', rfl, hA5, hb5⟩
       have hs5 : w.heap.size + 3 ≤ w5.heap.size := by have := hb5.size; simpa using this
       have hs5' : (((w.alloc (.cells #[.int .i64 d.s.ru, .string d.s.nm, .string d.s.ot, .bool d.s.g, .slice d.aq d.an d.ac, .slice d.cq d.cn d.cc, .int .i64 d.s.kk, .int .i64 d.s.nn, .int .i64 d.s.pr, .int .i64 d.e.k, .int .i64 d.e.f, .bool d.e.neg, .slice d.e.aq d.e.an d.e.ac, .slice d.e.cq d.e.cn d.e.cc, .string d.e.m, .slice d.e.sq d.e.sn d.e.sc, .slice d.poq d.pon d.poc, .string d.s.en, .int .i64 d.s.ve, .slice d.arq d.arn d.arc, .slice d.kiq d.kin d.kic] 32)).alloc (.cells #[.int .i64 tt.s.ru, .string tt.s.nm, .string tt.s.ot, .bool tt.s.g, .slice tt.aq tt.an tt.ac, .slice tt.cq tt.cn tt.cc, .int .i64 tt.s.kk, .int .i64 tt.s.nn, .int .i64 tt.s.pr, .int .i64 tt.e.k, .int .i64 tt.e.f, .bool tt.e.neg, .slice tt.e.aq tt.e.an tt.e.ac, .slice tt.e.cq tt.e.cn tt.e.cc, .string tt.e.m, .slice tt.e.sq tt.e.sn tt.e.sc, .slice tt.poq tt.pon tt.poc, .string tt.s.en, .int .i64 tt.s.ve, .slice tt.arq tt.arn tt.arc, .slice tt.kiq tt.kin tt.kic] 32)).alloc (.cells #[.int .i64 0, .string ⟨#[]⟩, .string ⟨#[]⟩, .bool false, .slice none 0 0, .slice none 0 0, .int .i64 0, .int .i64 0, .int .i64 0, .int .i64 0, .int .i64 0, .bool false, .slice none 0 0, .slice none 0 0, .string ⟨#[]⟩, .slice none 0 0, .slice none 0 0, .string ⟨#[]⟩, .int .i64 0, .slice none 0 0, .slice none 0 0] 32)).heap.size = w.heap.size + 3 := by simp
       have ht5 : Hid (w5.there (w.heap.size + 2) 0 21) := there_below hth.out hb5 (by omega)
       have hW5 := (h3 _ _ _).trans (hb5.mono (h3 _ _ _).size))
    | (with_reducible refine wpList_store_mid ?_ 32 (.tmp 6) (.tmp 14) ?_ (w.heap.size + 2) 0 d'.cells.toArray ?_ ?_ ?_ ?_ ?_ ?_
       rotate_left 1
       · with_reducible rfl
       · rfl
       · rfl
       · exact ht5.out
       · exact st_size
       · exact d'.one
       rotate_left 1
       · rfl))
  obtain ⟨hW8, hs8, hb8⟩ := setCells_facts w.heap.size (w.heap.size + 2) (by omega) d'.cells 0 w w5 hW5
  have hr8 := World.rangeAt_setCells_same w5 (w.heap.size + 2) 0 d'.cells ht5.out
  change bodyPost _ _ _ _ _ (w5.setCells (w.heap.size + 2) 0 d'.cells)
  generalize w5.setCells (w.heap.size + 2) 0 d'.cells = w8 at *
  refine bodyPost_ret (results_cell_mid rfl _ _ (w.heap.size + 2) _ dd rfl hr8 hHu.out hd st_size) rfl ?_
  exact ⟨d', rfl, hA5.keep (fun b hb => hb8 b (by have := hb.1; omega)) (fun b hb => ⟨by have := hb.1; omega, by have := hb.2; omega⟩), hW8⟩

/-- check.graft. -/
theorem graft_ok {T : St} {tt : Sd} (hsT : StSmall T) : ∀ (p : List Int) (X : St) (d : Sd) (w : World) (q : Option Addr) (c : Nat), StOk w X d → StSmall X → StOk w T tt → PaOk w q p.length p → p.length ≤ c → c ≤ maxLen →
    Calls Tryz.prog 36 #[d.val, .slice q p.length c, tt.val] w fun e w' => ∃ d' : Sd, e = .returned d'.val ∧ StA w' (Fresh w w') (St.graft p X T) d' ∧ Below w.heap.size w w'
  | [], X, d, w, q, c, hX, hs, hT, _, _, _ => graft_zero q c fun z hz => own_ok T tt z (hT.below hz) hsT
  | I :: r, .non, d, w, q, c, hX, hs, hT, hp, hc, hm => hX.elim
  | I :: r, .mk s nu de x pn ps bn bs n ki, d, w, q, c, hX, hs, hT, hp, hc, hm => by
    have hX' := hX
    unfold StOk at hX
    obtain ⟨⟨rfl, rfl, rfl, rfl⟩, h2, h3, h4, h5, h6, h7, h8, h9, h10⟩ := hX
    have hs' := hs
    unfold StSmall at hs'
    obtain ⟨_, _, _, _, s5, s6⟩ := hs'
    obtain ⟨ds, k1, k2⟩ := kidsAt h10
    obtain ⟨_, hpl, hpc⟩ := hp
    rcases hpc with h0 | ⟨pb, po, rfl, hpb, hpi⟩
    · simp at h0
    have hl : (I :: r).length - 1 = r.length := by simp
    have hp0 : w.cell? ⟨pb, po, none⟩ = some (.int .i64 I) := by have h := hpi 0 (by simp); simpa using h
    refine (graft_walk (tt := tt) (St.bare (.mk d.s nu de x d.pon ps d.arn bs d.kin ki)) ds (fun j => if (j : Int) = I then St.graft r (ki j) T else ki j) pb po (I :: r).length c I s5 (by simp) hc hm hpl hpb hp0 _ rfl (fun z hz => fields_ok (hX'.below hz) hs) k1 (fun i hi hne z hz => ?_) (fun i hi he z hz => ?_)).mono ?_
    · simp only [if_neg hne]
      exact own_ok (ki i) (ds i) z ((k2 i hi).below hz) (s6 i hi)
    · simp only [if_pos he]
      rw [hl]
      refine graft_ok hsT r (ki i) (ds i) z _ (c - 1) ((k2 i hi).below hz) (s6 i hi) (hT.below hz) ?_ (by simp at hc; omega) (by omega)
      refine ⟨rfl, by simp at hpl; omega, ?_⟩
      by_cases hr : r.length = 0
      · exact .inl hr
      · refine .inr ⟨pb, po + 1, ?_, Nat.lt_of_lt_of_le hpb hz.size, fun j hj => ?_⟩
        · rw [if_neg (by simp at hc; omega)]
        · have h := hpi (j + 1) (by simp; omega)
          rw [hz.cell (by exact hpb), show po + 1 + j = po + (j + 1) by omega, h]
          simp
    · rintro e w' ⟨D, q3, c3, rfl, a0, a1, hb⟩
      exact ⟨⟨D.s, D.aq, D.an, D.ac, D.cq, D.cn, D.cc, D.e, D.poq, D.pon, D.poc, D.arq, D.arn, D.arc, q3, d.kin, c3⟩, rfl, kids_join a0 h9 a1 _ _ _ _ _ _ _ _ _ _ rfl, hb⟩
end Go.Proofs.YtlmifjdbjhcceaaGreatDoor

namespace Go.Proofs.YtlmifjdbjhcceaaGreatDoor
open Go Go.RowKit

set_option maxRecDepth 100000 in
set_option maxHeartbeats 1000000 in
/-- check.Graft where Pick finds nothing. -/
theorem Graft_none {w : World} {d tt : Sd} {q : Option Addr} {n c : Nat}
    (hP : ∀ z, Below w.heap.size w z → Calls Tryz.prog 12 #[.agg d.cells.toArray, .slice q n c] z fun e w' => e = .returned (.tuple #[.agg #[.int .i64 0, .string ⟨#[]⟩, .string ⟨#[]⟩, .bool false, .slice none 0 0, .slice none 0 0, .int .i64 0, .int .i64 0, .int .i64 0, .int .i64 0, .int .i64 0, .bool false, .slice none 0 0, .slice none 0 0, .string ⟨#[]⟩, .slice none 0 0, .slice none 0 0, .string ⟨#[]⟩, .int .i64 0, .slice none 0 0, .slice none 0 0], .bool false]) ∧ Below z.heap.size z w') :
    Calls Tryz.prog 14 #[.agg #[.int .i64 d.s.ru, .string d.s.nm, .string d.s.ot, .bool d.s.g, .slice d.aq d.an d.ac, .slice d.cq d.cn d.cc, .int .i64 d.s.kk, .int .i64 d.s.nn, .int .i64 d.s.pr, .int .i64 d.e.k, .int .i64 d.e.f, .bool d.e.neg, .slice d.e.aq d.e.an d.e.ac, .slice d.e.cq d.e.cn d.e.cc, .string d.e.m, .slice d.e.sq d.e.sn d.e.sc, .slice d.poq d.pon d.poc, .string d.s.en, .int .i64 d.s.ve, .slice d.arq d.arn d.arc, .slice d.kiq d.kin d.kic], .slice q n c, .agg #[.int .i64 tt.s.ru, .string tt.s.nm, .string tt.s.ot, .bool tt.s.g, .slice tt.aq tt.an tt.ac, .slice tt.cq tt.cn tt.cc, .int .i64 tt.s.kk, .int .i64 tt.s.nn, .int .i64 tt.s.pr, .int .i64 tt.e.k, .int .i64 tt.e.f, .bool tt.e.neg, .slice tt.e.aq tt.e.an tt.e.ac, .slice tt.e.cq tt.e.cn tt.e.cc, .string tt.e.m, .slice tt.e.sq tt.e.sn tt.e.sc, .slice tt.poq tt.pon tt.poc, .string tt.s.en, .int .i64 tt.s.ve, .slice tt.arq tt.arn tt.arc, .slice tt.kiq tt.kin tt.kic]] w fun e w' => e = .returned (.tuple #[.agg #[.int .i64 0, .string ⟨#[]⟩, .string ⟨#[]⟩, .bool false, .slice none 0 0, .slice none 0 0, .int .i64 0, .int .i64 0, .int .i64 0, .int .i64 0, .int .i64 0, .bool false, .slice none 0 0, .slice none 0 0, .string ⟨#[]⟩, .slice none 0 0, .slice none 0 0, .string ⟨#[]⟩, .int .i64 0, .slice none 0 0, .slice none 0 0], .bool false]) ∧ Below w.heap.size w w' := by
  obtain ⟨dd, hu, hd⟩ := st_row
  have hHu : Hid (Tryz.prog.underlying 32 = some dd) := hu
  clear hu
  have h3 : Below w.heap.size w (((w.alloc (.cells #[.int .i64 d.s.ru, .string d.s.nm, .string d.s.ot, .bool d.s.g, .slice d.aq d.an d.ac, .slice d.cq d.cn d.cc, .int .i64 d.s.kk, .int .i64 d.s.nn, .int .i64 d.s.pr, .int .i64 d.e.k, .int .i64 d.e.f, .bool d.e.neg, .slice d.e.aq d.e.an d.e.ac, .slice d.e.cq d.e.cn d.e.cc, .string d.e.m, .slice d.e.sq d.e.sn d.e.sc, .slice d.poq d.pon d.poc, .string d.s.en, .int .i64 d.s.ve, .slice d.arq d.arn d.arc, .slice d.kiq d.kin d.kic] 32)).alloc (.cells #[.int .i64 tt.s.ru, .string tt.s.nm, .string tt.s.ot, .bool tt.s.g, .slice tt.aq tt.an tt.ac, .slice tt.cq tt.cn tt.cc, .int .i64 tt.s.kk, .int .i64 tt.s.nn, .int .i64 tt.s.pr, .int .i64 tt.e.k, .int .i64 tt.e.f, .bool tt.e.neg, .slice tt.e.aq tt.e.an tt.e.ac, .slice tt.e.cq tt.e.cn tt.e.cc, .string tt.e.m, .slice tt.e.sq tt.e.sn tt.e.sc, .slice tt.poq tt.pon tt.poc, .string tt.s.en, .int .i64 tt.s.ve, .slice tt.arq tt.arn tt.arc, .slice tt.kiq tt.kin tt.kic] 32)).alloc (.cells #[.int .i64 0, .string ⟨#[]⟩, .string ⟨#[]⟩, .bool false, .slice none 0 0, .slice none 0 0, .int .i64 0, .int .i64 0, .int .i64 0, .int .i64 0, .int .i64 0, .bool false, .slice none 0 0, .slice none 0 0, .string ⟨#[]⟩, .slice none 0 0, .slice none 0 0, .string ⟨#[]⟩, .int .i64 0, .slice none 0 0, .slice none 0 0] 32)) := (below_two w _ _).alloc (by simp; omega) _
  have hs0 : (((w.alloc (.cells #[.int .i64 d.s.ru, .string d.s.nm, .string d.s.ot, .bool d.s.g, .slice d.aq d.an d.ac, .slice d.cq d.cn d.cc, .int .i64 d.s.kk, .int .i64 d.s.nn, .int .i64 d.s.pr, .int .i64 d.e.k, .int .i64 d.e.f, .bool d.e.neg, .slice d.e.aq d.e.an d.e.ac, .slice d.e.cq d.e.cn d.e.cc, .string d.e.m, .slice d.e.sq d.e.sn d.e.sc, .slice d.poq d.pon d.poc, .string d.s.en, .int .i64 d.s.ve, .slice d.arq d.arn d.arc, .slice d.kiq d.kin d.kic] 32)).alloc (.cells #[.int .i64 tt.s.ru, .string tt.s.nm, .string tt.s.ot, .bool tt.s.g, .slice tt.aq tt.an tt.ac, .slice tt.cq tt.cn tt.cc, .int .i64 tt.s.kk, .int .i64 tt.s.nn, .int .i64 tt.s.pr, .int .i64 tt.e.k, .int .i64 tt.e.f, .bool tt.e.neg, .slice tt.e.aq tt.e.an tt.e.ac, .slice tt.e.cq tt.e.cn tt.e.cc, .string tt.e.m, .slice tt.e.sq tt.e.sn tt.e.sc, .slice tt.poq tt.pon tt.poc, .string tt.s.en, .int .i64 tt.s.ve, .slice tt.arq tt.arn tt.arc, .slice tt.kiq tt.kin tt.kic] 32)).alloc (.cells #[.int .i64 0, .string ⟨#[]⟩, .string ⟨#[]⟩, .bool false, .slice none 0 0, .slice none 0 0, .int .i64 0, .int .i64 0, .int .i64 0, .int .i64 0, .int .i64 0, .bool false, .slice none 0 0, .slice none 0 0, .string ⟨#[]⟩, .slice none 0 0, .slice none 0 0, .string ⟨#[]⟩, .int .i64 0, .slice none 0 0, .slice none 0 0] 32)).heap.size = w.heap.size + 3 := by simp
  have hdd : Hid ((((w.alloc (.cells #[.int .i64 d.s.ru, .string d.s.nm, .string d.s.ot, .bool d.s.g, .slice d.aq d.an d.ac, .slice d.cq d.cn d.cc, .int .i64 d.s.kk, .int .i64 d.s.nn, .int .i64 d.s.pr, .int .i64 d.e.k, .int .i64 d.e.f, .bool d.e.neg, .slice d.e.aq d.e.an d.e.ac, .slice d.e.cq d.e.cn d.e.cc, .string d.e.m, .slice d.e.sq d.e.sn d.e.sc, .slice d.poq d.pon d.poc, .string d.s.en, .int .i64 d.s.ve, .slice d.arq d.arn d.arc, .slice d.kiq d.kin d.kic] 32)).alloc (.cells #[.int .i64 tt.s.ru, .string tt.s.nm, .string tt.s.ot, .bool tt.s.g, .slice tt.aq tt.an tt.ac, .slice tt.cq tt.cn tt.cc, .int .i64 tt.s.kk, .int .i64 tt.s.nn, .int .i64 tt.s.pr, .int .i64 tt.e.k, .int .i64 tt.e.f, .bool tt.e.neg, .slice tt.e.aq tt.e.an tt.e.ac, .slice tt.e.cq tt.e.cn tt.e.cc, .string tt.e.m, .slice tt.e.sq tt.e.sn tt.e.sc, .slice tt.poq tt.pon tt.poc, .string tt.s.en, .int .i64 tt.s.ve, .slice tt.arq tt.arn tt.arc, .slice tt.kiq tt.kin tt.kic] 32)).alloc (.cells #[.int .i64 0, .string ⟨#[]⟩, .string ⟨#[]⟩, .bool false, .slice none 0 0, .slice none 0 0, .int .i64 0, .int .i64 0, .int .i64 0, .int .i64 0, .int .i64 0, .bool false, .slice none 0 0, .slice none 0 0, .string ⟨#[]⟩, .slice none 0 0, .slice none 0 0, .string ⟨#[]⟩, .int .i64 0, .slice none 0 0, .slice none 0 0] 32)).rangeAt w.heap.size 0 d.cells) := World.rangeAt_alloc (World.rangeAt_alloc (range_new w d.cells 32) _) _
  have htt : Hid ((((w.alloc (.cells #[.int .i64 d.s.ru, .string d.s.nm, .string d.s.ot, .bool d.s.g, .slice d.aq d.an d.ac, .slice d.cq d.cn d.cc, .int .i64 d.s.kk, .int .i64 d.s.nn, .int .i64 d.s.pr, .int .i64 d.e.k, .int .i64 d.e.f, .bool d.e.neg, .slice d.e.aq d.e.an d.e.ac, .slice d.e.cq d.e.cn d.e.cc, .string d.e.m, .slice d.e.sq d.e.sn d.e.sc, .slice d.poq d.pon d.poc, .string d.s.en, .int .i64 d.s.ve, .slice d.arq d.arn d.arc, .slice d.kiq d.kin d.kic] 32)).alloc (.cells #[.int .i64 tt.s.ru, .string tt.s.nm, .string tt.s.ot, .bool tt.s.g, .slice tt.aq tt.an tt.ac, .slice tt.cq tt.cn tt.cc, .int .i64 tt.s.kk, .int .i64 tt.s.nn, .int .i64 tt.s.pr, .int .i64 tt.e.k, .int .i64 tt.e.f, .bool tt.e.neg, .slice tt.e.aq tt.e.an tt.e.ac, .slice tt.e.cq tt.e.cn tt.e.cc, .string tt.e.m, .slice tt.e.sq tt.e.sn tt.e.sc, .slice tt.poq tt.pon tt.poc, .string tt.s.en, .int .i64 tt.s.ve, .slice tt.arq tt.arn tt.arc, .slice tt.kiq tt.kin tt.kic] 32)).alloc (.cells #[.int .i64 0, .string ⟨#[]⟩, .string ⟨#[]⟩, .bool false, .slice none 0 0, .slice none 0 0, .int .i64 0, .int .i64 0, .int .i64 0, .int .i64 0, .int .i64 0, .bool false, .slice none 0 0, .slice none 0 0, .string ⟨#[]⟩, .slice none 0 0, .slice none 0 0, .string ⟨#[]⟩, .int .i64 0, .slice none 0 0, .slice none 0 0] 32)).rangeAt (w.heap.size + 1) 0 tt.cells) := World.rangeAt_alloc (range_two w _ tt.cells 32) _
  have hth : Hid ((((w.alloc (.cells #[.int .i64 d.s.ru, .string d.s.nm, .string d.s.ot, .bool d.s.g, .slice d.aq d.an d.ac, .slice d.cq d.cn d.cc, .int .i64 d.s.kk, .int .i64 d.s.nn, .int .i64 d.s.pr, .int .i64 d.e.k, .int .i64 d.e.f, .bool d.e.neg, .slice d.e.aq d.e.an d.e.ac, .slice d.e.cq d.e.cn d.e.cc, .string d.e.m, .slice d.e.sq d.e.sn d.e.sc, .slice d.poq d.pon d.poc, .string d.s.en, .int .i64 d.s.ve, .slice d.arq d.arn d.arc, .slice d.kiq d.kin d.kic] 32)).alloc (.cells #[.int .i64 tt.s.ru, .string tt.s.nm, .string tt.s.ot, .bool tt.s.g, .slice tt.aq tt.an tt.ac, .slice tt.cq tt.cn tt.cc, .int .i64 tt.s.kk, .int .i64 tt.s.nn, .int .i64 tt.s.pr, .int .i64 tt.e.k, .int .i64 tt.e.f, .bool tt.e.neg, .slice tt.e.aq tt.e.an tt.e.ac, .slice tt.e.cq tt.e.cn tt.e.cc, .string tt.e.m, .slice tt.e.sq tt.e.sn tt.e.sc, .slice tt.poq tt.pon tt.poc, .string tt.s.en, .int .i64 tt.s.ve, .slice tt.arq tt.arn tt.arc, .slice tt.kiq tt.kin tt.kic] 32)).alloc (.cells #[.int .i64 0, .string ⟨#[]⟩, .string ⟨#[]⟩, .bool false, .slice none 0 0, .slice none 0 0, .int .i64 0, .int .i64 0, .int .i64 0, .int .i64 0, .int .i64 0, .bool false, .slice none 0 0, .slice none 0 0, .string ⟨#[]⟩, .slice none 0 0, .slice none 0 0, .string ⟨#[]⟩, .int .i64 0, .slice none 0 0, .slice none 0 0] 32)).there (w.heap.size + 2) 0 21) := by
    have h := there_of_block (heap_alloc_last ((w.alloc (.cells #[.int .i64 d.s.ru, .string d.s.nm, .string d.s.ot, .bool d.s.g, .slice d.aq d.an d.ac, .slice d.cq d.cn d.cc, .int .i64 d.s.kk, .int .i64 d.s.nn, .int .i64 d.s.pr, .int .i64 d.e.k, .int .i64 d.e.f, .bool d.e.neg, .slice d.e.aq d.e.an d.e.ac, .slice d.e.cq d.e.cn d.e.cc, .string d.e.m, .slice d.e.sq d.e.sn d.e.sc, .slice d.poq d.pon d.poc, .string d.s.en, .int .i64 d.s.ve, .slice d.arq d.arn d.arc, .slice d.kiq d.kin d.kic] 32)).alloc (.cells #[.int .i64 tt.s.ru, .string tt.s.nm, .string tt.s.ot, .bool tt.s.g, .slice tt.aq tt.an tt.ac, .slice tt.cq tt.cn tt.cc, .int .i64 tt.s.kk, .int .i64 tt.s.nn, .int .i64 tt.s.pr, .int .i64 tt.e.k, .int .i64 tt.e.f, .bool tt.e.neg, .slice tt.e.aq tt.e.an tt.e.ac, .slice tt.e.cq tt.e.cn tt.e.cc, .string tt.e.m, .slice tt.e.sq tt.e.sn tt.e.sc, .slice tt.poq tt.pon tt.poc, .string tt.s.en, .int .i64 tt.s.ve, .slice tt.arq tt.arn tt.arc, .slice tt.kiq tt.kin tt.kic] 32)) (.cells #[.int .i64 0, .string ⟨#[]⟩, .string ⟨#[]⟩, .bool false, .slice none 0 0, .slice none 0 0, .int .i64 0, .int .i64 0, .int .i64 0, .int .i64 0, .int .i64 0, .bool false, .slice none 0 0, .slice none 0 0, .string ⟨#[]⟩, .slice none 0 0, .slice none 0 0, .string ⟨#[]⟩, .int .i64 0, .slice none 0 0, .slice none 0 0] 32 (0, 0))) (n := 21) rfl
    rw [show ((w.alloc (.cells #[.int .i64 d.s.ru, .string d.s.nm, .string d.s.ot, .bool d.s.g, .slice d.aq d.an d.ac, .slice d.cq d.cn d.cc, .int .i64 d.s.kk, .int .i64 d.s.nn, .int .i64 d.s.pr, .int .i64 d.e.k, .int .i64 d.e.f, .bool d.e.neg, .slice d.e.aq d.e.an d.e.ac, .slice d.e.cq d.e.cn d.e.cc, .string d.e.m, .slice d.e.sq d.e.sn d.e.sc, .slice d.poq d.pon d.poc, .string d.s.en, .int .i64 d.s.ve, .slice d.arq d.arn d.arc, .slice d.kiq d.kin d.kic] 32)).alloc (.cells #[.int .i64 tt.s.ru, .string tt.s.nm, .string tt.s.ot, .bool tt.s.g, .slice tt.aq tt.an tt.ac, .slice tt.cq tt.cn tt.cc, .int .i64 tt.s.kk, .int .i64 tt.s.nn, .int .i64 tt.s.pr, .int .i64 tt.e.k, .int .i64 tt.e.f, .bool tt.e.neg, .slice tt.e.aq tt.e.an tt.e.ac, .slice tt.e.cq tt.e.cn tt.e.cc, .string tt.e.m, .slice tt.e.sq tt.e.sn tt.e.sc, .slice tt.poq tt.pon tt.poc, .string tt.s.en, .int .i64 tt.s.ve, .slice tt.arq tt.arn tt.arc, .slice tt.kiq tt.kin tt.kic] 32)).heap.size = w.heap.size + 2 by simp] at h
    exact h
  go_enter Tryz.func14, Tryz.ntmps14
  go_wp2_with (first
    | (with_reducible refine wpList_load_mid (op := ⟨some 11, _, _, _, _, _⟩) ?_ 32 (.tmp 3) ?_ (w.heap.size) 0 ?_ d.cells dd ?_ hHu.out hd ?_ ?_
       rotate_left 1
       · with_reducible rfl
       · kernel_rfl
       · exact hdd.out
       · exact st_size
       rotate_left 1
       · rfl)
    | (go_at_call 12; with_reducible refine (hP _ ?_).mono ?_; exact h3; rintro e w5 ⟨rfl, hb5⟩
       have hs5 := hb5.size
       have ht5 : Hid (w5.there (w.heap.size + 2) 0 21) := there_below hth.out hb5 (by omega)
       have hW5 := h3.trans (hb5.mono h3.size))
    | (with_reducible refine wpList_store_new ?_ 32 (.tmp 8) (.tmp 14) ?_ #[.int .i64 0, .string ⟨#[]⟩, .string ⟨#[]⟩, .bool false, .slice none 0 0, .slice none 0 0, .int .i64 0, .int .i64 0, .int .i64 0, .int .i64 0, .int .i64 0, .bool false, .slice none 0 0, .slice none 0 0, .string ⟨#[]⟩, .slice none 0 0, .slice none 0 0, .string ⟨#[]⟩, .int .i64 0, .slice none 0 0, .slice none 0 0] (w5.heap.size) rfl ?_ ?_ ?_ ?_ ?_ ?_
       rotate_left 1
       · with_reducible rfl
       · rfl
       · rfl
       · rfl
       · exact st_size
       · exact all_oneCell_toArray (one_sd ⟨⟨0, ⟨#[]⟩, ⟨#[]⟩, false, 0, 0, 0, ⟨#[]⟩, 0⟩, none, 0, 0, none, 0, 0, ⟨0, 0, false, none, 0, 0, none, 0, 0, ⟨#[]⟩, none, 0, 0⟩, none, 0, 0, none, 0, 0, none, 0, 0⟩)
       rotate_left 1
       · rfl)
    | (with_reducible refine wpList_store_mid ?_ 32 (.tmp 6) (.tmp 18) ?_ (w.heap.size + 2) 0 #[.int .i64 0, .string ⟨#[]⟩, .string ⟨#[]⟩, .bool false, .slice none 0 0, .slice none 0 0, .int .i64 0, .int .i64 0, .int .i64 0, .int .i64 0, .int .i64 0, .bool false, .slice none 0 0, .slice none 0 0, .string ⟨#[]⟩, .slice none 0 0, .slice none 0 0, .string ⟨#[]⟩, .int .i64 0, .slice none 0 0, .slice none 0 0] ?_ ?_ ?_ ?_ ?_ ?_
       rotate_left 1
       · with_reducible rfl
       · rfl
       · rfl
       · exact World.there_alloc ht5.out _
       · exact st_size
       · exact all_oneCell_toArray (one_sd ⟨⟨0, ⟨#[]⟩, ⟨#[]⟩, false, 0, 0, 0, ⟨#[]⟩, 0⟩, none, 0, 0, none, 0, 0, ⟨0, 0, false, none, 0, 0, none, 0, 0, ⟨#[]⟩, none, 0, 0⟩, none, 0, 0, none, 0, 0, none, 0, 0⟩)
       rotate_left 1
       · rfl))
  have hW6 : Below w.heap.size w (w5.alloc (.cells #[.int .i64 0, .string ⟨#[]⟩, .string ⟨#[]⟩, .bool false, .slice none 0 0, .slice none 0 0, .int .i64 0, .int .i64 0, .int .i64 0, .int .i64 0, .int .i64 0, .bool false, .slice none 0 0, .slice none 0 0, .string ⟨#[]⟩, .slice none 0 0, .slice none 0 0, .string ⟨#[]⟩, .int .i64 0, .slice none 0 0, .slice none 0 0] 32)) := hW5.alloc (by omega) _
  have ht6 : (w5.alloc (.cells #[.int .i64 0, .string ⟨#[]⟩, .string ⟨#[]⟩, .bool false, .slice none 0 0, .slice none 0 0, .int .i64 0, .int .i64 0, .int .i64 0, .int .i64 0, .int .i64 0, .bool false, .slice none 0 0, .slice none 0 0, .string ⟨#[]⟩, .slice none 0 0, .slice none 0 0, .string ⟨#[]⟩, .int .i64 0, .slice none 0 0, .slice none 0 0] 32)).there (w.heap.size + 2) 0 21 := World.there_alloc ht5.out _
  obtain ⟨hW8, _, _⟩ := setCells_facts w.heap.size (w.heap.size + 2) (by omega) [.int .i64 0, .string ⟨#[]⟩, .string ⟨#[]⟩, .bool false, .slice none 0 0, .slice none 0 0, .int .i64 0, .int .i64 0, .int .i64 0, .int .i64 0, .int .i64 0, .bool false, .slice none 0 0, .slice none 0 0, .string ⟨#[]⟩, .slice none 0 0, .slice none 0 0, .string ⟨#[]⟩, .int .i64 0, .slice none 0 0, .slice none 0 0] 0 w _ hW6
  have hr8 := World.rangeAt_setCells_same _ (w.heap.size + 2) 0 [.int .i64 0, .string ⟨#[]⟩, .string ⟨#[]⟩, .bool false, .slice none 0 0, .slice none 0 0, .int .i64 0, .int .i64 0, .int .i64 0, .int .i64 0, .int .i64 0, .bool false, .slice none 0 0, .slice none 0 0, .string ⟨#[]⟩, .slice none 0 0, .slice none 0 0, .string ⟨#[]⟩, .int .i64 0, .slice none 0 0, .slice none 0 0] ht6
  change bodyPost _ _ _ _ _ ((w5.alloc (.cells #[.int .i64 0, .string ⟨#[]⟩, .string ⟨#[]⟩, .bool false, .slice none 0 0, .slice none 0 0, .int .i64 0, .int .i64 0, .int .i64 0, .int .i64 0, .int .i64 0, .bool false, .slice none 0 0, .slice none 0 0, .string ⟨#[]⟩, .slice none 0 0, .slice none 0 0, .string ⟨#[]⟩, .int .i64 0, .slice none 0 0, .slice none 0 0] 32)).setCells (w.heap.size + 2) 0 [.int .i64 0, .string ⟨#[]⟩, .string ⟨#[]⟩, .bool false, .slice none 0 0, .slice none 0 0, .int .i64 0, .int .i64 0, .int .i64 0, .int .i64 0, .int .i64 0, .bool false, .slice none 0 0, .slice none 0 0, .string ⟨#[]⟩, .slice none 0 0, .slice none 0 0, .string ⟨#[]⟩, .int .i64 0, .slice none 0 0, .slice none 0 0])
  generalize (w5.alloc (.cells #[.int .i64 0, .string ⟨#[]⟩, .string ⟨#[]⟩, .bool false, .slice none 0 0, .slice none 0 0, .int .i64 0, .int .i64 0, .int .i64 0, .int .i64 0, .int .i64 0, .bool false, .slice none 0 0, .slice none 0 0, .string ⟨#[]⟩, .slice none 0 0, .slice none 0 0, .string ⟨#[]⟩, .int .i64 0, .slice none 0 0, .slice none 0 0] 32)).setCells (w.heap.size + 2) 0 [.int .i64 0, .string ⟨#[]⟩, .string ⟨#[]⟩, .bool false, .slice none 0 0, .slice none 0 0, .int .i64 0, .int .i64 0, .int .i64 0, .int .i64 0, .int .i64 0, .bool false, .slice none 0 0, .slice none 0 0, .string ⟨#[]⟩, .slice none 0 0, .slice none 0 0, .string ⟨#[]⟩, .int .i64 0, .slice none 0 0, .slice none 0 0] = w8 at *
  refine bodyPost_ret (results_cell_tmp_mid rfl _ _ (w.heap.size + 2) _ dd rfl hr8 hHu.out hd st_size) rfl ?_
  exact ⟨rfl, hW8⟩

set_option maxRecDepth 100000 in
set_option maxHeartbeats 1000000 in
/-- check.Graft where Pick finds a step. -/
theorem Graft_some {w : World} {d tt : Sd} {q : Option Addr} {n c : Nat} {Z : St}
    (hP : ∀ z, Below w.heap.size w z → Calls Tryz.prog 12 #[.agg d.cells.toArray, .slice q n c] z fun e w' => ∃ y : Sd, e = .returned (.tuple #[.agg y.cells.toArray, .bool true]) ∧ Below z.heap.size z w')
    (hG : ∀ z, Below w.heap.size w z → Calls Tryz.prog 36 #[.agg d.cells.toArray, .slice q n c, .agg tt.cells.toArray] z fun e w' => ∃ d' : Sd, e = .returned (.agg d'.cells.toArray) ∧ StA w' (Fresh z w') Z d' ∧ Below z.heap.size z w') :
    Calls Tryz.prog 14 #[.agg #[.int .i64 d.s.ru, .string d.s.nm, .string d.s.ot, .bool d.s.g, .slice d.aq d.an d.ac, .slice d.cq d.cn d.cc, .int .i64 d.s.kk, .int .i64 d.s.nn, .int .i64 d.s.pr, .int .i64 d.e.k, .int .i64 d.e.f, .bool d.e.neg, .slice d.e.aq d.e.an d.e.ac, .slice d.e.cq d.e.cn d.e.cc, .string d.e.m, .slice d.e.sq d.e.sn d.e.sc, .slice d.poq d.pon d.poc, .string d.s.en, .int .i64 d.s.ve, .slice d.arq d.arn d.arc, .slice d.kiq d.kin d.kic], .slice q n c, .agg #[.int .i64 tt.s.ru, .string tt.s.nm, .string tt.s.ot, .bool tt.s.g, .slice tt.aq tt.an tt.ac, .slice tt.cq tt.cn tt.cc, .int .i64 tt.s.kk, .int .i64 tt.s.nn, .int .i64 tt.s.pr, .int .i64 tt.e.k, .int .i64 tt.e.f, .bool tt.e.neg, .slice tt.e.aq tt.e.an tt.e.ac, .slice tt.e.cq tt.e.cn tt.e.cc, .string tt.e.m, .slice tt.e.sq tt.e.sn tt.e.sc, .slice tt.poq tt.pon tt.poc, .string tt.s.en, .int .i64 tt.s.ve, .slice tt.arq tt.arn tt.arc, .slice tt.kiq tt.kin tt.kic]] w fun e w' => ∃ d' : Sd, e = .returned (.tuple #[d'.val, .bool true]) ∧ StA w' (Fresh w w') Z d' ∧ Below w.heap.size w w' := by
  obtain ⟨dd, hu, hd⟩ := st_row
  have hHu : Hid (Tryz.prog.underlying 32 = some dd) := hu
  clear hu
  have h3 : Below w.heap.size w (((w.alloc (.cells #[.int .i64 d.s.ru, .string d.s.nm, .string d.s.ot, .bool d.s.g, .slice d.aq d.an d.ac, .slice d.cq d.cn d.cc, .int .i64 d.s.kk, .int .i64 d.s.nn, .int .i64 d.s.pr, .int .i64 d.e.k, .int .i64 d.e.f, .bool d.e.neg, .slice d.e.aq d.e.an d.e.ac, .slice d.e.cq d.e.cn d.e.cc, .string d.e.m, .slice d.e.sq d.e.sn d.e.sc, .slice d.poq d.pon d.poc, .string d.s.en, .int .i64 d.s.ve, .slice d.arq d.arn d.arc, .slice d.kiq d.kin d.kic] 32)).alloc (.cells #[.int .i64 tt.s.ru, .string tt.s.nm, .string tt.s.ot, .bool tt.s.g, .slice tt.aq tt.an tt.ac, .slice tt.cq tt.cn tt.cc, .int .i64 tt.s.kk, .int .i64 tt.s.nn, .int .i64 tt.s.pr, .int .i64 tt.e.k, .int .i64 tt.e.f, .bool tt.e.neg, .slice tt.e.aq tt.e.an tt.e.ac, .slice tt.e.cq tt.e.cn tt.e.cc, .string tt.e.m, .slice tt.e.sq tt.e.sn tt.e.sc, .slice tt.poq tt.pon tt.poc, .string tt.s.en, .int .i64 tt.s.ve, .slice tt.arq tt.arn tt.arc, .slice tt.kiq tt.kin tt.kic] 32)).alloc (.cells #[.int .i64 0, .string ⟨#[]⟩, .string ⟨#[]⟩, .bool false, .slice none 0 0, .slice none 0 0, .int .i64 0, .int .i64 0, .int .i64 0, .int .i64 0, .int .i64 0, .bool false, .slice none 0 0, .slice none 0 0, .string ⟨#[]⟩, .slice none 0 0, .slice none 0 0, .string ⟨#[]⟩, .int .i64 0, .slice none 0 0, .slice none 0 0] 32)) := (below_two w _ _).alloc (by simp; omega) _
  have hs0 : (((w.alloc (.cells #[.int .i64 d.s.ru, .string d.s.nm, .string d.s.ot, .bool d.s.g, .slice d.aq d.an d.ac, .slice d.cq d.cn d.cc, .int .i64 d.s.kk, .int .i64 d.s.nn, .int .i64 d.s.pr, .int .i64 d.e.k, .int .i64 d.e.f, .bool d.e.neg, .slice d.e.aq d.e.an d.e.ac, .slice d.e.cq d.e.cn d.e.cc, .string d.e.m, .slice d.e.sq d.e.sn d.e.sc, .slice d.poq d.pon d.poc, .string d.s.en, .int .i64 d.s.ve, .slice d.arq d.arn d.arc, .slice d.kiq d.kin d.kic] 32)).alloc (.cells #[.int .i64 tt.s.ru, .string tt.s.nm, .string tt.s.ot, .bool tt.s.g, .slice tt.aq tt.an tt.ac, .slice tt.cq tt.cn tt.cc, .int .i64 tt.s.kk, .int .i64 tt.s.nn, .int .i64 tt.s.pr, .int .i64 tt.e.k, .int .i64 tt.e.f, .bool tt.e.neg, .slice tt.e.aq tt.e.an tt.e.ac, .slice tt.e.cq tt.e.cn tt.e.cc, .string tt.e.m, .slice tt.e.sq tt.e.sn tt.e.sc, .slice tt.poq tt.pon tt.poc, .string tt.s.en, .int .i64 tt.s.ve, .slice tt.arq tt.arn tt.arc, .slice tt.kiq tt.kin tt.kic] 32)).alloc (.cells #[.int .i64 0, .string ⟨#[]⟩, .string ⟨#[]⟩, .bool false, .slice none 0 0, .slice none 0 0, .int .i64 0, .int .i64 0, .int .i64 0, .int .i64 0, .int .i64 0, .bool false, .slice none 0 0, .slice none 0 0, .string ⟨#[]⟩, .slice none 0 0, .slice none 0 0, .string ⟨#[]⟩, .int .i64 0, .slice none 0 0, .slice none 0 0] 32)).heap.size = w.heap.size + 3 := by simp
  have hdd : Hid ((((w.alloc (.cells #[.int .i64 d.s.ru, .string d.s.nm, .string d.s.ot, .bool d.s.g, .slice d.aq d.an d.ac, .slice d.cq d.cn d.cc, .int .i64 d.s.kk, .int .i64 d.s.nn, .int .i64 d.s.pr, .int .i64 d.e.k, .int .i64 d.e.f, .bool d.e.neg, .slice d.e.aq d.e.an d.e.ac, .slice d.e.cq d.e.cn d.e.cc, .string d.e.m, .slice d.e.sq d.e.sn d.e.sc, .slice d.poq d.pon d.poc, .string d.s.en, .int .i64 d.s.ve, .slice d.arq d.arn d.arc, .slice d.kiq d.kin d.kic] 32)).alloc (.cells #[.int .i64 tt.s.ru, .string tt.s.nm, .string tt.s.ot, .bool tt.s.g, .slice tt.aq tt.an tt.ac, .slice tt.cq tt.cn tt.cc, .int .i64 tt.s.kk, .int .i64 tt.s.nn, .int .i64 tt.s.pr, .int .i64 tt.e.k, .int .i64 tt.e.f, .bool tt.e.neg, .slice tt.e.aq tt.e.an tt.e.ac, .slice tt.e.cq tt.e.cn tt.e.cc, .string tt.e.m, .slice tt.e.sq tt.e.sn tt.e.sc, .slice tt.poq tt.pon tt.poc, .string tt.s.en, .int .i64 tt.s.ve, .slice tt.arq tt.arn tt.arc, .slice tt.kiq tt.kin tt.kic] 32)).alloc (.cells #[.int .i64 0, .string ⟨#[]⟩, .string ⟨#[]⟩, .bool false, .slice none 0 0, .slice none 0 0, .int .i64 0, .int .i64 0, .int .i64 0, .int .i64 0, .int .i64 0, .bool false, .slice none 0 0, .slice none 0 0, .string ⟨#[]⟩, .slice none 0 0, .slice none 0 0, .string ⟨#[]⟩, .int .i64 0, .slice none 0 0, .slice none 0 0] 32)).rangeAt w.heap.size 0 d.cells) := World.rangeAt_alloc (World.rangeAt_alloc (range_new w d.cells 32) _) _
  have htt : Hid ((((w.alloc (.cells #[.int .i64 d.s.ru, .string d.s.nm, .string d.s.ot, .bool d.s.g, .slice d.aq d.an d.ac, .slice d.cq d.cn d.cc, .int .i64 d.s.kk, .int .i64 d.s.nn, .int .i64 d.s.pr, .int .i64 d.e.k, .int .i64 d.e.f, .bool d.e.neg, .slice d.e.aq d.e.an d.e.ac, .slice d.e.cq d.e.cn d.e.cc, .string d.e.m, .slice d.e.sq d.e.sn d.e.sc, .slice d.poq d.pon d.poc, .string d.s.en, .int .i64 d.s.ve, .slice d.arq d.arn d.arc, .slice d.kiq d.kin d.kic] 32)).alloc (.cells #[.int .i64 tt.s.ru, .string tt.s.nm, .string tt.s.ot, .bool tt.s.g, .slice tt.aq tt.an tt.ac, .slice tt.cq tt.cn tt.cc, .int .i64 tt.s.kk, .int .i64 tt.s.nn, .int .i64 tt.s.pr, .int .i64 tt.e.k, .int .i64 tt.e.f, .bool tt.e.neg, .slice tt.e.aq tt.e.an tt.e.ac, .slice tt.e.cq tt.e.cn tt.e.cc, .string tt.e.m, .slice tt.e.sq tt.e.sn tt.e.sc, .slice tt.poq tt.pon tt.poc, .string tt.s.en, .int .i64 tt.s.ve, .slice tt.arq tt.arn tt.arc, .slice tt.kiq tt.kin tt.kic] 32)).alloc (.cells #[.int .i64 0, .string ⟨#[]⟩, .string ⟨#[]⟩, .bool false, .slice none 0 0, .slice none 0 0, .int .i64 0, .int .i64 0, .int .i64 0, .int .i64 0, .int .i64 0, .bool false, .slice none 0 0, .slice none 0 0, .string ⟨#[]⟩, .slice none 0 0, .slice none 0 0, .string ⟨#[]⟩, .int .i64 0, .slice none 0 0, .slice none 0 0] 32)).rangeAt (w.heap.size + 1) 0 tt.cells) := World.rangeAt_alloc (range_two w _ tt.cells 32) _
  have hth : Hid ((((w.alloc (.cells #[.int .i64 d.s.ru, .string d.s.nm, .string d.s.ot, .bool d.s.g, .slice d.aq d.an d.ac, .slice d.cq d.cn d.cc, .int .i64 d.s.kk, .int .i64 d.s.nn, .int .i64 d.s.pr, .int .i64 d.e.k, .int .i64 d.e.f, .bool d.e.neg, .slice d.e.aq d.e.an d.e.ac, .slice d.e.cq d.e.cn d.e.cc, .string d.e.m, .slice d.e.sq d.e.sn d.e.sc, .slice d.poq d.pon d.poc, .string d.s.en, .int .i64 d.s.ve, .slice d.arq d.arn d.arc, .slice d.kiq d.kin d.kic] 32)).alloc (.cells #[.int .i64 tt.s.ru, .string tt.s.nm, .string tt.s.ot, .bool tt.s.g, .slice tt.aq tt.an tt.ac, .slice tt.cq tt.cn tt.cc, .int .i64 tt.s.kk, .int .i64 tt.s.nn, .int .i64 tt.s.pr, .int .i64 tt.e.k, .int .i64 tt.e.f, .bool tt.e.neg, .slice tt.e.aq tt.e.an tt.e.ac, .slice tt.e.cq tt.e.cn tt.e.cc, .string tt.e.m, .slice tt.e.sq tt.e.sn tt.e.sc, .slice tt.poq tt.pon tt.poc, .string tt.s.en, .int .i64 tt.s.ve, .slice tt.arq tt.arn tt.arc, .slice tt.kiq tt.kin tt.kic] 32)).alloc (.cells #[.int .i64 0, .string ⟨#[]⟩, .string ⟨#[]⟩, .bool false, .slice none 0 0, .slice none 0 0, .int .i64 0, .int .i64 0, .int .i64 0, .int .i64 0, .int .i64 0, .bool false, .slice none 0 0, .slice none 0 0, .string ⟨#[]⟩, .slice none 0 0, .slice none 0 0, .string ⟨#[]⟩, .int .i64 0, .slice none 0 0, .slice none 0 0] 32)).there (w.heap.size + 2) 0 21) := by
    have h := there_of_block (heap_alloc_last ((w.alloc (.cells #[.int .i64 d.s.ru, .string d.s.nm, .string d.s.ot, .bool d.s.g, .slice d.aq d.an d.ac, .slice d.cq d.cn d.cc, .int .i64 d.s.kk, .int .i64 d.s.nn, .int .i64 d.s.pr, .int .i64 d.e.k, .int .i64 d.e.f, .bool d.e.neg, .slice d.e.aq d.e.an d.e.ac, .slice d.e.cq d.e.cn d.e.cc, .string d.e.m, .slice d.e.sq d.e.sn d.e.sc, .slice d.poq d.pon d.poc, .string d.s.en, .int .i64 d.s.ve, .slice d.arq d.arn d.arc, .slice d.kiq d.kin d.kic] 32)).alloc (.cells #[.int .i64 tt.s.ru, .string tt.s.nm, .string tt.s.ot, .bool tt.s.g, .slice tt.aq tt.an tt.ac, .slice tt.cq tt.cn tt.cc, .int .i64 tt.s.kk, .int .i64 tt.s.nn, .int .i64 tt.s.pr, .int .i64 tt.e.k, .int .i64 tt.e.f, .bool tt.e.neg, .slice tt.e.aq tt.e.an tt.e.ac, .slice tt.e.cq tt.e.cn tt.e.cc, .string tt.e.m, .slice tt.e.sq tt.e.sn tt.e.sc, .slice tt.poq tt.pon tt.poc, .string tt.s.en, .int .i64 tt.s.ve, .slice tt.arq tt.arn tt.arc, .slice tt.kiq tt.kin tt.kic] 32)) (.cells #[.int .i64 0, .string ⟨#[]⟩, .string ⟨#[]⟩, .bool false, .slice none 0 0, .slice none 0 0, .int .i64 0, .int .i64 0, .int .i64 0, .int .i64 0, .int .i64 0, .bool false, .slice none 0 0, .slice none 0 0, .string ⟨#[]⟩, .slice none 0 0, .slice none 0 0, .string ⟨#[]⟩, .int .i64 0, .slice none 0 0, .slice none 0 0] 32 (0, 0))) (n := 21) rfl
    rw [show ((w.alloc (.cells #[.int .i64 d.s.ru, .string d.s.nm, .string d.s.ot, .bool d.s.g, .slice d.aq d.an d.ac, .slice d.cq d.cn d.cc, .int .i64 d.s.kk, .int .i64 d.s.nn, .int .i64 d.s.pr, .int .i64 d.e.k, .int .i64 d.e.f, .bool d.e.neg, .slice d.e.aq d.e.an d.e.ac, .slice d.e.cq d.e.cn d.e.cc, .string d.e.m, .slice d.e.sq d.e.sn d.e.sc, .slice d.poq d.pon d.poc, .string d.s.en, .int .i64 d.s.ve, .slice d.arq d.arn d.arc, .slice d.kiq d.kin d.kic] 32)).alloc (.cells #[.int .i64 tt.s.ru, .string tt.s.nm, .string tt.s.ot, .bool tt.s.g, .slice tt.aq tt.an tt.ac, .slice tt.cq tt.cn tt.cc, .int .i64 tt.s.kk, .int .i64 tt.s.nn, .int .i64 tt.s.pr, .int .i64 tt.e.k, .int .i64 tt.e.f, .bool tt.e.neg, .slice tt.e.aq tt.e.an tt.e.ac, .slice tt.e.cq tt.e.cn tt.e.cc, .string tt.e.m, .slice tt.e.sq tt.e.sn tt.e.sc, .slice tt.poq tt.pon tt.poc, .string tt.s.en, .int .i64 tt.s.ve, .slice tt.arq tt.arn tt.arc, .slice tt.kiq tt.kin tt.kic] 32)).heap.size = w.heap.size + 2 by simp] at h
    exact h
  go_enter Tryz.func14, Tryz.ntmps14
  go_wp2_with (first
    | (with_reducible refine wpList_load_mid (op := ⟨some 11, _, _, _, _, _⟩) ?_ 32 (.tmp 3) ?_ (w.heap.size) 0 ?_ d.cells dd ?_ hHu.out hd ?_ ?_
       rotate_left 1
       · with_reducible rfl
       · kernel_rfl
       · exact hdd.out
       · exact st_size
       rotate_left 1
       · rfl)
    | (go_at_call 12; with_reducible refine (hP _ ?_).mono ?_; exact h3; rintro e w5 ⟨y, rfl, hb5⟩
       have hs5 := hb5.size
       have ht5 : Hid (w5.there (w.heap.size + 2) 0 21) := there_below hth.out hb5 (by omega)
       have hd5 : Hid (w5.rangeAt w.heap.size 0 d.cells) := rangeAt_below hdd.out hb5 (by omega)
       have htt5 : Hid (w5.rangeAt (w.heap.size + 1) 0 tt.cells) := rangeAt_below htt.out hb5 (by omega)
       have hW5 := h3.trans (hb5.mono h3.size))
    | (with_reducible refine wpList_store_new ?_ 32 (.tmp 8) (.tmp 14) ?_ y.cells.toArray (w5.heap.size) rfl ?_ ?_ ?_ ?_ ?_ ?_
       rotate_left 1
       · with_reducible rfl
       · rfl
       · rfl
       · rfl
       · exact st_size
       · exact y.one
       rotate_left 1
       · rfl)
    | (with_reducible refine wpList_load_mid (op := ⟨some 19, _, _, _, _, _⟩) ?_ 32 (.tmp 3) ?_ (w.heap.size) 0 ?_ d.cells dd ?_ hHu.out hd ?_ ?_
       rotate_left 1
       · with_reducible rfl
       · kernel_rfl
       · exact World.rangeAt_alloc hd5.out _
       · exact st_size
       rotate_left 1
       · rfl)
    | (with_reducible refine wpList_load_mid (op := ⟨some 21, _, _, _, _, _⟩) ?_ 32 (.tmp 5) ?_ (w.heap.size + 1) 0 ?_ tt.cells dd ?_ hHu.out hd ?_ ?_
       rotate_left 1
       · with_reducible rfl
       · kernel_rfl
       · exact World.rangeAt_alloc htt5.out _
       · exact st_size
       rotate_left 1
       · rfl)
    | (go_at_call 36; with_reducible refine (hG _ ?_).mono ?_; exact hW5.alloc (by omega) _; rintro e w7 ⟨d', rfl, hA7, hb7⟩
       have hs6 : (w5.alloc (.cells y.cells.toArray 32)).heap.size = w5.heap.size + 1 := by simp
       have hs7 := hb7.size
       have ht7 : Hid (w7.there (w.heap.size + 2) 0 21) := there_below (World.there_alloc ht5.out _) hb7 (by omega)
       have hW7 := (hW5.alloc (by omega) _).trans (hb7.mono (by omega : w.heap.size ≤ (w5.alloc (.cells y.cells.toArray 32)).heap.size)))
    | (with_reducible refine wpList_store_mid ?_ 32 (.tmp 6) (.tmp 22) ?_ (w.heap.size + 2) 0 d'.cells.toArray ?_ ?_ ?_ ?_ ?_ ?_
       rotate_left 1
       · with_reducible rfl
       · rfl
       · rfl
       · exact ht7.out
       · exact st_size
       · exact d'.one
       rotate_left 1
       · rfl))
  obtain ⟨hW8, hs8, hb8⟩ := setCells_facts w.heap.size (w.heap.size + 2) (by omega) d'.cells 0 w w7 hW7
  have hr8 := World.rangeAt_setCells_same w7 (w.heap.size + 2) 0 d'.cells ht7.out
  change bodyPost _ _ _ _ _ (w7.setCells (w.heap.size + 2) 0 d'.cells)
  generalize w7.setCells (w.heap.size + 2) 0 d'.cells = w8 at *
  refine bodyPost_ret (results_cell_tmp_mid rfl _ _ (w.heap.size + 2) _ dd rfl hr8 hHu.out hd st_size) rfl ?_
  exact ⟨d', rfl, hA7.keep (fun b hb => hb8 b (by have := hb.1; omega)) (fun b hb => ⟨by have := hb.1; omega, by have := hb.2; omega⟩), hW8⟩
end Go.Proofs.YtlmifjdbjhcceaaGreatDoor

namespace Go.Proofs.YtlmifjdbjhcceaaGreatDoor
open Go Go.RowKit

section
variable {H : Type} {enc : TypeId × Value → H} {w : World} {spare : Nat → Bool} {held : Bool} {B : DataW H → Nat}

/-- An expression, opened. -/
theorem open_exprS (hB : Bk B) : ∀ (fuel : Nat) (cs : List Value) (x : DataW H × List MemPlace), B x.1 ≤ 1048576 → DataW.trod enc Tryz.prog w 0 spare held fuel 27 cs = some x →
    ∃ (X : Ex) (d : Nd), cs = [.int .i64 d.k, .int .i64 d.f, .bool d.neg, .slice d.aq d.an d.ac, .slice d.cq d.cn d.cc, .string d.m, .slice d.sq d.sn d.sc] ∧ ExOk w X d ∧ ExSmall X := by
  intro fuel
  induction fuel using Nat.strongRecOn with
  | _ fuel ih =>
  intro cs x hx h
  obtain ⟨xs, n, hn, rfl, hl, hxl, hf⟩ := DataW.trod_struct Tryz.underlying27 h
  rw [c27] at hl
  have hxl' : xs.length = 5 := hxl
  clear hxl
  obtain ⟨a0, cs0r, rfl, hl0⟩ := list_cons (n := 6) hl
  obtain ⟨a1, cs1r, rfl, hl1⟩ := list_cons (n := 5) hl0
  obtain ⟨a2, cs2r, rfl, hl2⟩ := list_cons (n := 4) hl1
  obtain ⟨a3, cs3r, rfl, hl3⟩ := list_cons (n := 3) hl2
  obtain ⟨a4, cs4r, rfl, hl4⟩ := list_cons (n := 2) hl3
  obtain ⟨a5, cs5r, rfl, hl5⟩ := list_cons (n := 1) hl4
  obtain ⟨a6, cs6r, rfl, hl6⟩ := list_cons (n := 0) hl5
  obtain rfl := List.length_eq_zero_iff.1 hl6
  obtain ⟨y0, xs0r, rfl, hxl'0⟩ := list_cons (n := 4) hxl'
  obtain ⟨y1, xs1r, rfl, hxl'1⟩ := list_cons (n := 3) hxl'0
  obtain ⟨y2, xs2r, rfl, hxl'2⟩ := list_cons (n := 2) hxl'1
  obtain ⟨y3, xs3r, rfl, hxl'3⟩ := list_cons (n := 1) hxl'2
  obtain ⟨y4, xs4r, rfl, hxl'4⟩ := list_cons (n := 0) hxl'3
  obtain rfl := List.length_eq_zero_iff.1 hxl'4
  have h0 : DataW.trod enc Tryz.prog w 0 spare held n 3 [a0] = some y0 := by have := hf 0 _ rfl; simpa [c3] using this
  have h1 : DataW.trod enc Tryz.prog w 0 spare held n 3 [a1] = some y1 := by have := hf 1 _ rfl; simpa [c3] using this
  have h2 : DataW.trod enc Tryz.prog w 0 spare held n 24 [a2, a3, a4] = some y2 := by have := hf 2 _ rfl; simpa [c24] using this
  have h3 : DataW.trod enc Tryz.prog w 0 spare held n 9 [a5] = some y3 := by have := hf 3 _ rfl; simpa [c9] using this
  have h4 : DataW.trod enc Tryz.prog w 0 spare held n 25 [a6] = some y4 := by have := hf 4 _ rfl; simpa [c25] using this
  have b2 : B y2.1 ≤ 1048576 := Nat.le_trans (hB.ag _ _ (by simp)) hx
  have b4 : B y4.1 ≤ 1048576 := Nat.le_trans (hB.ag _ _ (by simp)) hx
  obtain ⟨k, e0, _⟩ := DataW.trod_int Tryz.underlying3 h0
  obtain ⟨f, e1, _⟩ := DataW.trod_int Tryz.underlying3 h1
  obtain ⟨g, q, m, c, q', m', c', nu, de, e2, s1, s2, l1, l2⟩ := open_rat hB b2 h2
  obtain ⟨s, e3, _⟩ := DataW.trod_string Tryz.underlying9 h3
  obtain ⟨sq, sn, sc, e4, _, hbn, hel⟩ := open_slice Tryz.underlying25 c27 (by decide) h4
  simp only [List.cons.injEq, and_true] at e0 e1 e2 e3 e4
  obtain ⟨e2, e5, e6⟩ := e2
  subst e0 e1 e2 e3 e4 e5 e6
  have hsn : sn ≤ 1048576 := Nat.le_trans (hbn B hB) b4
  rcases hel with rfl | ⟨b, o, rfl, hlt, hel⟩
  · exact ⟨.mk k f g nu de s 0 (fun _ => .non), ⟨k, f, g, q, m, c, q', m', c', s, sq, 0, sc⟩, rfl, ⟨⟨rfl, rfl, rfl, rfl, rfl⟩, s1, s2, l1, l2, by omega, .inl rfl⟩, ⟨by omega, fun i hi => by omega⟩⟩
  · have hp : ∀ i, i < sn → ∃ p : Ex × Nd, (NdAt w b (o + i * 7) p.2 ∧ ExOk w p.1 p.2) ∧ ExSmall p.1 := by
      intro i hi
      obtain ⟨ces, y, m1, hm1, hr, _, ht, hby⟩ := hel i hi
      obtain ⟨X, d, rfl, hok, hsm⟩ := ih m1 (by omega) ces y (Nat.le_trans (hby B hB) b4) ht
      exact ⟨(X, d), ⟨⟨hr 0 _ rfl, hr 1 _ rfl, hr 2 _ rfl, hr 3 _ rfl, hr 4 _ rfl, hr 5 _ rfl, hr 6 _ rfl⟩, hok⟩, hsm⟩
    obtain ⟨F, hF⟩ := pick hp
    exact ⟨.mk k f g nu de s sn (fun i => (F i).1), ⟨k, f, g, q, m, c, q', m', c', s, some ⟨b, o, none⟩, sn, sc⟩, rfl, ⟨⟨rfl, rfl, rfl, rfl, rfl⟩, s1, s2, l1, l2, by omega, .inr ⟨b, o, rfl, hlt, fun i => (F i).2, fun i hi => (hF i hi).1⟩⟩, ⟨hsn, fun i hi => (hF i hi).2⟩⟩

/-- A list of points, opened. -/
theorem open_pointsS (hB : Bk B) {fuel : Nat} {cs : List Value} {x : DataW H × List MemPlace} (hx : B x.1 ≤ 1048576) (h : DataW.trod enc Tryz.prog w 0 spare held fuel 28 cs = some x) :
    ∃ q n c ps, cs = [.slice q n c] ∧ PtsOk w q n ps ∧ n ≤ 1048576 := by
  obtain ⟨q, n, c, rfl, _, hbn, hel⟩ := open_slice Tryz.underlying28 c62 (by decide) h
  have hn : n ≤ 1048576 := Nat.le_trans (hbn B hB) hx
  rcases hel with rfl | ⟨b, o, rfl, hlt, hel⟩
  · exact ⟨q, 0, c, default, rfl, ⟨by omega, .inl rfl⟩, by omega⟩
  · have hp : ∀ i, i < n → ∃ p : Pt × Va, VaAt w b (o + i * 4) p.2 ∧ PtOk w p.1 p.2 := by
      intro i hi
      obtain ⟨ces, y, m1, hm1, hr, hlc, ht, hby⟩ := hel i hi
      have hy := Nat.le_trans (hby B hB) hx
      obtain ⟨xs, n1, _, rfl, hl, hxl, hf⟩ := DataW.trod_struct Tryz.underlying62 ht
      have hxl' : xs.length = 2 := hxl
      clear hxl
      obtain ⟨a0, ces0r, rfl, hlc0⟩ := list_cons (n := 3) hlc
      obtain ⟨a1, ces1r, rfl, hlc1⟩ := list_cons (n := 2) hlc0
      obtain ⟨a2, ces2r, rfl, hlc2⟩ := list_cons (n := 1) hlc1
      obtain ⟨a3, ces3r, rfl, hlc3⟩ := list_cons (n := 0) hlc2
      obtain rfl := List.length_eq_zero_iff.1 hlc3
      obtain ⟨y0, xs0r, rfl, hxl'0⟩ := list_cons (n := 1) hxl'
      obtain ⟨y1, xs1r, rfl, hxl'1⟩ := list_cons (n := 0) hxl'0
      obtain rfl := List.length_eq_zero_iff.1 hxl'1
      have h0 : DataW.trod enc Tryz.prog w 0 spare held n1 9 [a0] = some y0 := by have := hf 0 _ rfl; simpa [c9] using this
      have h1 : DataW.trod enc Tryz.prog w 0 spare held n1 24 [a1, a2, a3] = some y1 := by have := hf 1 _ rfl; simpa [c24] using this
      have b1 : B y1.1 ≤ 1048576 := Nat.le_trans (hB.ag _ _ (by simp)) hy
      obtain ⟨s, e0, _⟩ := DataW.trod_string Tryz.underlying9 h0
      obtain ⟨g, q, m, c, q', m', c', nu, de, e2, s1, s2, l1, l2⟩ := open_rat hB b1 h1
      simp only [List.cons.injEq, and_true] at e0 e2
      obtain ⟨e2, e5, e6⟩ := e2
      subst e0 e2 e5 e6
      exact ⟨(⟨s, g, nu, de⟩, ⟨s, g, q, m, c, q', m', c'⟩), ⟨hr 0 _ rfl, hr 1 _ rfl, hr 2 _ rfl, hr 3 _ rfl⟩, rfl, rfl, s1, s2, l1, l2⟩
    obtain ⟨F, hF⟩ := pick hp
    exact ⟨_, n, c, fun i => (F i).1, rfl, ⟨by omega, .inr ⟨b, o, rfl, hlt, fun i => (F i).2, fun i hi => hF i hi⟩⟩, hn⟩

/-- A list of binds, opened. -/
theorem open_bindsS (hB : Bk B) {fuel : Nat} {cs : List Value} {x : DataW H × List MemPlace} (hx : B x.1 ≤ 1048576) (h : DataW.trod enc Tryz.prog w 0 spare held fuel 29 cs = some x) :
    ∃ q n c ps, cs = [.slice q n c] ∧ BdsOk w q n ps ∧ n ≤ 1048576 ∧ ∀ i, i < n → ExSmall (ps i).x := by
  obtain ⟨q, n, c, rfl, _, hbn, hel⟩ := open_slice Tryz.underlying29 c65 (by decide) h
  have hn : n ≤ 1048576 := Nat.le_trans (hbn B hB) hx
  rcases hel with rfl | ⟨b, o, rfl, hlt, hel⟩
  · exact ⟨q, 0, c, default, rfl, ⟨by omega, .inl rfl⟩, by omega, fun i hi => by omega⟩
  · have hp : ∀ i, i < n → ∃ p : Bd × Bi, (BiAt w b (o + i * 8) p.2 ∧ BdOk w p.1 p.2) ∧ ExSmall p.1.x := by
      intro i hi
      obtain ⟨ces, y, m1, hm1, hr, hlc, ht, hby⟩ := hel i hi
      have hy := Nat.le_trans (hby B hB) hx
      obtain ⟨xs, n1, _, rfl, hl, hxl, hf⟩ := DataW.trod_struct Tryz.underlying65 ht
      have hxl' : xs.length = 2 := hxl
      clear hxl
      obtain ⟨a0, ces0r, rfl, hlc0⟩ := list_cons (n := 7) hlc
      obtain ⟨a1, ces1r, rfl, hlc1⟩ := list_cons (n := 6) hlc0
      obtain ⟨a2, ces2r, rfl, hlc2⟩ := list_cons (n := 5) hlc1
      obtain ⟨a3, ces3r, rfl, hlc3⟩ := list_cons (n := 4) hlc2
      obtain ⟨a4, ces4r, rfl, hlc4⟩ := list_cons (n := 3) hlc3
      obtain ⟨a5, ces5r, rfl, hlc5⟩ := list_cons (n := 2) hlc4
      obtain ⟨a6, ces6r, rfl, hlc6⟩ := list_cons (n := 1) hlc5
      obtain ⟨a7, ces7r, rfl, hlc7⟩ := list_cons (n := 0) hlc6
      obtain rfl := List.length_eq_zero_iff.1 hlc7
      obtain ⟨y0, xs0r, rfl, hxl'0⟩ := list_cons (n := 1) hxl'
      obtain ⟨y1, xs1r, rfl, hxl'1⟩ := list_cons (n := 0) hxl'0
      obtain rfl := List.length_eq_zero_iff.1 hxl'1
      have h0 : DataW.trod enc Tryz.prog w 0 spare held n1 9 [a0] = some y0 := by have := hf 0 _ rfl; simpa [c9] using this
      have h1 : DataW.trod enc Tryz.prog w 0 spare held n1 27 [a1, a2, a3, a4, a5, a6, a7] = some y1 := by have := hf 1 _ rfl; simpa [c27] using this
      have b1 : B y1.1 ≤ 1048576 := Nat.le_trans (hB.ag _ _ (by simp)) hy
      obtain ⟨s, e0, _⟩ := DataW.trod_string Tryz.underlying9 h0
      obtain ⟨X, d, e1, hok, hsm⟩ := open_exprS hB n1 _ y1 b1 h1
      simp only [List.cons.injEq, and_true] at e0 e1
      obtain ⟨e1, e2, e3, e4, e5, e6, e7⟩ := e1
      subst e0 e1 e2 e3 e4 e5 e6 e7
      exact ⟨(⟨s, X⟩, ⟨s, d.k, d.f, d.neg, d.aq, d.an, d.ac, d.cq, d.cn, d.cc, d.m, d.sq, d.sn, d.sc⟩), ⟨⟨hr 0 _ rfl, hr 1 _ rfl, hr 2 _ rfl, hr 3 _ rfl, hr 4 _ rfl, hr 5 _ rfl, hr 6 _ rfl, hr 7 _ rfl⟩, rfl, hok⟩, hsm⟩
    obtain ⟨F, hF⟩ := pick hp
    exact ⟨_, n, c, fun i => (F i).1, rfl, ⟨by omega, .inr ⟨b, o, rfl, hlt, fun i => (F i).2, fun i hi => (hF i hi).1⟩⟩, hn, fun i hi => (hF i hi).2⟩

/-- A step, opened. -/
theorem open_stepS (hB : Bk B) : ∀ (fuel : Nat) (cs : List Value) (x : DataW H × List MemPlace), B x.1 ≤ 1048576 → DataW.trod enc Tryz.prog w 0 spare held fuel 32 cs = some x →
    ∃ (X : St) (d : Sd), cs = d.cells ∧ StOk w X d ∧ StSmall X := by
  intro fuel
  induction fuel using Nat.strongRecOn with
  | _ fuel ih =>
  intro cs x hx h
  obtain ⟨xs, n, hn, rfl, hl, hxl, hf⟩ := DataW.trod_struct Tryz.underlying32 h
  rw [c32] at hl
  have hxl' : xs.length = 13 := hxl
  clear hxl
  obtain ⟨a0, cs0r, rfl, hl0⟩ := list_cons (n := 20) hl
  obtain ⟨a1, cs1r, rfl, hl1⟩ := list_cons (n := 19) hl0
  obtain ⟨a2, cs2r, rfl, hl2⟩ := list_cons (n := 18) hl1
  obtain ⟨a3, cs3r, rfl, hl3⟩ := list_cons (n := 17) hl2
  obtain ⟨a4, cs4r, rfl, hl4⟩ := list_cons (n := 16) hl3
  obtain ⟨a5, cs5r, rfl, hl5⟩ := list_cons (n := 15) hl4
  obtain ⟨a6, cs6r, rfl, hl6⟩ := list_cons (n := 14) hl5
  obtain ⟨a7, cs7r, rfl, hl7⟩ := list_cons (n := 13) hl6
  obtain ⟨a8, cs8r, rfl, hl8⟩ := list_cons (n := 12) hl7
  obtain ⟨a9, cs9r, rfl, hl9⟩ := list_cons (n := 11) hl8
  obtain ⟨a10, cs10r, rfl, hl10⟩ := list_cons (n := 10) hl9
  obtain ⟨a11, cs11r, rfl, hl11⟩ := list_cons (n := 9) hl10
  obtain ⟨a12, cs12r, rfl, hl12⟩ := list_cons (n := 8) hl11
  obtain ⟨a13, cs13r, rfl, hl13⟩ := list_cons (n := 7) hl12
  obtain ⟨a14, cs14r, rfl, hl14⟩ := list_cons (n := 6) hl13
  obtain ⟨a15, cs15r, rfl, hl15⟩ := list_cons (n := 5) hl14
  obtain ⟨a16, cs16r, rfl, hl16⟩ := list_cons (n := 4) hl15
  obtain ⟨a17, cs17r, rfl, hl17⟩ := list_cons (n := 3) hl16
  obtain ⟨a18, cs18r, rfl, hl18⟩ := list_cons (n := 2) hl17
  obtain ⟨a19, cs19r, rfl, hl19⟩ := list_cons (n := 1) hl18
  obtain ⟨a20, cs20r, rfl, hl20⟩ := list_cons (n := 0) hl19
  obtain rfl := List.length_eq_zero_iff.1 hl20
  obtain ⟨y0, xs0r, rfl, hxl'0⟩ := list_cons (n := 12) hxl'
  obtain ⟨y1, xs1r, rfl, hxl'1⟩ := list_cons (n := 11) hxl'0
  obtain ⟨y2, xs2r, rfl, hxl'2⟩ := list_cons (n := 10) hxl'1
  obtain ⟨y3, xs3r, rfl, hxl'3⟩ := list_cons (n := 9) hxl'2
  obtain ⟨y4, xs4r, rfl, hxl'4⟩ := list_cons (n := 8) hxl'3
  obtain ⟨y5, xs5r, rfl, hxl'5⟩ := list_cons (n := 7) hxl'4
  obtain ⟨y6, xs6r, rfl, hxl'6⟩ := list_cons (n := 6) hxl'5
  obtain ⟨y7, xs7r, rfl, hxl'7⟩ := list_cons (n := 5) hxl'6
  obtain ⟨y8, xs8r, rfl, hxl'8⟩ := list_cons (n := 4) hxl'7
  obtain ⟨y9, xs9r, rfl, hxl'9⟩ := list_cons (n := 3) hxl'8
  obtain ⟨y10, xs10r, rfl, hxl'10⟩ := list_cons (n := 2) hxl'9
  obtain ⟨y11, xs11r, rfl, hxl'11⟩ := list_cons (n := 1) hxl'10
  obtain ⟨y12, xs12r, rfl, hxl'12⟩ := list_cons (n := 0) hxl'11
  obtain rfl := List.length_eq_zero_iff.1 hxl'12
  have h0 : DataW.trod enc Tryz.prog w 0 spare held n 3 [a0] = some y0 := by have := hf 0 _ rfl; simpa [c3] using this
  have h1 : DataW.trod enc Tryz.prog w 0 spare held n 9 [a1] = some y1 := by have := hf 1 _ rfl; simpa [c9] using this
  have h2 : DataW.trod enc Tryz.prog w 0 spare held n 9 [a2] = some y2 := by have := hf 2 _ rfl; simpa [c9] using this
  have h3 : DataW.trod enc Tryz.prog w 0 spare held n 24 [a3, a4, a5] = some y3 := by have := hf 3 _ rfl; simpa [c24] using this
  have h4 : DataW.trod enc Tryz.prog w 0 spare held n 3 [a6] = some y4 := by have := hf 4 _ rfl; simpa [c3] using this
  have h5 : DataW.trod enc Tryz.prog w 0 spare held n 3 [a7] = some y5 := by have := hf 5 _ rfl; simpa [c3] using this
  have h6 : DataW.trod enc Tryz.prog w 0 spare held n 3 [a8] = some y6 := by have := hf 6 _ rfl; simpa [c3] using this
  have h7 : DataW.trod enc Tryz.prog w 0 spare held n 27 [a9, a10, a11, a12, a13, a14, a15] = some y7 := by have := hf 7 _ rfl; simpa [c27] using this
  have h8 : DataW.trod enc Tryz.prog w 0 spare held n 28 [a16] = some y8 := by have := hf 8 _ rfl; simpa [c28] using this
  have h9 : DataW.trod enc Tryz.prog w 0 spare held n 9 [a17] = some y9 := by have := hf 9 _ rfl; simpa [c9] using this
  have h10 : DataW.trod enc Tryz.prog w 0 spare held n 3 [a18] = some y10 := by have := hf 10 _ rfl; simpa [c3] using this
  have h11 : DataW.trod enc Tryz.prog w 0 spare held n 29 [a19] = some y11 := by have := hf 11 _ rfl; simpa [c29] using this
  have h12 : DataW.trod enc Tryz.prog w 0 spare held n 30 [a20] = some y12 := by have := hf 12 _ rfl; simpa [c30] using this
  have b3 : B y3.1 ≤ 1048576 := Nat.le_trans (hB.ag _ _ (by simp)) hx
  have b7 : B y7.1 ≤ 1048576 := Nat.le_trans (hB.ag _ _ (by simp)) hx
  have b8 : B y8.1 ≤ 1048576 := Nat.le_trans (hB.ag _ _ (by simp)) hx
  have b11 : B y11.1 ≤ 1048576 := Nat.le_trans (hB.ag _ _ (by simp)) hx
  have b12 : B y12.1 ≤ 1048576 := Nat.le_trans (hB.ag _ _ (by simp)) hx
  obtain ⟨ru, e0, _⟩ := DataW.trod_int Tryz.underlying3 h0
  obtain ⟨nm, e1, _⟩ := DataW.trod_string Tryz.underlying9 h1
  obtain ⟨ot, e2, _⟩ := DataW.trod_string Tryz.underlying9 h2
  obtain ⟨g, aq, an, ac, cq, cn, cc, nu, de, e3, s1, s2, l1, l2⟩ := open_rat hB b3 h3
  obtain ⟨kk, e4, _⟩ := DataW.trod_int Tryz.underlying3 h4
  obtain ⟨nn, e5, _⟩ := DataW.trod_int Tryz.underlying3 h5
  obtain ⟨pr, e6, _⟩ := DataW.trod_int Tryz.underlying3 h6
  obtain ⟨X, d, e7, hX, hXs⟩ := open_exprS hB n _ y7 b7 h7
  obtain ⟨pq, pn, pc, ps, e8, hP, hPn⟩ := open_pointsS hB b8 h8
  obtain ⟨en, e9, _⟩ := DataW.trod_string Tryz.underlying9 h9
  obtain ⟨ve, e10, _⟩ := DataW.trod_int Tryz.underlying3 h10
  obtain ⟨bq, bn, bc, bs, e11, hD, hDn, hDs⟩ := open_bindsS hB b11 h11
  obtain ⟨kq, kn, kc, e12, _, hbn, hel⟩ := open_slice Tryz.underlying30 c32 (by decide) h12
  simp only [List.cons.injEq, and_true] at e0 e1 e2 e3 e4 e5 e6 e7 e8 e9 e10 e11 e12
  obtain ⟨e3, e3b, e3c⟩ := e3
  obtain ⟨f1, f2, f3, f4, f5, f6, f7⟩ := e7
  subst e0 e1 e2 e3 e3b e3c e4 e5 e6 f1 f2 f3 f4 f5 f6 f7 e8 e9 e10 e11 e12
  have hkn : kn ≤ 1048576 := Nat.le_trans (hbn B hB) b12
  rcases hel with rfl | ⟨b, o, rfl, hlt, hel⟩
  · exact ⟨.mk ⟨ru, nm, ot, g, kk, nn, pr, en, ve⟩ nu de X pn ps bn bs 0 (fun _ => .non), ⟨⟨ru, nm, ot, g, kk, nn, pr, en, ve⟩, aq, an, ac, cq, cn, cc, d, pq, pn, pc, bq, bn, bc, kq, 0, kc⟩, rfl,
      ⟨⟨rfl, rfl, rfl, rfl⟩, s1, s2, l1, l2, hX, hP, hD, by omega, .inl rfl⟩, ⟨hXs, hPn, hDn, hDs, by omega, fun i hi => by omega⟩⟩
  · have hp : ∀ i, i < kn → ∃ p : St × Sd, (w.rangeAt b (o + i * 21) p.2.cells ∧ StOk w p.1 p.2) ∧ StSmall p.1 := by
      intro i hi
      obtain ⟨ces, y, m1, hm1, hr, _, ht, hby⟩ := hel i hi
      obtain ⟨Y, D, rfl, hok, hsm⟩ := ih m1 (by omega) ces y (Nat.le_trans (hby B hB) b12) ht
      exact ⟨(Y, D), ⟨hr, hok⟩, hsm⟩
    obtain ⟨F, hF⟩ := pick hp
    exact ⟨.mk ⟨ru, nm, ot, g, kk, nn, pr, en, ve⟩ nu de X pn ps bn bs kn (fun i => (F i).1), ⟨⟨ru, nm, ot, g, kk, nn, pr, en, ve⟩, aq, an, ac, cq, cn, cc, d, pq, pn, pc, bq, bn, bc, some ⟨b, o, none⟩, kn, kc⟩, rfl,
      ⟨⟨rfl, rfl, rfl, rfl⟩, s1, s2, l1, l2, hX, hP, hD, by omega, .inr ⟨b, o, rfl, hlt, fun i => (F i).2, fun i hi => (hF i hi).1⟩⟩, ⟨hXs, hPn, hDn, hDs, hkn, fun i hi => (hF i hi).2⟩⟩

theorem c40 : Tryz.prog.underlying 40 = some (.slice 3) := by kernel_rfl
/-- A path, opened. -/
theorem open_path (hB : Bk B) {fuel : Nat} {cs : List Value} {x : DataW H × List MemPlace} (hx : B x.1 ≤ 1048576) (h : DataW.trod enc Tryz.prog w 0 spare held fuel 40 cs = some x) :
    ∃ q n c p, cs = [.slice q n c] ∧ PaOk w q n p ∧ n ≤ c ∧ c ≤ maxLen := by
  have hm : ∃ q n c, cs = [.slice q n c] ∧ c ≤ maxLen := by
    rcases DataW.trod_slice c40 h with ⟨rfl, _⟩ | ⟨a, len, cap, _, _, _, _, rfl, _, _, _, hc, _⟩
    · exact ⟨none, 0, 0, rfl, Nat.zero_le _⟩
    · exact ⟨some a, len, cap, rfl, hc⟩
  obtain ⟨q, n, c, rfl, hnc, hbn, hel⟩ := open_slice c40 c3 (by decide) h
  have hc : c ≤ maxLen := by
    obtain ⟨q', n', c', e, hc⟩ := hm
    simp only [List.cons.injEq, Value.slice.injEq, and_true] at e
    omega
  have hn : n ≤ 1048576 := Nat.le_trans (hbn B hB) hx
  rcases hel with rfl | ⟨b, o, rfl, hlt, hel⟩
  · exact ⟨q, 0, c, [], rfl, ⟨rfl, by omega, .inl rfl⟩, hnc, hc⟩
  · have hp : ∀ i, i < n → ∃ z : Int, w.cell? ⟨b, o + i, none⟩ = some (.int .i64 z) := by
      intro i hi
      obtain ⟨ces, y, m, _, hr, _, ht, _⟩ := hel i hi
      obtain ⟨z, rfl, _⟩ := DataW.trod_int Tryz.underlying3 ht
      have h := hr 0 _ rfl
      exact ⟨z, by simpa using h⟩
    obtain ⟨f, hf⟩ := pick hp
    refine ⟨_, n, c, (List.range n).map f, rfl, ⟨by simp, by omega, .inr ⟨b, o, rfl, hlt, fun i hi => ?_⟩⟩, hnc, hc⟩
    rw [hf i hi]
    simp [List.getD, hi]
end

theorem small_graft {T : St} (hT : StSmall T) : ∀ (p : List Int) (X : St), StSmall X → StSmall (St.graft p X T)
  | [], _, _ => hT
  | _ :: _, .non, h => h
  | i :: r, .mk s nu de x pn ps bn bs n ki, h => by
    unfold StSmall at h
    simp only [St.graft, StSmall]
    refine ⟨h.1, h.2.1, h.2.2.1, h.2.2.2.1, h.2.2.2.2.1, fun j hj => ?_⟩
    by_cases he : (j : Int) = i
    · rw [if_pos he]
      exact small_graft hT r (ki j) (h.2.2.2.2.2 j hj)
    · rw [if_neg he]
      exact h.2.2.2.2.2 j hj

/-- check.Graft where the path leads to a step. -/
theorem Graft_ok {w : World} {X Y T : St} {d tt : Sd} {q : Option Addr} {c : Nat} {p : List Int} (hX : StOk w X d) (hs : StSmall X) (hT : StOk w T tt) (hsT : StSmall T) (hp : PaOk w q p.length p) (hc : p.length ≤ c) (hm : c ≤ maxLen) (hy : X.pick p = some Y) :
    Calls Tryz.prog 14 #[d.val, .slice q p.length c, tt.val] w fun e w' => ∃ d' : Sd, e = .returned (.tuple #[d'.val, .bool true]) ∧ StOk w' (St.graft p X T) d' ∧ Below w.heap.size w w' := by
  refine (Graft_some (Z := St.graft p X T) (fun z hz => ?_) (fun z hz => graft_ok hsT p X d z q c (hX.below hz) hs (hT.below hz) (hp.below hz) hc hm)).mono ?_
  · refine (pick_ok (c := c) (hX.below hz) hs (hp.below hz)).mono ?_
    rintro e w' (⟨h, _⟩ | ⟨Z, y, _, rfl, _, _, hb⟩)
    · rw [hy] at h; cases h
    · exact ⟨y, rfl, hb⟩
  · rintro e w' ⟨d', rfl, hA, hb⟩
    exact ⟨d', rfl, hA.ok (fun b hb => hb.2), hb⟩

theorem Pick_ok {w : World} {X Y : St} {d : Sd} {q : Option Addr} {c : Nat} {p : List Int} (hX : StOk w X d) (hs : StSmall X) (hp : PaOk w q p.length p) (hy : X.pick p = some Y) :
    Calls Tryz.prog 12 #[d.val, .slice q p.length c] w fun e w' => ∃ d' : Sd, e = .returned (.tuple #[d'.val, .bool true]) ∧ StOk w' Y d' ∧ Below w.heap.size w w' := by
  refine (pick_ok (c := c) hX hs hp).mono ?_
  rintro e w' (⟨h, _⟩ | ⟨Z, y, h, rfl, _, hA, hb⟩)
  · rw [hy] at h; cases h
  · rw [hy] at h
    cases h
    exact ⟨y, rfl, hA.ok (fun b hb => hb.2), hb⟩

end Go.Proofs.YtlmifjdbjhcceaaGreatDoor
