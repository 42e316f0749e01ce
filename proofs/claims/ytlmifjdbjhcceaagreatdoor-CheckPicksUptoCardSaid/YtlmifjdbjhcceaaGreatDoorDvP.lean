/-
  The reference's Graft, one level.
-/
import Derived.Test.YtlmifjdbjhcceaaGreatDoorDvO
namespace Go.Proofs.YtlmifjdbjhcceaaGreatDoor
open Go Go.RowKit

set_option maxRecDepth 100000 in
set_option maxHeartbeats 4000000 in
/-- The reference's Graft where a kid's fails. -/
theorem rgraft_in_none {w : World} {d tt : Sd} (_Y : St) (N : Nat) (hN : N ≤ w.heap.size) (ds : Nat → Sd) (b o pb po n c i : Nat) (hi : i < d.kin) (_hkin : d.kin ≤ 1048576) (hb : b < N) (hx : ∀ j, j < d.kin → w.rangeAt b (o + j * 21) (ds j).cells)
    (hn0 : 0 < n) (_hnc : n ≤ c) (_hcm : c ≤ maxLen) (hnm : n ≤ 1099511627776) (hpb : pb < w.heap.size) (hpi : w.cell? ⟨pb, po, none⟩ = some (.int .i64 i)) (pq : Option Addr) (hpq : (if c = 1 then some (⟨pb, po, none⟩ : Addr) else some ⟨pb, po + 1, none⟩) = pq)
    (hR : ∀ z, Below w.heap.size w z → Calls Tryz.prog 15 #[.agg (ds i).cells.toArray, .slice pq (n - 1) (c - 1), .agg #[.int .i64 tt.s.ru, .string tt.s.nm, .string tt.s.ot, .bool tt.s.g, .slice tt.aq tt.an tt.ac, .slice tt.cq tt.cn tt.cc, .int .i64 tt.s.kk, .int .i64 tt.s.nn, .int .i64 tt.s.pr, .int .i64 tt.e.k, .int .i64 tt.e.f, .bool tt.e.neg, .slice tt.e.aq tt.e.an tt.e.ac, .slice tt.e.cq tt.e.cn tt.e.cc, .string tt.e.m, .slice tt.e.sq tt.e.sn tt.e.sc, .slice tt.poq tt.pon tt.poc, .string tt.s.en, .int .i64 tt.s.ve, .slice tt.arq tt.arn tt.arc, .slice tt.kiq tt.kin tt.kic]] z fun e w' => e = .returned (.tuple #[.agg #[.int .i64 0, .string ⟨#[]⟩, .string ⟨#[]⟩, .bool false, .slice none 0 0, .slice none 0 0, .int .i64 0, .int .i64 0, .int .i64 0, .int .i64 0, .int .i64 0, .bool false, .slice none 0 0, .slice none 0 0, .string ⟨#[]⟩, .slice none 0 0, .slice none 0 0, .string ⟨#[]⟩, .int .i64 0, .slice none 0 0, .slice none 0 0], .bool false]) ∧ Below z.heap.size z w') :
    Calls Tryz.prog 15 #[.agg #[.int .i64 d.s.ru, .string d.s.nm, .string d.s.ot, .bool d.s.g, .slice d.aq d.an d.ac, .slice d.cq d.cn d.cc, .int .i64 d.s.kk, .int .i64 d.s.nn, .int .i64 d.s.pr, .int .i64 d.e.k, .int .i64 d.e.f, .bool d.e.neg, .slice d.e.aq d.e.an d.e.ac, .slice d.e.cq d.e.cn d.e.cc, .string d.e.m, .slice d.e.sq d.e.sn d.e.sc, .slice d.poq d.pon d.poc, .string d.s.en, .int .i64 d.s.ve, .slice d.arq d.arn d.arc, .slice (some ⟨b, o, none⟩) d.kin d.kic], .slice (some ⟨pb, po, none⟩) n c, .agg #[.int .i64 tt.s.ru, .string tt.s.nm, .string tt.s.ot, .bool tt.s.g, .slice tt.aq tt.an tt.ac, .slice tt.cq tt.cn tt.cc, .int .i64 tt.s.kk, .int .i64 tt.s.nn, .int .i64 tt.s.pr, .int .i64 tt.e.k, .int .i64 tt.e.f, .bool tt.e.neg, .slice tt.e.aq tt.e.an tt.e.ac, .slice tt.e.cq tt.e.cn tt.e.cc, .string tt.e.m, .slice tt.e.sq tt.e.sn tt.e.sc, .slice tt.poq tt.pon tt.poc, .string tt.s.en, .int .i64 tt.s.ve, .slice tt.arq tt.arn tt.arc, .slice tt.kiq tt.kin tt.kic]] w fun e w' => e = .returned (.tuple #[.agg zeroSd.cells.toArray, .bool false]) ∧ Below w.heap.size w w' := by
  obtain ⟨dd, hu, hd⟩ := st_row
  have hHu : Hid (Tryz.prog.underlying 32 = some dd) := hu
  clear hu
  obtain ⟨h3, s3, D3, E3, T3, R3⟩ := three_new w [.int .i64 d.s.ru, .string d.s.nm, .string d.s.ot, .bool d.s.g, .slice d.aq d.an d.ac, .slice d.cq d.cn d.cc, .int .i64 d.s.kk, .int .i64 d.s.nn, .int .i64 d.s.pr, .int .i64 d.e.k, .int .i64 d.e.f, .bool d.e.neg, .slice d.e.aq d.e.an d.e.ac, .slice d.e.cq d.e.cn d.e.cc, .string d.e.m, .slice d.e.sq d.e.sn d.e.sc, .slice d.poq d.pon d.poc, .string d.s.en, .int .i64 d.s.ve, .slice d.arq d.arn d.arc, .slice (some ⟨b, o, none⟩) d.kin d.kic] [.int .i64 tt.s.ru, .string tt.s.nm, .string tt.s.ot, .bool tt.s.g, .slice tt.aq tt.an tt.ac, .slice tt.cq tt.cn tt.cc, .int .i64 tt.s.kk, .int .i64 tt.s.nn, .int .i64 tt.s.pr, .int .i64 tt.e.k, .int .i64 tt.e.f, .bool tt.e.neg, .slice tt.e.aq tt.e.an tt.e.ac, .slice tt.e.cq tt.e.cn tt.e.cc, .string tt.e.m, .slice tt.e.sq tt.e.sn tt.e.sc, .slice tt.poq tt.pon tt.poc, .string tt.s.en, .int .i64 tt.s.ve, .slice tt.arq tt.arn tt.arc, .slice tt.kiq tt.kin tt.kic] [.int .i64 0, .string ⟨#[]⟩, .string ⟨#[]⟩, .bool false, .slice none 0 0, .slice none 0 0, .int .i64 0, .int .i64 0, .int .i64 0, .int .i64 0, .int .i64 0, .bool false, .slice none 0 0, .slice none 0 0, .string ⟨#[]⟩, .slice none 0 0, .slice none 0 0, .string ⟨#[]⟩, .int .i64 0, .slice none 0 0, .slice none 0 0] rfl rfl
  have cpi : ∀ o1 o2 o3, (((w.alloc o1).alloc o2).alloc o3).cell? ⟨pb, po, none⟩ = some (.int .i64 i) := fun o1 o2 o3 => by
    rw [World.cell?_alloc_lt _ _ _ (by show pb < ((w.heap.push _).push _).size; simp only [Array.size_push]; omega), World.cell?_alloc_lt _ _ _ (by show pb < (w.heap.push _).size; simp only [Array.size_push]; omega), World.cell?_alloc_lt _ _ _ (by exact hpb)]
    exact hpi
  have k20 := D3.out 20 _ rfl
  rw [Nat.zero_add] at k20
  have hn0' : ¬ (n : Int) = 0 := by omega
  have hn1' : (0 : Int) < (n : Int) := by omega
  have hn2' : (1 : Int) ≤ (n : Int) := by omega
  have hi0' : ¬ (i : Int) < 0 := by omega
  have hi1' : ¬ (d.kin : Int) ≤ (i : Int) := by omega
  have hi2' : (i : Int) < (d.kin : Int) := by omega
  have hi3' : (0 : Int) ≤ (i : Int) := by omega
  have hxi := rangeAt_below (hx i hi) h3 (by omega)
  have lx : (ds i).cells.length = 21 := rfl
  generalize (ds i).cells = cx at *
  obtain ⟨i0, hi0, hz0, hz1, hz2⟩ := info_parts (show (Tryz.prog.info? 32).map (fun i => (i.zero, i.size, i.bytes)) = some (some (.agg #[.int .i64 0, .string ⟨#[]⟩, .string ⟨#[]⟩, .bool false, .slice none 0 0, .slice none 0 0, .int .i64 0, .int .i64 0, .int .i64 0, .int .i64 0, .int .i64 0, .bool false, .slice none 0 0, .slice none 0 0, .string ⟨#[]⟩, .slice none 0 0, .slice none 0 0, .string ⟨#[]⟩, .int .i64 0, .slice none 0 0, .slice none 0 0]), 21, 328) by kernel_rfl)
  have hxh : Hid (World.rangeAt _ b (o + i * 21) cx) := hxi
  clear hxi
  go_enter Tryz.func15, Tryz.ntmps15
  go_wp2_with fail
  try simp only [Act.put]
  generalize hw3 : World.alloc (World.alloc (World.alloc w _) _) _ = w3 at *
  have s3d : w3.drew.heap.size = w.heap.size + 3 := s3
  clear hw3 cpi
  have hT : (fun z => z.cell? ⟨w.heap.size, 20, none⟩ = some (.slice (some ⟨b, o, none⟩) d.kin d.kic) ∧ z.rangeAt (w.heap.size + 1) 0 [.int .i64 tt.s.ru, .string tt.s.nm, .string tt.s.ot, .bool tt.s.g, .slice tt.aq tt.an tt.ac, .slice tt.cq tt.cn tt.cc, .int .i64 tt.s.kk, .int .i64 tt.s.nn, .int .i64 tt.s.pr, .int .i64 tt.e.k, .int .i64 tt.e.f, .bool tt.e.neg, .slice tt.e.aq tt.e.an tt.e.ac, .slice tt.e.cq tt.e.cn tt.e.cc, .string tt.e.m, .slice tt.e.sq tt.e.sn tt.e.sc, .slice tt.poq tt.pon tt.poc, .string tt.s.en, .int .i64 tt.s.ve, .slice tt.arq tt.arn tt.arc, .slice tt.kiq tt.kin tt.kic] ∧ z.rangeAt b (o + i * 21) cx) w3 := ⟨k20, T3.out, hxh.out⟩
  refine wp_region_held_drew (S := fun z => z.cell? ⟨w.heap.size, 20, none⟩ = some (.slice (some ⟨b, o, none⟩) d.kin d.kic) ∧ z.rangeAt (w.heap.size + 1) 0 [.int .i64 tt.s.ru, .string tt.s.nm, .string tt.s.ot, .bool tt.s.g, .slice tt.aq tt.an tt.ac, .slice tt.cq tt.cn tt.cc, .int .i64 tt.s.kk, .int .i64 tt.s.nn, .int .i64 tt.s.pr, .int .i64 tt.e.k, .int .i64 tt.e.f, .bool tt.e.neg, .slice tt.e.aq tt.e.an tt.e.ac, .slice tt.e.cq tt.e.cn tt.e.cc, .string tt.e.m, .slice tt.e.sq tt.e.sn tt.e.sc, .slice tt.poq tt.pon tt.poc, .string tt.s.en, .int .i64 tt.s.ve, .slice tt.arq tt.arn tt.arc, .slice tt.kiq tt.kin tt.kic] ∧ z.rangeAt b (o + i * 21) cx) (by kernel_rfl) (by exact hT) (fun hHeld => ?_)
  refine wpAnyH_take (i := 0) (oi := ?op0x1) (v := .pointer (some ⟨w.heap.size, 20, none⟩)) ?ta0x1 ?tb0x1 ?tc0x1 ?td0x1 ?tq0x1 ?ty0x1 hHeld ?_
  case ta0x1 => rfl
  case tb0x1 => kernel_rfl
  case tc0x1 => kernel_rfl
  case td0x1 => kernel_rfl
  case tq0x1 => exact fun _ _ _ h => h
  case ty0x1 => exact Or.inl ⟨by rfl, by intro z hSz; go_simp⟩
  simp only [Act.put, List.setIfInBounds_toArray]
  refine wpAnyH_take (i := 1) (oi := ?op1x2) (v := .slice (some ⟨b, o, none⟩) d.kin d.kic) ?ta1x2 ?tb1x2 ?tc1x2 ?td1x2 ?tq1x2 ?ty1x2 hHeld ?_
  case ta1x2 => rfl
  case tb1x2 => kernel_rfl
  case tc1x2 => kernel_rfl
  case td1x2 => kernel_rfl
  case tq1x2 => exact fun _ _ _ h => h
  case ty1x2 => exact Or.inl ⟨by rfl, by intro z hSz; have hz1 := hSz.1; go_simp⟩
  simp only [Act.put]
  refine wpAnyH_take (i := 2) (oi := ?op2x3) (v := .int .i64 i) ?ta2x3 ?tb2x3 ?tc2x3 ?td2x3 ?tq2x3 ?ty2x3 hHeld ?_
  case ta2x3 => rfl
  case tb2x3 => kernel_rfl
  case tc2x3 => kernel_rfl
  case td2x3 => kernel_rfl
  case tq2x3 => exact fun _ _ _ h => h
  case ty2x3 => exact Or.inl ⟨by rfl, by intro z hSz; go_simp⟩
  simp only [Act.put]
  refine wpAnyH_take (i := 3) (oi := ?op3x4) (v := .pointer (some ⟨b, o + i * 21, none⟩)) ?ta3x4 ?tb3x4 ?tc3x4 ?td3x4 ?tq3x4 ?ty3x4 hHeld ?_
  case ta3x4 => rfl
  case tb3x4 => kernel_rfl
  case tc3x4 => kernel_rfl
  case td3x4 => kernel_rfl
  case tq3x4 => exact fun _ _ _ h => h
  case ty3x4 => exact Or.inl ⟨by rfl, by intro z hSz; go_simp⟩
  simp only [Act.put]
  refine wpAnyH_take (i := 4) (oi := ?op4x5) (v := .agg cx.toArray) ?ta4x5 ?tb4x5 ?tc4x5 ?td4x5 ?tq4x5 ?ty4x5 hHeld ?_
  case ta4x5 => rfl
  case tb4x5 => kernel_rfl
  case tc4x5 => kernel_rfl
  case td4x5 => kernel_rfl
  case tq4x5 => exact fun _ _ _ h => h
  case ty4x5 =>
    refine yieldsIf_load_mid ?tw4x5 32 (.tmp 33) ?to4x5 (b) (o + i * 21) ?tx4x5 cx dd (fun z hz => hz.2.2) hHu.out hd (by rw [lx]; exact st_size)
    case tw4x5 => kernel_rfl
    case to4x5 => rfl
    case tx4x5 => kernel_rfl
  simp only [Act.put]
  refine wpAnyH_take (i := 5) (oi := ?op5x6) (v := .slice (some ⟨pb, po, none⟩) n c) ?ta5x6 ?tb5x6 ?tc5x6 ?td5x6 ?tq5x6 ?ty5x6 hHeld ?_
  case ta5x6 => rfl
  case tb5x6 => kernel_rfl
  case tc5x6 => kernel_rfl
  case td5x6 => kernel_rfl
  case tq5x6 => exact fun _ _ _ h => h
  case ty5x6 => exact Or.inl ⟨by rfl, by intro z hSz; go_simp⟩
  simp only [Act.put]
  refine wpAnyH_take (i := 6) (oi := ?op6x7) (v := .slice pq (n - 1) (c - 1)) ?ta6x7 ?tb6x7 ?tc6x7 ?td6x7 ?tq6x7 ?ty6x7 hHeld ?_
  case ta6x7 => rfl
  case tb6x7 => kernel_rfl
  case tc6x7 => kernel_rfl
  case td6x7 => kernel_rfl
  case tq6x7 => exact fun _ _ _ h => h
  case ty6x7 => exact Or.inl ⟨by rfl, by intro z hSz; go_simp⟩
  simp only [Act.put]
  refine wpAnyH_take (i := 7) (oi := ?op7x8) (v := .agg #[.int .i64 tt.s.ru, .string tt.s.nm, .string tt.s.ot, .bool tt.s.g, .slice tt.aq tt.an tt.ac, .slice tt.cq tt.cn tt.cc, .int .i64 tt.s.kk, .int .i64 tt.s.nn, .int .i64 tt.s.pr, .int .i64 tt.e.k, .int .i64 tt.e.f, .bool tt.e.neg, .slice tt.e.aq tt.e.an tt.e.ac, .slice tt.e.cq tt.e.cn tt.e.cc, .string tt.e.m, .slice tt.e.sq tt.e.sn tt.e.sc, .slice tt.poq tt.pon tt.poc, .string tt.s.en, .int .i64 tt.s.ve, .slice tt.arq tt.arn tt.arc, .slice tt.kiq tt.kin tt.kic]) ?ta7x8 ?tb7x8 ?tc7x8 ?td7x8 ?tq7x8 ?ty7x8 hHeld ?_
  case ta7x8 => rfl
  case tb7x8 => kernel_rfl
  case tc7x8 => kernel_rfl
  case td7x8 => kernel_rfl
  case tq7x8 => exact fun _ _ _ h => h
  case ty7x8 =>
    refine yieldsIf_load_mid ?tw7x8 32 (.tmp 5) ?to7x8 (w.heap.size + 1) (0) ?tx7x8 [.int .i64 tt.s.ru, .string tt.s.nm, .string tt.s.ot, .bool tt.s.g, .slice tt.aq tt.an tt.ac, .slice tt.cq tt.cn tt.cc, .int .i64 tt.s.kk, .int .i64 tt.s.nn, .int .i64 tt.s.pr, .int .i64 tt.e.k, .int .i64 tt.e.f, .bool tt.e.neg, .slice tt.e.aq tt.e.an tt.e.ac, .slice tt.e.cq tt.e.cn tt.e.cc, .string tt.e.m, .slice tt.e.sq tt.e.sn tt.e.sc, .slice tt.poq tt.pon tt.poc, .string tt.s.en, .int .i64 tt.s.ve, .slice tt.arq tt.arn tt.arc, .slice tt.kiq tt.kin tt.kic] dd (fun z hz => hz.2.1) hHu.out hd (st_size)
    case tw7x8 => kernel_rfl
    case to7x8 => rfl
    case tx7x8 => kernel_rfl
  simp only [Act.put]
  refine wpAnyH_ready (rs := [8, 12]) (by kernel_rfl) (by simp) ?_
  refine AllReadyH.cons rfl (fun K hKK => ?_) (AllReadyH.cons rfl (fun K hKK => ?_) AllReadyH.nil)
  · go_simp
    refine (hR _ h3.drew).mono ?_
    rintro e w5 ⟨rfl, hb5⟩
    have hs5 := hb5.size
    have hT5 : (fun z => z.cell? ⟨w.heap.size, 20, none⟩ = some (.slice (some ⟨b, o, none⟩) d.kin d.kic) ∧ z.rangeAt (w.heap.size + 1) 0 [.int .i64 tt.s.ru, .string tt.s.nm, .string tt.s.ot, .bool tt.s.g, .slice tt.aq tt.an tt.ac, .slice tt.cq tt.cn tt.cc, .int .i64 tt.s.kk, .int .i64 tt.s.nn, .int .i64 tt.s.pr, .int .i64 tt.e.k, .int .i64 tt.e.f, .bool tt.e.neg, .slice tt.e.aq tt.e.an tt.e.ac, .slice tt.e.cq tt.e.cn tt.e.cc, .string tt.e.m, .slice tt.e.sq tt.e.sn tt.e.sc, .slice tt.poq tt.pon tt.poc, .string tt.s.en, .int .i64 tt.s.ve, .slice tt.arq tt.arn tt.arc, .slice tt.kiq tt.kin tt.kic] ∧ z.rangeAt b (o + i * 21) cx) w5 := ⟨(hb5.cell (by show w.heap.size < _; omega)).trans hT.1, rangeAt_below (w := w3.drew) hT.2.1 hb5 (by omega), rangeAt_below (w := w3.drew) hT.2.2 hb5 (by omega)⟩
    refine hKK.out _ _ hT5 (fun hHeld5 => ?_)
    clear hKK K
    refine wpAnyH_take (i := 9) (oi := ?op9x9) (v := .tuple #[.agg #[.int .i64 0, .string ⟨#[]⟩, .string ⟨#[]⟩, .bool false, .slice none 0 0, .slice none 0 0, .int .i64 0, .int .i64 0, .int .i64 0, .int .i64 0, .int .i64 0, .bool false, .slice none 0 0, .slice none 0 0, .string ⟨#[]⟩, .slice none 0 0, .slice none 0 0, .string ⟨#[]⟩, .int .i64 0, .slice none 0 0, .slice none 0 0], .bool false]) ?ta9x9 ?tb9x9 ?tc9x9 ?td9x9 ?tq9x9 ?ty9x9 hHeld5 ?_
    case ta9x9 => rfl
    case tb9x9 => kernel_rfl
    case tc9x9 => kernel_rfl
    case td9x9 => kernel_rfl
    case tq9x9 => exact fun _ _ _ h => h
    case ty9x9 => exact Or.inl ⟨by rfl, by intro z hSz; go_simp⟩
    simp only [Act.put, List.setIfInBounds_toArray]
    refine wpAnyH_take (i := 10) (oi := ?op10x10) (v := .agg #[.int .i64 0, .string ⟨#[]⟩, .string ⟨#[]⟩, .bool false, .slice none 0 0, .slice none 0 0, .int .i64 0, .int .i64 0, .int .i64 0, .int .i64 0, .int .i64 0, .bool false, .slice none 0 0, .slice none 0 0, .string ⟨#[]⟩, .slice none 0 0, .slice none 0 0, .string ⟨#[]⟩, .int .i64 0, .slice none 0 0, .slice none 0 0]) ?ta10x10 ?tb10x10 ?tc10x10 ?td10x10 ?tq10x10 ?ty10x10 hHeld5 ?_
    case ta10x10 => rfl
    case tb10x10 => kernel_rfl
    case tc10x10 => kernel_rfl
    case td10x10 => kernel_rfl
    case tq10x10 => exact fun _ _ _ h => h
    case ty10x10 => exact Or.inl ⟨by rfl, by intro z hSz; go_simp⟩
    simp only [Act.put]
    refine wpAnyH_take (i := 11) (oi := ?op11x11) (v := .bool false) ?ta11x11 ?tb11x11 ?tc11x11 ?td11x11 ?tq11x11 ?ty11x11 hHeld5 ?_
    case ta11x11 => rfl
    case tb11x11 => kernel_rfl
    case tc11x11 => kernel_rfl
    case td11x11 => kernel_rfl
    case tq11x11 => exact fun _ _ _ h => h
    case ty11x11 => exact Or.inl ⟨by rfl, by intro z hSz; go_simp⟩
    simp only [Act.put]
    refine wpAnyH_ready (rs := [12]) (by kernel_rfl) (by simp) ?_
    refine AllReadyH.cons rfl (fun K hKK => ?_) AllReadyH.nil
    go_simp
    have hT6 : (fun z => z.cell? ⟨w.heap.size, 20, none⟩ = some (.slice (some ⟨b, o, none⟩) d.kin d.kic) ∧ z.rangeAt (w.heap.size + 1) 0 [.int .i64 tt.s.ru, .string tt.s.nm, .string tt.s.ot, .bool tt.s.g, .slice tt.aq tt.an tt.ac, .slice tt.cq tt.cn tt.cc, .int .i64 tt.s.kk, .int .i64 tt.s.nn, .int .i64 tt.s.pr, .int .i64 tt.e.k, .int .i64 tt.e.f, .bool tt.e.neg, .slice tt.e.aq tt.e.an tt.e.ac, .slice tt.e.cq tt.e.cn tt.e.cc, .string tt.e.m, .slice tt.e.sq tt.e.sn tt.e.sc, .slice tt.poq tt.pon tt.poc, .string tt.s.en, .int .i64 tt.s.ve, .slice tt.arq tt.arn tt.arc, .slice tt.kiq tt.kin tt.kic] ∧ z.rangeAt b (o + i * 21) cx) (w5.alloc (.cells #[.int .i64 0, .string ⟨#[]⟩, .string ⟨#[]⟩, .bool false, .slice none 0 0, .slice none 0 0, .int .i64 0, .int .i64 0, .int .i64 0, .int .i64 0, .int .i64 0, .bool false, .slice none 0 0, .slice none 0 0, .string ⟨#[]⟩, .slice none 0 0, .slice none 0 0, .string ⟨#[]⟩, .int .i64 0, .slice none 0 0, .slice none 0 0] 32)) := ⟨by rw [World.cell?_alloc_lt _ _ _ (by show w.heap.size < _; omega)]; exact hT5.1, World.rangeAt_alloc hT5.2.1 _, World.rangeAt_alloc hT5.2.2 _⟩
    refine hKK.out _ _ hT6 (fun _ => ?_)
    clear hKK K
    refine wpAnyH_ready (rs := [13]) (by kernel_rfl) (by simp) ?_
    refine AllReadyH.cons rfl (fun K hKK => ?_) AllReadyH.nil
    rw [if_pos (by kernel_rfl)]
    have hGt : (w5.alloc (.cells #[.int .i64 0, .string ⟨#[]⟩, .string ⟨#[]⟩, .bool false, .slice none 0 0, .slice none 0 0, .int .i64 0, .int .i64 0, .int .i64 0, .int .i64 0, .int .i64 0, .bool false, .slice none 0 0, .slice none 0 0, .string ⟨#[]⟩, .slice none 0 0, .slice none 0 0, .string ⟨#[]⟩, .int .i64 0, .slice none 0 0, .slice none 0 0] 32)).there (w5.heap.size) 0 21 := by have h := there_of_block (heap_alloc_last w5 (.cells #[.int .i64 0, .string ⟨#[]⟩, .string ⟨#[]⟩, .bool false, .slice none 0 0, .slice none 0 0, .int .i64 0, .int .i64 0, .int .i64 0, .int .i64 0, .int .i64 0, .bool false, .slice none 0 0, .slice none 0 0, .string ⟨#[]⟩, .slice none 0 0, .slice none 0 0, .string ⟨#[]⟩, .int .i64 0, .slice none 0 0, .slice none 0 0] 32 (0, 0))) (n := 21) rfl; exact h
    refine wp_store_mid 32 (.tmp 9) (.tmp 39) rfl (w5.heap.size) 0 #[.int .i64 0, .string ⟨#[]⟩, .string ⟨#[]⟩, .bool false, .slice none 0 0, .slice none 0 0, .int .i64 0, .int .i64 0, .int .i64 0, .int .i64 0, .int .i64 0, .bool false, .slice none 0 0, .slice none 0 0, .string ⟨#[]⟩, .slice none 0 0, .slice none 0 0, .string ⟨#[]⟩, .int .i64 0, .slice none 0 0, .slice none 0 0] (by kernel_rfl) (by kernel_rfl) hGt st_size (all_oneCell_toArray (one_sd ⟨⟨0, ⟨#[]⟩, ⟨#[]⟩, false, 0, 0, 0, ⟨#[]⟩, 0⟩, none, 0, 0, none, 0, 0, ⟨0, 0, false, none, 0, 0, none, 0, 0, ⟨#[]⟩, none, 0, 0⟩, none, 0, 0, none, 0, 0, none, 0, 0⟩)) ?_
    refine hKK.out _ _ ⟨by rw [World.cell?_setCells_out _ _ _ _ _ (fun e => absurd e (by show ¬ w.heap.size = _; omega))]; exact hT6.1, World.rangeAt_setCells_apart hT6.2.1 _ _ _ (.inl (by omega)), World.rangeAt_setCells_apart hT6.2.2 _ _ _ (.inl (by omega))⟩ (fun hHeld9 => ?_)
    clear hKK K
    refine wpAnyH_take (i := 14) (oi := ?op14x12) (v := .bool false) ?ta14x12 ?tb14x12 ?tc14x12 ?td14x12 ?tq14x12 ?ty14x12 hHeld9 ?_
    case ta14x12 => rfl
    case tb14x12 => kernel_rfl
    case tc14x12 => kernel_rfl
    case td14x12 => kernel_rfl
    case tq14x12 => exact fun _ _ _ h => h
    case ty14x12 => exact Or.inl ⟨by rfl, by intro z hSz; go_simp⟩
    simp only [Act.put, List.setIfInBounds_toArray]
    refine wpAnyH_done (by kernel_rfl) ?_ _
    obtain ⟨hWz, _, _⟩ := setCells_facts w.heap.size (w5.heap.size) (by omega) [.int .i64 0, .string ⟨#[]⟩, .string ⟨#[]⟩, .bool false, .slice none 0 0, .slice none 0 0, .int .i64 0, .int .i64 0, .int .i64 0, .int .i64 0, .int .i64 0, .bool false, .slice none 0 0, .slice none 0 0, .string ⟨#[]⟩, .slice none 0 0, .slice none 0 0, .string ⟨#[]⟩, .int .i64 0, .slice none 0 0, .slice none 0 0] 0 w (w5.alloc (.cells #[.int .i64 0, .string ⟨#[]⟩, .string ⟨#[]⟩, .bool false, .slice none 0 0, .slice none 0 0, .int .i64 0, .int .i64 0, .int .i64 0, .int .i64 0, .int .i64 0, .bool false, .slice none 0 0, .slice none 0 0, .string ⟨#[]⟩, .slice none 0 0, .slice none 0 0, .string ⟨#[]⟩, .int .i64 0, .slice none 0 0, .slice none 0 0] 32)) ((h3.drew.trans (hb5.mono (by rw [s3d]; omega))).alloc (by omega) _)
    have hRz : Hid (((w5.alloc (.cells #[.int .i64 0, .string ⟨#[]⟩, .string ⟨#[]⟩, .bool false, .slice none 0 0, .slice none 0 0, .int .i64 0, .int .i64 0, .int .i64 0, .int .i64 0, .int .i64 0, .bool false, .slice none 0 0, .slice none 0 0, .string ⟨#[]⟩, .slice none 0 0, .slice none 0 0, .string ⟨#[]⟩, .int .i64 0, .slice none 0 0, .slice none 0 0] 32)).setCells (w5.heap.size) 0 [.int .i64 0, .string ⟨#[]⟩, .string ⟨#[]⟩, .bool false, .slice none 0 0, .slice none 0 0, .int .i64 0, .int .i64 0, .int .i64 0, .int .i64 0, .int .i64 0, .bool false, .slice none 0 0, .slice none 0 0, .string ⟨#[]⟩, .slice none 0 0, .slice none 0 0, .string ⟨#[]⟩, .int .i64 0, .slice none 0 0, .slice none 0 0]).there (w.heap.size + 2) 0 21) := World.there_setCells (World.there_alloc (there_below (w := w3.drew) R3.out hb5 (by omega)) _) _ _ _
    generalize hwz : World.setCells (w5.alloc (.cells #[.int .i64 0, .string ⟨#[]⟩, .string ⟨#[]⟩, .bool false, .slice none 0 0, .slice none 0 0, .int .i64 0, .int .i64 0, .int .i64 0, .int .i64 0, .int .i64 0, .bool false, .slice none 0 0, .slice none 0 0, .string ⟨#[]⟩, .slice none 0 0, .slice none 0 0, .string ⟨#[]⟩, .int .i64 0, .slice none 0 0, .slice none 0 0] 32)) (w5.heap.size) 0 _ = wz at *
    go_wp2_with (first
      | (with_reducible refine wpList_store_mid ?_ 32 (.tmp 6) (.tmp 43) ?_ (w.heap.size + 2) (0) #[.int .i64 0, .string ⟨#[]⟩, .string ⟨#[]⟩, .bool false, .slice none 0 0, .slice none 0 0, .int .i64 0, .int .i64 0, .int .i64 0, .int .i64 0, .int .i64 0, .bool false, .slice none 0 0, .slice none 0 0, .string ⟨#[]⟩, .slice none 0 0, .slice none 0 0, .string ⟨#[]⟩, .int .i64 0, .slice none 0 0, .slice none 0 0] ?_ ?_ ?_ ?_ ?_ ?_
         rotate_left 1
         · with_reducible rfl
         · kernel_rfl
         · kernel_rfl
         · exact hRz.out
         · exact st_size
         · exact all_oneCell_toArray (one_sd ⟨⟨0, ⟨#[]⟩, ⟨#[]⟩, false, 0, 0, 0, ⟨#[]⟩, 0⟩, none, 0, 0, none, 0, 0, ⟨0, 0, false, none, 0, 0, none, 0, 0, ⟨#[]⟩, none, 0, 0⟩, none, 0, 0, none, 0, 0, none, 0, 0⟩)
         rotate_left 1
         · rfl))
    obtain ⟨hW8, hs8, hb8⟩ := setCells_facts w.heap.size (w.heap.size + 2) (by omega) [.int .i64 0, .string ⟨#[]⟩, .string ⟨#[]⟩, .bool false, .slice none 0 0, .slice none 0 0, .int .i64 0, .int .i64 0, .int .i64 0, .int .i64 0, .int .i64 0, .bool false, .slice none 0 0, .slice none 0 0, .string ⟨#[]⟩, .slice none 0 0, .slice none 0 0, .string ⟨#[]⟩, .int .i64 0, .slice none 0 0, .slice none 0 0] 0 w _ hWz
    have hr8 := World.rangeAt_setCells_same _ (w.heap.size + 2) 0 [.int .i64 0, .string ⟨#[]⟩, .string ⟨#[]⟩, .bool false, .slice none 0 0, .slice none 0 0, .int .i64 0, .int .i64 0, .int .i64 0, .int .i64 0, .int .i64 0, .bool false, .slice none 0 0, .slice none 0 0, .string ⟨#[]⟩, .slice none 0 0, .slice none 0 0, .string ⟨#[]⟩, .int .i64 0, .slice none 0 0, .slice none 0 0] hRz.out
    change bodyPost _ _ _ _ _ (wz.setCells (w.heap.size + 2) 0 [.int .i64 0, .string ⟨#[]⟩, .string ⟨#[]⟩, .bool false, .slice none 0 0, .slice none 0 0, .int .i64 0, .int .i64 0, .int .i64 0, .int .i64 0, .int .i64 0, .bool false, .slice none 0 0, .slice none 0 0, .string ⟨#[]⟩, .slice none 0 0, .slice none 0 0, .string ⟨#[]⟩, .int .i64 0, .slice none 0 0, .slice none 0 0])
    generalize wz.setCells (w.heap.size + 2) 0 [.int .i64 0, .string ⟨#[]⟩, .string ⟨#[]⟩, .bool false, .slice none 0 0, .slice none 0 0, .int .i64 0, .int .i64 0, .int .i64 0, .int .i64 0, .int .i64 0, .bool false, .slice none 0 0, .slice none 0 0, .string ⟨#[]⟩, .slice none 0 0, .slice none 0 0, .string ⟨#[]⟩, .int .i64 0, .slice none 0 0, .slice none 0 0] = w8 at *
    refine bodyPost_ret (results_cell_tmp_mid rfl _ _ (w.heap.size + 2) _ dd rfl hr8 hHu.out hd st_size) rfl ?_
    exact ⟨rfl, hW8⟩
  · go_simp
    have hTa : (fun z => z.cell? ⟨w.heap.size, 20, none⟩ = some (.slice (some ⟨b, o, none⟩) d.kin d.kic) ∧ z.rangeAt (w.heap.size + 1) 0 [.int .i64 tt.s.ru, .string tt.s.nm, .string tt.s.ot, .bool tt.s.g, .slice tt.aq tt.an tt.ac, .slice tt.cq tt.cn tt.cc, .int .i64 tt.s.kk, .int .i64 tt.s.nn, .int .i64 tt.s.pr, .int .i64 tt.e.k, .int .i64 tt.e.f, .bool tt.e.neg, .slice tt.e.aq tt.e.an tt.e.ac, .slice tt.e.cq tt.e.cn tt.e.cc, .string tt.e.m, .slice tt.e.sq tt.e.sn tt.e.sc, .slice tt.poq tt.pon tt.poc, .string tt.s.en, .int .i64 tt.s.ve, .slice tt.arq tt.arn tt.arc, .slice tt.kiq tt.kin tt.kic] ∧ z.rangeAt b (o + i * 21) cx) (w3.drew.alloc (.cells #[.int .i64 0, .string ⟨#[]⟩, .string ⟨#[]⟩, .bool false, .slice none 0 0, .slice none 0 0, .int .i64 0, .int .i64 0, .int .i64 0, .int .i64 0, .int .i64 0, .bool false, .slice none 0 0, .slice none 0 0, .string ⟨#[]⟩, .slice none 0 0, .slice none 0 0, .string ⟨#[]⟩, .int .i64 0, .slice none 0 0, .slice none 0 0] 32)) := ⟨by rw [World.cell?_alloc_lt _ _ _ (by show w.heap.size < _; omega)]; exact hT.1, World.rangeAt_alloc hT.2.1 _, World.rangeAt_alloc hT.2.2 _⟩
    refine hKK.out _ _ hTa (fun _ => ?_)
    clear hKK K
    have hba : Below w.heap.size w (w3.drew.alloc (.cells #[.int .i64 0, .string ⟨#[]⟩, .string ⟨#[]⟩, .bool false, .slice none 0 0, .slice none 0 0, .int .i64 0, .int .i64 0, .int .i64 0, .int .i64 0, .int .i64 0, .bool false, .slice none 0 0, .slice none 0 0, .string ⟨#[]⟩, .slice none 0 0, .slice none 0 0, .string ⟨#[]⟩, .int .i64 0, .slice none 0 0, .slice none 0 0] 32)) := h3.drew.alloc (by rw [s3d]; omega) _
    have sa : (w3.drew.alloc (.cells #[.int .i64 0, .string ⟨#[]⟩, .string ⟨#[]⟩, .bool false, .slice none 0 0, .slice none 0 0, .int .i64 0, .int .i64 0, .int .i64 0, .int .i64 0, .int .i64 0, .bool false, .slice none 0 0, .slice none 0 0, .string ⟨#[]⟩, .slice none 0 0, .slice none 0 0, .string ⟨#[]⟩, .int .i64 0, .slice none 0 0, .slice none 0 0] 32)).heap.size = w.heap.size + 4 := by show (w3.heap.push _).size = _; simp; exact s3
    refine wpAnyH_ready (rs := [8]) (by kernel_rfl) (by simp) ?_
    refine AllReadyH.cons rfl (fun K hKK => ?_) AllReadyH.nil
    go_simp
    refine (hR _ hba).mono ?_
    rintro e w5 ⟨rfl, hb5⟩
    have hs5 := hb5.size
    have hT5 : (fun z => z.cell? ⟨w.heap.size, 20, none⟩ = some (.slice (some ⟨b, o, none⟩) d.kin d.kic) ∧ z.rangeAt (w.heap.size + 1) 0 [.int .i64 tt.s.ru, .string tt.s.nm, .string tt.s.ot, .bool tt.s.g, .slice tt.aq tt.an tt.ac, .slice tt.cq tt.cn tt.cc, .int .i64 tt.s.kk, .int .i64 tt.s.nn, .int .i64 tt.s.pr, .int .i64 tt.e.k, .int .i64 tt.e.f, .bool tt.e.neg, .slice tt.e.aq tt.e.an tt.e.ac, .slice tt.e.cq tt.e.cn tt.e.cc, .string tt.e.m, .slice tt.e.sq tt.e.sn tt.e.sc, .slice tt.poq tt.pon tt.poc, .string tt.s.en, .int .i64 tt.s.ve, .slice tt.arq tt.arn tt.arc, .slice tt.kiq tt.kin tt.kic] ∧ z.rangeAt b (o + i * 21) cx) w5 := ⟨(hb5.cell (by show w.heap.size < _; omega)).trans hTa.1, rangeAt_below (w := (w3.drew.alloc (.cells #[.int .i64 0, .string ⟨#[]⟩, .string ⟨#[]⟩, .bool false, .slice none 0 0, .slice none 0 0, .int .i64 0, .int .i64 0, .int .i64 0, .int .i64 0, .int .i64 0, .bool false, .slice none 0 0, .slice none 0 0, .string ⟨#[]⟩, .slice none 0 0, .slice none 0 0, .string ⟨#[]⟩, .int .i64 0, .slice none 0 0, .slice none 0 0] 32))) hTa.2.1 hb5 (by omega), rangeAt_below (w := (w3.drew.alloc (.cells #[.int .i64 0, .string ⟨#[]⟩, .string ⟨#[]⟩, .bool false, .slice none 0 0, .slice none 0 0, .int .i64 0, .int .i64 0, .int .i64 0, .int .i64 0, .int .i64 0, .bool false, .slice none 0 0, .slice none 0 0, .string ⟨#[]⟩, .slice none 0 0, .slice none 0 0, .string ⟨#[]⟩, .int .i64 0, .slice none 0 0, .slice none 0 0] 32))) hTa.2.2 hb5 (by omega)⟩
    refine hKK.out _ _ hT5 (fun hHeld5 => ?_)
    clear hKK K
    refine wpAnyH_take (i := 9) (oi := ?op9x13) (v := .tuple #[.agg #[.int .i64 0, .string ⟨#[]⟩, .string ⟨#[]⟩, .bool false, .slice none 0 0, .slice none 0 0, .int .i64 0, .int .i64 0, .int .i64 0, .int .i64 0, .int .i64 0, .bool false, .slice none 0 0, .slice none 0 0, .string ⟨#[]⟩, .slice none 0 0, .slice none 0 0, .string ⟨#[]⟩, .int .i64 0, .slice none 0 0, .slice none 0 0], .bool false]) ?ta9x13 ?tb9x13 ?tc9x13 ?td9x13 ?tq9x13 ?ty9x13 hHeld5 ?_
    case ta9x13 => rfl
    case tb9x13 => kernel_rfl
    case tc9x13 => kernel_rfl
    case td9x13 => kernel_rfl
    case tq9x13 => exact fun _ _ _ h => h
    case ty9x13 => exact Or.inl ⟨by rfl, by intro z hSz; go_simp⟩
    simp only [Act.put, List.setIfInBounds_toArray]
    refine wpAnyH_take (i := 10) (oi := ?op10x14) (v := .agg #[.int .i64 0, .string ⟨#[]⟩, .string ⟨#[]⟩, .bool false, .slice none 0 0, .slice none 0 0, .int .i64 0, .int .i64 0, .int .i64 0, .int .i64 0, .int .i64 0, .bool false, .slice none 0 0, .slice none 0 0, .string ⟨#[]⟩, .slice none 0 0, .slice none 0 0, .string ⟨#[]⟩, .int .i64 0, .slice none 0 0, .slice none 0 0]) ?ta10x14 ?tb10x14 ?tc10x14 ?td10x14 ?tq10x14 ?ty10x14 hHeld5 ?_
    case ta10x14 => rfl
    case tb10x14 => kernel_rfl
    case tc10x14 => kernel_rfl
    case td10x14 => kernel_rfl
    case tq10x14 => exact fun _ _ _ h => h
    case ty10x14 => exact Or.inl ⟨by rfl, by intro z hSz; go_simp⟩
    simp only [Act.put]
    refine wpAnyH_take (i := 11) (oi := ?op11x15) (v := .bool false) ?ta11x15 ?tb11x15 ?tc11x15 ?td11x15 ?tq11x15 ?ty11x15 hHeld5 ?_
    case ta11x15 => rfl
    case tb11x15 => kernel_rfl
    case tc11x15 => kernel_rfl
    case td11x15 => kernel_rfl
    case tq11x15 => exact fun _ _ _ h => h
    case ty11x15 => exact Or.inl ⟨by rfl, by intro z hSz; go_simp⟩
    simp only [Act.put]
    refine wpAnyH_ready (rs := [13]) (by kernel_rfl) (by simp) ?_
    refine AllReadyH.cons rfl (fun K hKK => ?_) AllReadyH.nil
    rw [if_pos (by kernel_rfl)]
    have hGt : (w5).there (w.heap.size + 3) 0 21 := by have h := there_of_block (heap_alloc_last w3.drew (.cells #[.int .i64 0, .string ⟨#[]⟩, .string ⟨#[]⟩, .bool false, .slice none 0 0, .slice none 0 0, .int .i64 0, .int .i64 0, .int .i64 0, .int .i64 0, .int .i64 0, .bool false, .slice none 0 0, .slice none 0 0, .string ⟨#[]⟩, .slice none 0 0, .slice none 0 0, .string ⟨#[]⟩, .int .i64 0, .slice none 0 0, .slice none 0 0] 32 (0, 0))) (n := 21) rfl; rw [s3d] at h; exact there_below h hb5 (by omega)
    refine wp_store_mid 32 (.tmp 9) (.tmp 39) rfl (w.heap.size + 3) 0 #[.int .i64 0, .string ⟨#[]⟩, .string ⟨#[]⟩, .bool false, .slice none 0 0, .slice none 0 0, .int .i64 0, .int .i64 0, .int .i64 0, .int .i64 0, .int .i64 0, .bool false, .slice none 0 0, .slice none 0 0, .string ⟨#[]⟩, .slice none 0 0, .slice none 0 0, .string ⟨#[]⟩, .int .i64 0, .slice none 0 0, .slice none 0 0] (by kernel_rfl) (by kernel_rfl) hGt st_size (all_oneCell_toArray (one_sd ⟨⟨0, ⟨#[]⟩, ⟨#[]⟩, false, 0, 0, 0, ⟨#[]⟩, 0⟩, none, 0, 0, none, 0, 0, ⟨0, 0, false, none, 0, 0, none, 0, 0, ⟨#[]⟩, none, 0, 0⟩, none, 0, 0, none, 0, 0, none, 0, 0⟩)) ?_
    refine hKK.out _ _ ⟨by rw [World.cell?_setCells_out _ _ _ _ _ (fun e => absurd e (by show ¬ w.heap.size = _; omega))]; exact hT5.1, World.rangeAt_setCells_apart hT5.2.1 _ _ _ (.inl (by omega)), World.rangeAt_setCells_apart hT5.2.2 _ _ _ (.inl (by omega))⟩ (fun hHeld9 => ?_)
    clear hKK K
    refine wpAnyH_take (i := 14) (oi := ?op14x16) (v := .bool false) ?ta14x16 ?tb14x16 ?tc14x16 ?td14x16 ?tq14x16 ?ty14x16 hHeld9 ?_
    case ta14x16 => rfl
    case tb14x16 => kernel_rfl
    case tc14x16 => kernel_rfl
    case td14x16 => kernel_rfl
    case tq14x16 => exact fun _ _ _ h => h
    case ty14x16 => exact Or.inl ⟨by rfl, by intro z hSz; go_simp⟩
    simp only [Act.put]
    refine wpAnyH_done (by kernel_rfl) ?_ _
    obtain ⟨hWz, _, _⟩ := setCells_facts w.heap.size (w.heap.size + 3) (by omega) [.int .i64 0, .string ⟨#[]⟩, .string ⟨#[]⟩, .bool false, .slice none 0 0, .slice none 0 0, .int .i64 0, .int .i64 0, .int .i64 0, .int .i64 0, .int .i64 0, .bool false, .slice none 0 0, .slice none 0 0, .string ⟨#[]⟩, .slice none 0 0, .slice none 0 0, .string ⟨#[]⟩, .int .i64 0, .slice none 0 0, .slice none 0 0] 0 w (w5) (hba.trans (hb5.mono (by rw [sa]; omega)))
    have hRz : Hid (((w5).setCells (w.heap.size + 3) 0 [.int .i64 0, .string ⟨#[]⟩, .string ⟨#[]⟩, .bool false, .slice none 0 0, .slice none 0 0, .int .i64 0, .int .i64 0, .int .i64 0, .int .i64 0, .int .i64 0, .bool false, .slice none 0 0, .slice none 0 0, .string ⟨#[]⟩, .slice none 0 0, .slice none 0 0, .string ⟨#[]⟩, .int .i64 0, .slice none 0 0, .slice none 0 0]).there (w.heap.size + 2) 0 21) := World.there_setCells (there_below (w := (w3.drew.alloc (.cells #[.int .i64 0, .string ⟨#[]⟩, .string ⟨#[]⟩, .bool false, .slice none 0 0, .slice none 0 0, .int .i64 0, .int .i64 0, .int .i64 0, .int .i64 0, .int .i64 0, .bool false, .slice none 0 0, .slice none 0 0, .string ⟨#[]⟩, .slice none 0 0, .slice none 0 0, .string ⟨#[]⟩, .int .i64 0, .slice none 0 0, .slice none 0 0] 32))) (World.there_alloc (w := w3.drew) R3.out _) hb5 (by omega)) _ _ _
    generalize hwz : World.setCells (w5) (w.heap.size + 3) 0 _ = wz at *
    go_wp2_with (first
      | (with_reducible refine wpList_store_mid ?_ 32 (.tmp 6) (.tmp 43) ?_ (w.heap.size + 2) (0) #[.int .i64 0, .string ⟨#[]⟩, .string ⟨#[]⟩, .bool false, .slice none 0 0, .slice none 0 0, .int .i64 0, .int .i64 0, .int .i64 0, .int .i64 0, .int .i64 0, .bool false, .slice none 0 0, .slice none 0 0, .string ⟨#[]⟩, .slice none 0 0, .slice none 0 0, .string ⟨#[]⟩, .int .i64 0, .slice none 0 0, .slice none 0 0] ?_ ?_ ?_ ?_ ?_ ?_
         rotate_left 1
         · with_reducible rfl
         · kernel_rfl
         · kernel_rfl
         · exact hRz.out
         · exact st_size
         · exact all_oneCell_toArray (one_sd ⟨⟨0, ⟨#[]⟩, ⟨#[]⟩, false, 0, 0, 0, ⟨#[]⟩, 0⟩, none, 0, 0, none, 0, 0, ⟨0, 0, false, none, 0, 0, none, 0, 0, ⟨#[]⟩, none, 0, 0⟩, none, 0, 0, none, 0, 0, none, 0, 0⟩)
         rotate_left 1
         · rfl))
    obtain ⟨hW8, hs8, hb8⟩ := setCells_facts w.heap.size (w.heap.size + 2) (by omega) [.int .i64 0, .string ⟨#[]⟩, .string ⟨#[]⟩, .bool false, .slice none 0 0, .slice none 0 0, .int .i64 0, .int .i64 0, .int .i64 0, .int .i64 0, .int .i64 0, .bool false, .slice none 0 0, .slice none 0 0, .string ⟨#[]⟩, .slice none 0 0, .slice none 0 0, .string ⟨#[]⟩, .int .i64 0, .slice none 0 0, .slice none 0 0] 0 w _ hWz
    have hr8 := World.rangeAt_setCells_same _ (w.heap.size + 2) 0 [.int .i64 0, .string ⟨#[]⟩, .string ⟨#[]⟩, .bool false, .slice none 0 0, .slice none 0 0, .int .i64 0, .int .i64 0, .int .i64 0, .int .i64 0, .int .i64 0, .bool false, .slice none 0 0, .slice none 0 0, .string ⟨#[]⟩, .slice none 0 0, .slice none 0 0, .string ⟨#[]⟩, .int .i64 0, .slice none 0 0, .slice none 0 0] hRz.out
    change bodyPost _ _ _ _ _ (wz.setCells (w.heap.size + 2) 0 [.int .i64 0, .string ⟨#[]⟩, .string ⟨#[]⟩, .bool false, .slice none 0 0, .slice none 0 0, .int .i64 0, .int .i64 0, .int .i64 0, .int .i64 0, .int .i64 0, .bool false, .slice none 0 0, .slice none 0 0, .string ⟨#[]⟩, .slice none 0 0, .slice none 0 0, .string ⟨#[]⟩, .int .i64 0, .slice none 0 0, .slice none 0 0])
    generalize wz.setCells (w.heap.size + 2) 0 [.int .i64 0, .string ⟨#[]⟩, .string ⟨#[]⟩, .bool false, .slice none 0 0, .slice none 0 0, .int .i64 0, .int .i64 0, .int .i64 0, .int .i64 0, .int .i64 0, .bool false, .slice none 0 0, .slice none 0 0, .string ⟨#[]⟩, .slice none 0 0, .slice none 0 0, .string ⟨#[]⟩, .int .i64 0, .slice none 0 0, .slice none 0 0] = w8 at *
    refine bodyPost_ret (results_cell_tmp_mid rfl _ _ (w.heap.size + 2) _ dd rfl hr8 hHu.out hd st_size) rfl ?_
    exact ⟨rfl, hW8⟩
end Go.Proofs.YtlmifjdbjhcceaaGreatDoor

namespace Go.Proofs.YtlmifjdbjhcceaaGreatDoor
open Go Go.RowKit

set_option maxRecDepth 100000 in
set_option maxHeartbeats 4000000 in
/-- The reference's Graft where a kid's succeeds. -/
theorem rgraft_in_some {w : World} {d tt : Sd} (Y : St) (N : Nat) (hN : N ≤ w.heap.size) (ds : Nat → Sd) (b o pb po n c i : Nat) (hi : i < d.kin) (hkin : d.kin ≤ 1048576) (hb : b < N) (hx : ∀ j, j < d.kin → w.rangeAt b (o + j * 21) (ds j).cells)
    (hn0 : 0 < n) (_hnc : n ≤ c) (_hcm : c ≤ maxLen) (hnm : n ≤ 1099511627776) (hpb : pb < w.heap.size) (hpi : w.cell? ⟨pb, po, none⟩ = some (.int .i64 i)) (pq : Option Addr) (hpq : (if c = 1 then some (⟨pb, po, none⟩ : Addr) else some ⟨pb, po + 1, none⟩) = pq)
    (hR : ∀ z, Below w.heap.size w z → Calls Tryz.prog 15 #[.agg (ds i).cells.toArray, .slice pq (n - 1) (c - 1), .agg #[.int .i64 tt.s.ru, .string tt.s.nm, .string tt.s.ot, .bool tt.s.g, .slice tt.aq tt.an tt.ac, .slice tt.cq tt.cn tt.cc, .int .i64 tt.s.kk, .int .i64 tt.s.nn, .int .i64 tt.s.pr, .int .i64 tt.e.k, .int .i64 tt.e.f, .bool tt.e.neg, .slice tt.e.aq tt.e.an tt.e.ac, .slice tt.e.cq tt.e.cn tt.e.cc, .string tt.e.m, .slice tt.e.sq tt.e.sn tt.e.sc, .slice tt.poq tt.pon tt.poc, .string tt.s.en, .int .i64 tt.s.ve, .slice tt.arq tt.arn tt.arc, .slice tt.kiq tt.kin tt.kic]] z fun e w' => ∃ k : Sd, e = .returned (.tuple #[.agg #[.int .i64 k.s.ru, .string k.s.nm, .string k.s.ot, .bool k.s.g, .slice k.aq k.an k.ac, .slice k.cq k.cn k.cc, .int .i64 k.s.kk, .int .i64 k.s.nn, .int .i64 k.s.pr, .int .i64 k.e.k, .int .i64 k.e.f, .bool k.e.neg, .slice k.e.aq k.e.an k.e.ac, .slice k.e.cq k.e.cn k.e.cc, .string k.e.m, .slice k.e.sq k.e.sn k.e.sc, .slice k.poq k.pon k.poc, .string k.s.en, .int .i64 k.s.ve, .slice k.arq k.arn k.arc, .slice k.kiq k.kin k.kic], .bool true]) ∧ StA w' (fun b => b < N ∨ Fresh z w' b) Y k ∧ Below z.heap.size z w') :
    Calls Tryz.prog 15 #[.agg #[.int .i64 d.s.ru, .string d.s.nm, .string d.s.ot, .bool d.s.g, .slice d.aq d.an d.ac, .slice d.cq d.cn d.cc, .int .i64 d.s.kk, .int .i64 d.s.nn, .int .i64 d.s.pr, .int .i64 d.e.k, .int .i64 d.e.f, .bool d.e.neg, .slice d.e.aq d.e.an d.e.ac, .slice d.e.cq d.e.cn d.e.cc, .string d.e.m, .slice d.e.sq d.e.sn d.e.sc, .slice d.poq d.pon d.poc, .string d.s.en, .int .i64 d.s.ve, .slice d.arq d.arn d.arc, .slice (some ⟨b, o, none⟩) d.kin d.kic], .slice (some ⟨pb, po, none⟩) n c, .agg #[.int .i64 tt.s.ru, .string tt.s.nm, .string tt.s.ot, .bool tt.s.g, .slice tt.aq tt.an tt.ac, .slice tt.cq tt.cn tt.cc, .int .i64 tt.s.kk, .int .i64 tt.s.nn, .int .i64 tt.s.pr, .int .i64 tt.e.k, .int .i64 tt.e.f, .bool tt.e.neg, .slice tt.e.aq tt.e.an tt.e.ac, .slice tt.e.cq tt.e.cn tt.e.cc, .string tt.e.m, .slice tt.e.sq tt.e.sn tt.e.sc, .slice tt.poq tt.pon tt.poc, .string tt.s.en, .int .i64 tt.s.ve, .slice tt.arq tt.arn tt.arc, .slice tt.kiq tt.kin tt.kic]] w fun e w' => ∃ (g cap : Nat) (k : Sd), e = .returned (.tuple #[.agg #[.int .i64 d.s.ru, .string d.s.nm, .string d.s.ot, .bool d.s.g, .slice d.aq d.an d.ac, .slice d.cq d.cn d.cc, .int .i64 d.s.kk, .int .i64 d.s.nn, .int .i64 d.s.pr, .int .i64 d.e.k, .int .i64 d.e.f, .bool d.e.neg, .slice d.e.aq d.e.an d.e.ac, .slice d.e.cq d.e.cn d.e.cc, .string d.e.m, .slice d.e.sq d.e.sn d.e.sc, .slice d.poq d.pon d.poc, .string d.s.en, .int .i64 d.s.ve, .slice d.arq d.arn d.arc, .slice (some ⟨g, 0, none⟩) d.kin cap], .bool true]) ∧ w.heap.size ≤ g ∧ g < w'.heap.size ∧ (∀ j, j < d.kin → w'.rangeAt g (0 + j * 21) (if j = i then k else ds j).cells) ∧ StA w' (fun b => b < N ∨ Fresh w w' b) Y k ∧ Below w.heap.size w w' := by
  obtain ⟨dd, hu, hd⟩ := st_row
  have hHu : Hid (Tryz.prog.underlying 32 = some dd) := hu
  clear hu
  obtain ⟨h3, s3, D3, E3, T3, R3⟩ := three_new w [.int .i64 d.s.ru, .string d.s.nm, .string d.s.ot, .bool d.s.g, .slice d.aq d.an d.ac, .slice d.cq d.cn d.cc, .int .i64 d.s.kk, .int .i64 d.s.nn, .int .i64 d.s.pr, .int .i64 d.e.k, .int .i64 d.e.f, .bool d.e.neg, .slice d.e.aq d.e.an d.e.ac, .slice d.e.cq d.e.cn d.e.cc, .string d.e.m, .slice d.e.sq d.e.sn d.e.sc, .slice d.poq d.pon d.poc, .string d.s.en, .int .i64 d.s.ve, .slice d.arq d.arn d.arc, .slice (some ⟨b, o, none⟩) d.kin d.kic] [.int .i64 tt.s.ru, .string tt.s.nm, .string tt.s.ot, .bool tt.s.g, .slice tt.aq tt.an tt.ac, .slice tt.cq tt.cn tt.cc, .int .i64 tt.s.kk, .int .i64 tt.s.nn, .int .i64 tt.s.pr, .int .i64 tt.e.k, .int .i64 tt.e.f, .bool tt.e.neg, .slice tt.e.aq tt.e.an tt.e.ac, .slice tt.e.cq tt.e.cn tt.e.cc, .string tt.e.m, .slice tt.e.sq tt.e.sn tt.e.sc, .slice tt.poq tt.pon tt.poc, .string tt.s.en, .int .i64 tt.s.ve, .slice tt.arq tt.arn tt.arc, .slice tt.kiq tt.kin tt.kic] [.int .i64 0, .string ⟨#[]⟩, .string ⟨#[]⟩, .bool false, .slice none 0 0, .slice none 0 0, .int .i64 0, .int .i64 0, .int .i64 0, .int .i64 0, .int .i64 0, .bool false, .slice none 0 0, .slice none 0 0, .string ⟨#[]⟩, .slice none 0 0, .slice none 0 0, .string ⟨#[]⟩, .int .i64 0, .slice none 0 0, .slice none 0 0] rfl rfl
  have cpi : ∀ o1 o2 o3, (((w.alloc o1).alloc o2).alloc o3).cell? ⟨pb, po, none⟩ = some (.int .i64 i) := fun o1 o2 o3 => by
    rw [World.cell?_alloc_lt _ _ _ (by show pb < ((w.heap.push _).push _).size; simp only [Array.size_push]; omega), World.cell?_alloc_lt _ _ _ (by show pb < (w.heap.push _).size; simp only [Array.size_push]; omega), World.cell?_alloc_lt _ _ _ (by exact hpb)]
    exact hpi
  have k20 := D3.out 20 _ rfl
  rw [Nat.zero_add] at k20
  have hn0' : ¬ (n : Int) = 0 := by omega
  have hn1' : (0 : Int) < (n : Int) := by omega
  have hn2' : (1 : Int) ≤ (n : Int) := by omega
  have hi0' : ¬ (i : Int) < 0 := by omega
  have hi1' : ¬ (d.kin : Int) ≤ (i : Int) := by omega
  have hi2' : (i : Int) < (d.kin : Int) := by omega
  have hi3' : (0 : Int) ≤ (i : Int) := by omega
  have hxi := rangeAt_below (hx i hi) h3 (by omega)
  have lx : (ds i).cells.length = 21 := rfl
  generalize (ds i).cells = cx at *
  obtain ⟨i0, hi0, hz0, hz1, hz2⟩ := info_parts (show (Tryz.prog.info? 32).map (fun i => (i.zero, i.size, i.bytes)) = some (some (.agg #[.int .i64 0, .string ⟨#[]⟩, .string ⟨#[]⟩, .bool false, .slice none 0 0, .slice none 0 0, .int .i64 0, .int .i64 0, .int .i64 0, .int .i64 0, .int .i64 0, .bool false, .slice none 0 0, .slice none 0 0, .string ⟨#[]⟩, .slice none 0 0, .slice none 0 0, .string ⟨#[]⟩, .int .i64 0, .slice none 0 0, .slice none 0 0]), 21, 328) by kernel_rfl)
  have hxh : Hid (World.rangeAt _ b (o + i * 21) cx) := hxi
  clear hxi
  go_enter Tryz.func15, Tryz.ntmps15
  go_wp2_with fail
  try simp only [Act.put]
  generalize hw3 : World.alloc (World.alloc (World.alloc w _) _) _ = w3 at *
  have s3d : w3.drew.heap.size = w.heap.size + 3 := s3
  clear hw3 cpi
  have hT : (fun z => z.cell? ⟨w.heap.size, 20, none⟩ = some (.slice (some ⟨b, o, none⟩) d.kin d.kic) ∧ z.rangeAt (w.heap.size + 1) 0 [.int .i64 tt.s.ru, .string tt.s.nm, .string tt.s.ot, .bool tt.s.g, .slice tt.aq tt.an tt.ac, .slice tt.cq tt.cn tt.cc, .int .i64 tt.s.kk, .int .i64 tt.s.nn, .int .i64 tt.s.pr, .int .i64 tt.e.k, .int .i64 tt.e.f, .bool tt.e.neg, .slice tt.e.aq tt.e.an tt.e.ac, .slice tt.e.cq tt.e.cn tt.e.cc, .string tt.e.m, .slice tt.e.sq tt.e.sn tt.e.sc, .slice tt.poq tt.pon tt.poc, .string tt.s.en, .int .i64 tt.s.ve, .slice tt.arq tt.arn tt.arc, .slice tt.kiq tt.kin tt.kic] ∧ z.rangeAt b (o + i * 21) cx) w3 := ⟨k20, T3.out, hxh.out⟩
  refine wp_region_held_drew (S := fun z => z.cell? ⟨w.heap.size, 20, none⟩ = some (.slice (some ⟨b, o, none⟩) d.kin d.kic) ∧ z.rangeAt (w.heap.size + 1) 0 [.int .i64 tt.s.ru, .string tt.s.nm, .string tt.s.ot, .bool tt.s.g, .slice tt.aq tt.an tt.ac, .slice tt.cq tt.cn tt.cc, .int .i64 tt.s.kk, .int .i64 tt.s.nn, .int .i64 tt.s.pr, .int .i64 tt.e.k, .int .i64 tt.e.f, .bool tt.e.neg, .slice tt.e.aq tt.e.an tt.e.ac, .slice tt.e.cq tt.e.cn tt.e.cc, .string tt.e.m, .slice tt.e.sq tt.e.sn tt.e.sc, .slice tt.poq tt.pon tt.poc, .string tt.s.en, .int .i64 tt.s.ve, .slice tt.arq tt.arn tt.arc, .slice tt.kiq tt.kin tt.kic] ∧ z.rangeAt b (o + i * 21) cx) (by kernel_rfl) (by exact hT) (fun hHeld => ?_)
  refine wpAnyH_take (i := 0) (oi := ?op0x1) (v := .pointer (some ⟨w.heap.size, 20, none⟩)) ?ta0x1 ?tb0x1 ?tc0x1 ?td0x1 ?tq0x1 ?ty0x1 hHeld ?_
  case ta0x1 => rfl
  case tb0x1 => kernel_rfl
  case tc0x1 => kernel_rfl
  case td0x1 => kernel_rfl
  case tq0x1 => exact fun _ _ _ h => h
  case ty0x1 => exact Or.inl ⟨by rfl, by intro z hSz; go_simp⟩
  simp only [Act.put, List.setIfInBounds_toArray]
  refine wpAnyH_take (i := 1) (oi := ?op1x2) (v := .slice (some ⟨b, o, none⟩) d.kin d.kic) ?ta1x2 ?tb1x2 ?tc1x2 ?td1x2 ?tq1x2 ?ty1x2 hHeld ?_
  case ta1x2 => rfl
  case tb1x2 => kernel_rfl
  case tc1x2 => kernel_rfl
  case td1x2 => kernel_rfl
  case tq1x2 => exact fun _ _ _ h => h
  case ty1x2 => exact Or.inl ⟨by rfl, by intro z hSz; have hz1 := hSz.1; go_simp⟩
  simp only [Act.put]
  refine wpAnyH_take (i := 2) (oi := ?op2x3) (v := .int .i64 i) ?ta2x3 ?tb2x3 ?tc2x3 ?td2x3 ?tq2x3 ?ty2x3 hHeld ?_
  case ta2x3 => rfl
  case tb2x3 => kernel_rfl
  case tc2x3 => kernel_rfl
  case td2x3 => kernel_rfl
  case tq2x3 => exact fun _ _ _ h => h
  case ty2x3 => exact Or.inl ⟨by rfl, by intro z hSz; go_simp⟩
  simp only [Act.put]
  refine wpAnyH_take (i := 3) (oi := ?op3x4) (v := .pointer (some ⟨b, o + i * 21, none⟩)) ?ta3x4 ?tb3x4 ?tc3x4 ?td3x4 ?tq3x4 ?ty3x4 hHeld ?_
  case ta3x4 => rfl
  case tb3x4 => kernel_rfl
  case tc3x4 => kernel_rfl
  case td3x4 => kernel_rfl
  case tq3x4 => exact fun _ _ _ h => h
  case ty3x4 => exact Or.inl ⟨by rfl, by intro z hSz; go_simp⟩
  simp only [Act.put]
  refine wpAnyH_take (i := 4) (oi := ?op4x5) (v := .agg cx.toArray) ?ta4x5 ?tb4x5 ?tc4x5 ?td4x5 ?tq4x5 ?ty4x5 hHeld ?_
  case ta4x5 => rfl
  case tb4x5 => kernel_rfl
  case tc4x5 => kernel_rfl
  case td4x5 => kernel_rfl
  case tq4x5 => exact fun _ _ _ h => h
  case ty4x5 =>
    refine yieldsIf_load_mid ?tw4x5 32 (.tmp 33) ?to4x5 (b) (o + i * 21) ?tx4x5 cx dd (fun z hz => hz.2.2) hHu.out hd (by rw [lx]; exact st_size)
    case tw4x5 => kernel_rfl
    case to4x5 => rfl
    case tx4x5 => kernel_rfl
  simp only [Act.put]
  refine wpAnyH_take (i := 5) (oi := ?op5x6) (v := .slice (some ⟨pb, po, none⟩) n c) ?ta5x6 ?tb5x6 ?tc5x6 ?td5x6 ?tq5x6 ?ty5x6 hHeld ?_
  case ta5x6 => rfl
  case tb5x6 => kernel_rfl
  case tc5x6 => kernel_rfl
  case td5x6 => kernel_rfl
  case tq5x6 => exact fun _ _ _ h => h
  case ty5x6 => exact Or.inl ⟨by rfl, by intro z hSz; go_simp⟩
  simp only [Act.put]
  refine wpAnyH_take (i := 6) (oi := ?op6x7) (v := .slice pq (n - 1) (c - 1)) ?ta6x7 ?tb6x7 ?tc6x7 ?td6x7 ?tq6x7 ?ty6x7 hHeld ?_
  case ta6x7 => rfl
  case tb6x7 => kernel_rfl
  case tc6x7 => kernel_rfl
  case td6x7 => kernel_rfl
  case tq6x7 => exact fun _ _ _ h => h
  case ty6x7 => exact Or.inl ⟨by rfl, by intro z hSz; go_simp⟩
  simp only [Act.put]
  refine wpAnyH_take (i := 7) (oi := ?op7x8) (v := .agg #[.int .i64 tt.s.ru, .string tt.s.nm, .string tt.s.ot, .bool tt.s.g, .slice tt.aq tt.an tt.ac, .slice tt.cq tt.cn tt.cc, .int .i64 tt.s.kk, .int .i64 tt.s.nn, .int .i64 tt.s.pr, .int .i64 tt.e.k, .int .i64 tt.e.f, .bool tt.e.neg, .slice tt.e.aq tt.e.an tt.e.ac, .slice tt.e.cq tt.e.cn tt.e.cc, .string tt.e.m, .slice tt.e.sq tt.e.sn tt.e.sc, .slice tt.poq tt.pon tt.poc, .string tt.s.en, .int .i64 tt.s.ve, .slice tt.arq tt.arn tt.arc, .slice tt.kiq tt.kin tt.kic]) ?ta7x8 ?tb7x8 ?tc7x8 ?td7x8 ?tq7x8 ?ty7x8 hHeld ?_
  case ta7x8 => rfl
  case tb7x8 => kernel_rfl
  case tc7x8 => kernel_rfl
  case td7x8 => kernel_rfl
  case tq7x8 => exact fun _ _ _ h => h
  case ty7x8 =>
    refine yieldsIf_load_mid ?tw7x8 32 (.tmp 5) ?to7x8 (w.heap.size + 1) (0) ?tx7x8 [.int .i64 tt.s.ru, .string tt.s.nm, .string tt.s.ot, .bool tt.s.g, .slice tt.aq tt.an tt.ac, .slice tt.cq tt.cn tt.cc, .int .i64 tt.s.kk, .int .i64 tt.s.nn, .int .i64 tt.s.pr, .int .i64 tt.e.k, .int .i64 tt.e.f, .bool tt.e.neg, .slice tt.e.aq tt.e.an tt.e.ac, .slice tt.e.cq tt.e.cn tt.e.cc, .string tt.e.m, .slice tt.e.sq tt.e.sn tt.e.sc, .slice tt.poq tt.pon tt.poc, .string tt.s.en, .int .i64 tt.s.ve, .slice tt.arq tt.arn tt.arc, .slice tt.kiq tt.kin tt.kic] dd (fun z hz => hz.2.1) hHu.out hd (st_size)
    case tw7x8 => kernel_rfl
    case to7x8 => rfl
    case tx7x8 => kernel_rfl
  simp only [Act.put]
  refine wpAnyH_ready (rs := [8, 12]) (by kernel_rfl) (by simp) ?_
  refine AllReadyH.cons rfl (fun K hKK => ?_) (AllReadyH.cons rfl (fun K hKK => ?_) AllReadyH.nil)
  · go_simp
    refine (hR _ h3.drew).mono ?_
    rintro e w5 ⟨k, rfl, kA, hb5⟩
    have hs5 := hb5.size
    have hT5 : (fun z => z.cell? ⟨w.heap.size, 20, none⟩ = some (.slice (some ⟨b, o, none⟩) d.kin d.kic) ∧ z.rangeAt (w.heap.size + 1) 0 [.int .i64 tt.s.ru, .string tt.s.nm, .string tt.s.ot, .bool tt.s.g, .slice tt.aq tt.an tt.ac, .slice tt.cq tt.cn tt.cc, .int .i64 tt.s.kk, .int .i64 tt.s.nn, .int .i64 tt.s.pr, .int .i64 tt.e.k, .int .i64 tt.e.f, .bool tt.e.neg, .slice tt.e.aq tt.e.an tt.e.ac, .slice tt.e.cq tt.e.cn tt.e.cc, .string tt.e.m, .slice tt.e.sq tt.e.sn tt.e.sc, .slice tt.poq tt.pon tt.poc, .string tt.s.en, .int .i64 tt.s.ve, .slice tt.arq tt.arn tt.arc, .slice tt.kiq tt.kin tt.kic] ∧ z.rangeAt b (o + i * 21) cx) w5 := ⟨(hb5.cell (by show w.heap.size < _; omega)).trans hT.1, rangeAt_below (w := w3.drew) hT.2.1 hb5 (by omega), rangeAt_below (w := w3.drew) hT.2.2 hb5 (by omega)⟩
    refine hKK.out _ _ hT5 (fun hHeld5 => ?_)
    clear hKK K
    refine wpAnyH_take (i := 9) (oi := ?op9x17) (v := .tuple #[.agg #[.int .i64 k.s.ru, .string k.s.nm, .string k.s.ot, .bool k.s.g, .slice k.aq k.an k.ac, .slice k.cq k.cn k.cc, .int .i64 k.s.kk, .int .i64 k.s.nn, .int .i64 k.s.pr, .int .i64 k.e.k, .int .i64 k.e.f, .bool k.e.neg, .slice k.e.aq k.e.an k.e.ac, .slice k.e.cq k.e.cn k.e.cc, .string k.e.m, .slice k.e.sq k.e.sn k.e.sc, .slice k.poq k.pon k.poc, .string k.s.en, .int .i64 k.s.ve, .slice k.arq k.arn k.arc, .slice k.kiq k.kin k.kic], .bool true]) ?ta9x17 ?tb9x17 ?tc9x17 ?td9x17 ?tq9x17 ?ty9x17 hHeld5 ?_
    case ta9x17 => rfl
    case tb9x17 => kernel_rfl
    case tc9x17 => kernel_rfl
    case td9x17 => kernel_rfl
    case tq9x17 => exact fun _ _ _ h => h
    case ty9x17 => exact Or.inl ⟨by rfl, by intro z hSz; go_simp⟩
    simp only [Act.put, List.setIfInBounds_toArray]
    refine wpAnyH_take (i := 10) (oi := ?op10x18) (v := .agg #[.int .i64 k.s.ru, .string k.s.nm, .string k.s.ot, .bool k.s.g, .slice k.aq k.an k.ac, .slice k.cq k.cn k.cc, .int .i64 k.s.kk, .int .i64 k.s.nn, .int .i64 k.s.pr, .int .i64 k.e.k, .int .i64 k.e.f, .bool k.e.neg, .slice k.e.aq k.e.an k.e.ac, .slice k.e.cq k.e.cn k.e.cc, .string k.e.m, .slice k.e.sq k.e.sn k.e.sc, .slice k.poq k.pon k.poc, .string k.s.en, .int .i64 k.s.ve, .slice k.arq k.arn k.arc, .slice k.kiq k.kin k.kic]) ?ta10x18 ?tb10x18 ?tc10x18 ?td10x18 ?tq10x18 ?ty10x18 hHeld5 ?_
    case ta10x18 => rfl
    case tb10x18 => kernel_rfl
    case tc10x18 => kernel_rfl
    case td10x18 => kernel_rfl
    case tq10x18 => exact fun _ _ _ h => h
    case ty10x18 => exact Or.inl ⟨by rfl, by intro z hSz; go_simp⟩
    simp only [Act.put]
    refine wpAnyH_take (i := 11) (oi := ?op11x19) (v := .bool true) ?ta11x19 ?tb11x19 ?tc11x19 ?td11x19 ?tq11x19 ?ty11x19 hHeld5 ?_
    case ta11x19 => rfl
    case tb11x19 => kernel_rfl
    case tc11x19 => kernel_rfl
    case td11x19 => kernel_rfl
    case tq11x19 => exact fun _ _ _ h => h
    case ty11x19 => exact Or.inl ⟨by rfl, by intro z hSz; go_simp⟩
    simp only [Act.put]
    refine wpAnyH_ready (rs := [12]) (by kernel_rfl) (by simp) ?_
    refine AllReadyH.cons rfl (fun K hKK => ?_) AllReadyH.nil
    go_simp
    have hT6 : (fun z => z.cell? ⟨w.heap.size, 20, none⟩ = some (.slice (some ⟨b, o, none⟩) d.kin d.kic) ∧ z.rangeAt (w.heap.size + 1) 0 [.int .i64 tt.s.ru, .string tt.s.nm, .string tt.s.ot, .bool tt.s.g, .slice tt.aq tt.an tt.ac, .slice tt.cq tt.cn tt.cc, .int .i64 tt.s.kk, .int .i64 tt.s.nn, .int .i64 tt.s.pr, .int .i64 tt.e.k, .int .i64 tt.e.f, .bool tt.e.neg, .slice tt.e.aq tt.e.an tt.e.ac, .slice tt.e.cq tt.e.cn tt.e.cc, .string tt.e.m, .slice tt.e.sq tt.e.sn tt.e.sc, .slice tt.poq tt.pon tt.poc, .string tt.s.en, .int .i64 tt.s.ve, .slice tt.arq tt.arn tt.arc, .slice tt.kiq tt.kin tt.kic] ∧ z.rangeAt b (o + i * 21) cx) (w5.alloc (.cells #[.int .i64 0, .string ⟨#[]⟩, .string ⟨#[]⟩, .bool false, .slice none 0 0, .slice none 0 0, .int .i64 0, .int .i64 0, .int .i64 0, .int .i64 0, .int .i64 0, .bool false, .slice none 0 0, .slice none 0 0, .string ⟨#[]⟩, .slice none 0 0, .slice none 0 0, .string ⟨#[]⟩, .int .i64 0, .slice none 0 0, .slice none 0 0] 32)) := ⟨by rw [World.cell?_alloc_lt _ _ _ (by show w.heap.size < _; omega)]; exact hT5.1, World.rangeAt_alloc hT5.2.1 _, World.rangeAt_alloc hT5.2.2 _⟩
    refine hKK.out _ _ hT6 (fun _ => ?_)
    clear hKK K
    refine wpAnyH_ready (rs := [13]) (by kernel_rfl) (by simp) ?_
    refine AllReadyH.cons rfl (fun K hKK => ?_) AllReadyH.nil
    rw [if_pos (by kernel_rfl)]
    have hGt : (w5.alloc (.cells #[.int .i64 0, .string ⟨#[]⟩, .string ⟨#[]⟩, .bool false, .slice none 0 0, .slice none 0 0, .int .i64 0, .int .i64 0, .int .i64 0, .int .i64 0, .int .i64 0, .bool false, .slice none 0 0, .slice none 0 0, .string ⟨#[]⟩, .slice none 0 0, .slice none 0 0, .string ⟨#[]⟩, .int .i64 0, .slice none 0 0, .slice none 0 0] 32)).there (w5.heap.size) 0 21 := by have h := there_of_block (heap_alloc_last w5 (.cells #[.int .i64 0, .string ⟨#[]⟩, .string ⟨#[]⟩, .bool false, .slice none 0 0, .slice none 0 0, .int .i64 0, .int .i64 0, .int .i64 0, .int .i64 0, .int .i64 0, .bool false, .slice none 0 0, .slice none 0 0, .string ⟨#[]⟩, .slice none 0 0, .slice none 0 0, .string ⟨#[]⟩, .int .i64 0, .slice none 0 0, .slice none 0 0] 32 (0, 0))) (n := 21) rfl; exact h
    refine wp_store_mid 32 (.tmp 9) (.tmp 39) rfl (w5.heap.size) 0 #[.int .i64 k.s.ru, .string k.s.nm, .string k.s.ot, .bool k.s.g, .slice k.aq k.an k.ac, .slice k.cq k.cn k.cc, .int .i64 k.s.kk, .int .i64 k.s.nn, .int .i64 k.s.pr, .int .i64 k.e.k, .int .i64 k.e.f, .bool k.e.neg, .slice k.e.aq k.e.an k.e.ac, .slice k.e.cq k.e.cn k.e.cc, .string k.e.m, .slice k.e.sq k.e.sn k.e.sc, .slice k.poq k.pon k.poc, .string k.s.en, .int .i64 k.s.ve, .slice k.arq k.arn k.arc, .slice k.kiq k.kin k.kic] (by kernel_rfl) (by kernel_rfl) hGt st_size (all_oneCell_toArray (one_sd ⟨k.s, k.aq, k.an, k.ac, k.cq, k.cn, k.cc, k.e, k.poq, k.pon, k.poc, k.arq, k.arn, k.arc, k.kiq, k.kin, k.kic⟩)) ?_
    refine hKK.out _ _ ⟨by rw [World.cell?_setCells_out _ _ _ _ _ (fun e => absurd e (by show ¬ w.heap.size = _; omega))]; exact hT6.1, World.rangeAt_setCells_apart hT6.2.1 _ _ _ (.inl (by omega)), World.rangeAt_setCells_apart hT6.2.2 _ _ _ (.inl (by omega))⟩ (fun hHeld9 => ?_)
    clear hKK K
    refine wpAnyH_take (i := 14) (oi := ?op14x20) (v := .bool true) ?ta14x20 ?tb14x20 ?tc14x20 ?td14x20 ?tq14x20 ?ty14x20 hHeld9 ?_
    case ta14x20 => rfl
    case tb14x20 => kernel_rfl
    case tc14x20 => kernel_rfl
    case td14x20 => kernel_rfl
    case tq14x20 => exact fun _ _ _ h => h
    case ty14x20 => exact Or.inl ⟨by rfl, by intro z hSz; go_simp⟩
    simp only [Act.put, List.setIfInBounds_toArray]
    refine wpAnyH_done (by kernel_rfl) ?_ _
    have ZB := h3.drew
    have ZS : w.heap.size + 3 ≤ w3.drew.heap.size := by rw [s3d]; omega
    have ZD : w3.drew.rangeAt w.heap.size 0 [.int .i64 d.s.ru, .string d.s.nm, .string d.s.ot, .bool d.s.g, .slice d.aq d.an d.ac, .slice d.cq d.cn d.cc, .int .i64 d.s.kk, .int .i64 d.s.nn, .int .i64 d.s.pr, .int .i64 d.e.k, .int .i64 d.e.f, .bool d.e.neg, .slice d.e.aq d.e.an d.e.ac, .slice d.e.cq d.e.cn d.e.cc, .string d.e.m, .slice d.e.sq d.e.sn d.e.sc, .slice d.poq d.pon d.poc, .string d.s.en, .int .i64 d.s.ve, .slice d.arq d.arn d.arc, .slice (some ⟨b, o, none⟩) d.kin d.kic] := D3.out
    have ZE : w3.drew.there w.heap.size 0 21 := E3.out
    have ZR : w3.drew.there (w.heap.size + 2) 0 21 := R3.out
    obtain ⟨F1, F2, F3, F4, F5, F6, F7, F8⟩ := graft_stored (G := w5.heap.size) (wq := w5.alloc (.cells #[.int .i64 0, .string ⟨#[]⟩, .string ⟨#[]⟩, .bool false, .slice none 0 0, .slice none 0 0, .int .i64 0, .int .i64 0, .int .i64 0, .int .i64 0, .int .i64 0, .bool false, .slice none 0 0, .slice none 0 0, .string ⟨#[]⟩, .slice none 0 0, .slice none 0 0, .string ⟨#[]⟩, .int .i64 0, .slice none 0 0, .slice none 0 0] 32)) [.int .i64 k.s.ru, .string k.s.nm, .string k.s.ot, .bool k.s.g, .slice k.aq k.an k.ac, .slice k.cq k.cn k.cc, .int .i64 k.s.kk, .int .i64 k.s.nn, .int .i64 k.s.pr, .int .i64 k.e.k, .int .i64 k.e.f, .bool k.e.neg, .slice k.e.aq k.e.an k.e.ac, .slice k.e.cq k.e.cn k.e.cc, .string k.e.m, .slice k.e.sq k.e.sn k.e.sc, .slice k.poq k.pon k.poc, .string k.s.en, .int .i64 k.s.ve, .slice k.arq k.arn k.arc, .slice k.kiq k.kin k.kic] rfl hN ZB ZS hb5 kA ZD ZE ZR (.inr ⟨_, rfl, rfl⟩) hGt
    generalize hwz : World.setCells (w5.alloc (.cells #[.int .i64 0, .string ⟨#[]⟩, .string ⟨#[]⟩, .bool false, .slice none 0 0, .slice none 0 0, .int .i64 0, .int .i64 0, .int .i64 0, .int .i64 0, .int .i64 0, .bool false, .slice none 0 0, .slice none 0 0, .string ⟨#[]⟩, .slice none 0 0, .slice none 0 0, .string ⟨#[]⟩, .int .i64 0, .slice none 0 0, .slice none 0 0] 32)) (w5.heap.size) 0 _ = wz at *
    generalize hGd : w5.heap.size = G at *
    have hGl : w.heap.size + 2 < G := by omega
    clear hGd
    have F1' : Hid (wz.rangeAt G 0 [.int .i64 k.s.ru, .string k.s.nm, .string k.s.ot, .bool k.s.g, .slice k.aq k.an k.ac, .slice k.cq k.cn k.cc, .int .i64 k.s.kk, .int .i64 k.s.nn, .int .i64 k.s.pr, .int .i64 k.e.k, .int .i64 k.e.f, .bool k.e.neg, .slice k.e.aq k.e.an k.e.ac, .slice k.e.cq k.e.cn k.e.cc, .string k.e.m, .slice k.e.sq k.e.sn k.e.sc, .slice k.poq k.pon k.poc, .string k.s.en, .int .i64 k.s.ve, .slice k.arq k.arn k.arc, .slice k.kiq k.kin k.kic]) := F1
    have szz := F5.size
    have hnews' : Hid (∀ ob, ∀ j u, (((List.range d.kin).map ds).flatMap Sd.cells)[j]? = some u → (wz.alloc ob).cell? ((⟨b, o, none⟩ : Addr).add j) = some u) := fun ob => flat_cells fun j hj => World.rangeAt_alloc (rangeAt_below (hx j hj) F5 (by omega)) ob
    have c20 : ∀ ob, (wz.alloc ob).cell? ⟨w.heap.size, 20, none⟩ = some (.slice (some ⟨b, o, none⟩) d.kin d.kic) := fun ob => by
      have h := World.rangeAt_alloc F2 ob 20 _ rfl
      simpa using h
    have F2' : Hid (wz.rangeAt w.heap.size 0 [.int .i64 d.s.ru, .string d.s.nm, .string d.s.ot, .bool d.s.g, .slice d.aq d.an d.ac, .slice d.cq d.cn d.cc, .int .i64 d.s.kk, .int .i64 d.s.nn, .int .i64 d.s.pr, .int .i64 d.e.k, .int .i64 d.e.f, .bool d.e.neg, .slice d.e.aq d.e.an d.e.ac, .slice d.e.cq d.e.cn d.e.cc, .string d.e.m, .slice d.e.sq d.e.sn d.e.sc, .slice d.poq d.pon d.poc, .string d.s.en, .int .i64 d.s.ve, .slice d.arq d.arn d.arc, .slice (some ⟨b, o, none⟩) d.kin d.kic]) := F2
    have F3' : Hid (wz.there w.heap.size 0 21) := F3
    have F4' : Hid (wz.there (w.heap.size + 2) 0 21) := F4
    clear F1 F2 F3 F4 hwz
    go_wp2_with (first
      | (at_builtin; refine wpList_append_lies _ rfl _ _ 30 rfl wz.heap.size 32 i0 (.agg #[.int .i64 0, .string ⟨#[]⟩, .string ⟨#[]⟩, .bool false, .slice none 0 0, .slice none 0 0, .int .i64 0, .int .i64 0, .int .i64 0, .int .i64 0, .int .i64 0, .bool false, .slice none 0 0, .slice none 0 0, .string ⟨#[]⟩, .slice none 0 0, .slice none 0 0, .string ⟨#[]⟩, .int .i64 0, .slice none 0 0, .slice none 0 0]) 21 328 Tryz.underlying30 hi0 hz0 hz1 hz2 rfl (by decide) _ 0 [] rfl (owns_empty wz 32 21) ⟨b, o, none⟩ d.kin d.kic (((List.range d.kin).map ds).flatMap Sd.cells) rfl (by rw [flat_len (s := 21) Sd.len]; simp) (hnews'.out _) (one_flat d.kin ds) (by omega) (by unfold maxLen; omega) (by omega) (by simp) _ rfl ?_
         intro g cap w9 hown9 hgrow9 hat9 hlt9
         simp only [Nat.zero_add, List.nil_append] at hown9 ⊢
         have hle9 := (hown9.lt g rfl).1
         have back9 : Below wz.heap.size wz w9 := (below_one wz _).grown hgrow9 (by simp) (fun g' hg' => ((owns_empty wz 32 21).lt g' hg').1)
         have F19 : Hid (w9.rangeAt G 0 [.int .i64 k.s.ru, .string k.s.nm, .string k.s.ot, .bool k.s.g, .slice k.aq k.an k.ac, .slice k.cq k.cn k.cc, .int .i64 k.s.kk, .int .i64 k.s.nn, .int .i64 k.s.pr, .int .i64 k.e.k, .int .i64 k.e.f, .bool k.e.neg, .slice k.e.aq k.e.an k.e.ac, .slice k.e.cq k.e.cn k.e.cc, .string k.e.m, .slice k.e.sq k.e.sn k.e.sc, .slice k.poq k.pon k.poc, .string k.s.en, .int .i64 k.s.ve, .slice k.arq k.arn k.arc, .slice k.kiq k.kin k.kic]) := rangeAt_below F1'.out back9 (by omega)
         have Th9 : Hid (w9.there g (i * 21) 21) := owns_there hown9 hi
         have hil : (i : Int) < (d.kin : Int) := by omega)
      | (with_reducible refine wpList_load_mid (op := ⟨some 50, _, _, _, _, _⟩) ?_ 32 (.tmp 9) ?_ (G) (0) ?_ [.int .i64 k.s.ru, .string k.s.nm, .string k.s.ot, .bool k.s.g, .slice k.aq k.an k.ac, .slice k.cq k.cn k.cc, .int .i64 k.s.kk, .int .i64 k.s.nn, .int .i64 k.s.pr, .int .i64 k.e.k, .int .i64 k.e.f, .bool k.e.neg, .slice k.e.aq k.e.an k.e.ac, .slice k.e.cq k.e.cn k.e.cc, .string k.e.m, .slice k.e.sq k.e.sn k.e.sc, .slice k.poq k.pon k.poc, .string k.s.en, .int .i64 k.s.ve, .slice k.arq k.arn k.arc, .slice k.kiq k.kin k.kic] dd ?_ hHu.out hd ?_ ?_
         rotate_left 1
         · with_reducible rfl
         · kernel_rfl
         · exact F19.out
         · exact st_size
         rotate_left 1
         · rfl)
      | (with_reducible refine wpList_store_mid ?_ 32 (.tmp 51) (.tmp 50) ?_ (g) (i * 21) #[.int .i64 k.s.ru, .string k.s.nm, .string k.s.ot, .bool k.s.g, .slice k.aq k.an k.ac, .slice k.cq k.cn k.cc, .int .i64 k.s.kk, .int .i64 k.s.nn, .int .i64 k.s.pr, .int .i64 k.e.k, .int .i64 k.e.f, .bool k.e.neg, .slice k.e.aq k.e.an k.e.ac, .slice k.e.cq k.e.cn k.e.cc, .string k.e.m, .slice k.e.sq k.e.sn k.e.sc, .slice k.poq k.pon k.poc, .string k.s.en, .int .i64 k.s.ve, .slice k.arq k.arn k.arc, .slice k.kiq k.kin k.kic] ?_ ?_ ?_ ?_ ?_ ?_
         rotate_left 1
         · with_reducible rfl
         · kernel_rfl
         · kernel_rfl
         · exact Th9.out
         · exact st_size
         · exact all_oneCell_toArray (one_sd ⟨k.s, k.aq, k.an, k.ac, k.cq, k.cn, k.cc, k.e, k.poq, k.pon, k.poc, k.arq, k.arn, k.arc, k.kiq, k.kin, k.kic⟩)
         rotate_left 1
         · rfl
         have G1 := graft_row k [.int .i64 k.s.ru, .string k.s.nm, .string k.s.ot, .bool k.s.g, .slice k.aq k.an k.ac, .slice k.cq k.cn k.cc, .int .i64 k.s.kk, .int .i64 k.s.nn, .int .i64 k.s.pr, .int .i64 k.e.k, .int .i64 k.e.f, .bool k.e.neg, .slice k.e.aq k.e.an k.e.ac, .slice k.e.cq k.e.cn k.e.cc, .string k.e.m, .slice k.e.sq k.e.sn k.e.sc, .slice k.poq k.pon k.poc, .string k.s.en, .int .i64 k.s.ve, .slice k.arq k.arn k.arc, .slice k.kiq k.kin k.kic] rfl hown9 hi
         have d10 := World.rangeAt_setCells_apart (rangeAt_below F2'.out back9 (by omega)) g (i * 21) [.int .i64 k.s.ru, .string k.s.nm, .string k.s.ot, .bool k.s.g, .slice k.aq k.an k.ac, .slice k.cq k.cn k.cc, .int .i64 k.s.kk, .int .i64 k.s.nn, .int .i64 k.s.pr, .int .i64 k.e.k, .int .i64 k.e.f, .bool k.e.neg, .slice k.e.aq k.e.an k.e.ac, .slice k.e.cq k.e.cn k.e.cc, .string k.e.m, .slice k.e.sq k.e.sn k.e.sc, .slice k.poq k.pon k.poc, .string k.s.en, .int .i64 k.s.ve, .slice k.arq k.arn k.arc, .slice k.kiq k.kin k.kic] (.inl (by omega))
         have e10 := World.there_setCells (there_below F3'.out back9 (by omega)) g (i * 21) [.int .i64 k.s.ru, .string k.s.nm, .string k.s.ot, .bool k.s.g, .slice k.aq k.an k.ac, .slice k.cq k.cn k.cc, .int .i64 k.s.kk, .int .i64 k.s.nn, .int .i64 k.s.pr, .int .i64 k.e.k, .int .i64 k.e.f, .bool k.e.neg, .slice k.e.aq k.e.an k.e.ac, .slice k.e.cq k.e.cn k.e.cc, .string k.e.m, .slice k.e.sq k.e.sn k.e.sc, .slice k.poq k.pon k.poc, .string k.s.en, .int .i64 k.s.ve, .slice k.arq k.arn k.arc, .slice k.kiq k.kin k.kic]
         have r10 := World.there_setCells (there_below F4'.out back9 (by omega)) g (i * 21) [.int .i64 k.s.ru, .string k.s.nm, .string k.s.ot, .bool k.s.g, .slice k.aq k.an k.ac, .slice k.cq k.cn k.cc, .int .i64 k.s.kk, .int .i64 k.s.nn, .int .i64 k.s.pr, .int .i64 k.e.k, .int .i64 k.e.f, .bool k.e.neg, .slice k.e.aq k.e.an k.e.ac, .slice k.e.cq k.e.cn k.e.cc, .string k.e.m, .slice k.e.sq k.e.sn k.e.sc, .slice k.poq k.pon k.poc, .string k.s.en, .int .i64 k.s.ve, .slice k.arq k.arn k.arc, .slice k.kiq k.kin k.kic]
         obtain ⟨b10, s10, k10⟩ := setCells_facts wz.heap.size g (by omega) [.int .i64 k.s.ru, .string k.s.nm, .string k.s.ot, .bool k.s.g, .slice k.aq k.an k.ac, .slice k.cq k.cn k.cc, .int .i64 k.s.kk, .int .i64 k.s.nn, .int .i64 k.s.pr, .int .i64 k.e.k, .int .i64 k.e.f, .bool k.e.neg, .slice k.e.aq k.e.an k.e.ac, .slice k.e.cq k.e.cn k.e.cc, .string k.e.m, .slice k.e.sq k.e.sn k.e.sc, .slice k.poq k.pon k.poc, .string k.s.en, .int .i64 k.s.ve, .slice k.arq k.arn k.arc, .slice k.kiq k.kin k.kic] (i * 21) wz w9 back9
         generalize hw10 : World.setCells w9 g (i * 21) _ = w10 at *
         have c10 : w10.cell? ⟨w.heap.size, 20, none⟩ = some (.slice (some ⟨b, o, none⟩) d.kin d.kic) := by have h := d10 20 _ rfl; simpa using h
         have f10 : w10.frozen? ⟨w.heap.size, 20, none⟩ = false := by have h := (e10 20 (by omega)).2; simpa using h
         have d11 : Hid ((w10.setCell ⟨w.heap.size, 20, none⟩ (.slice (some ⟨g, 0, none⟩) d.kin cap)).rangeAt w.heap.size 0 [.int .i64 d.s.ru, .string d.s.nm, .string d.s.ot, .bool d.s.g, .slice d.aq d.an d.ac, .slice d.cq d.cn d.cc, .int .i64 d.s.kk, .int .i64 d.s.nn, .int .i64 d.s.pr, .int .i64 d.e.k, .int .i64 d.e.f, .bool d.e.neg, .slice d.e.aq d.e.an d.e.ac, .slice d.e.cq d.e.cn d.e.cc, .string d.e.m, .slice d.e.sq d.e.sn d.e.sc, .slice d.poq d.pon d.poc, .string d.s.en, .int .i64 d.s.ve, .slice d.arq d.arn d.arc, .slice (some ⟨g, 0, none⟩) d.kin cap]) := range_set d10 (by simp) _
         have r11 : Hid ((w10.setCell ⟨w.heap.size, 20, none⟩ (.slice (some ⟨g, 0, none⟩) d.kin cap)).there (w.heap.size + 2) 0 21) := there_set r10 _ _ _)
      | (with_reducible refine wpList_load_mid (op := ⟨some 54, _, _, _, _, _⟩) ?_ 32 (.tmp 3) ?_ (w.heap.size) (0) ?_ [.int .i64 d.s.ru, .string d.s.nm, .string d.s.ot, .bool d.s.g, .slice d.aq d.an d.ac, .slice d.cq d.cn d.cc, .int .i64 d.s.kk, .int .i64 d.s.nn, .int .i64 d.s.pr, .int .i64 d.e.k, .int .i64 d.e.f, .bool d.e.neg, .slice d.e.aq d.e.an d.e.ac, .slice d.e.cq d.e.cn d.e.cc, .string d.e.m, .slice d.e.sq d.e.sn d.e.sc, .slice d.poq d.pon d.poc, .string d.s.en, .int .i64 d.s.ve, .slice d.arq d.arn d.arc, .slice (some ⟨g, 0, none⟩) d.kin cap] dd ?_ hHu.out hd ?_ ?_
         rotate_left 1
         · with_reducible rfl
         · kernel_rfl
         · exact d11.out
         · exact st_size
         rotate_left 1
         · rfl)
      | (with_reducible refine wpList_store_mid ?_ 32 (.tmp 6) (.tmp 54) ?_ (w.heap.size + 2) (0) #[.int .i64 d.s.ru, .string d.s.nm, .string d.s.ot, .bool d.s.g, .slice d.aq d.an d.ac, .slice d.cq d.cn d.cc, .int .i64 d.s.kk, .int .i64 d.s.nn, .int .i64 d.s.pr, .int .i64 d.e.k, .int .i64 d.e.f, .bool d.e.neg, .slice d.e.aq d.e.an d.e.ac, .slice d.e.cq d.e.cn d.e.cc, .string d.e.m, .slice d.e.sq d.e.sn d.e.sc, .slice d.poq d.pon d.poc, .string d.s.en, .int .i64 d.s.ve, .slice d.arq d.arn d.arc, .slice (some ⟨g, 0, none⟩) d.kin cap] ?_ ?_ ?_ ?_ ?_ ?_
         rotate_left 1
         · with_reducible rfl
         · kernel_rfl
         · kernel_rfl
         · exact r11.out
         · exact st_size
         · exact all_oneCell_toArray (one_sd ⟨d.s, d.aq, d.an, d.ac, d.cq, d.cn, d.cc, d.e, d.poq, d.pon, d.poc, d.arq, d.arn, d.arc, some ⟨g, 0, none⟩, d.kin, cap⟩)
         rotate_left 1
         · rfl))
    have W11 : Below w.heap.size w (w10.setCell ⟨w.heap.size, 20, none⟩ (.slice (some ⟨g, 0, none⟩) d.kin cap)) := (F5.trans (b10.mono (by omega))).setCell (by show w.heap.size ≤ w.heap.size; omega) _
    obtain ⟨hW8, hs8, hb8⟩ := setCells_facts w.heap.size (w.heap.size + 2) (by omega) [.int .i64 d.s.ru, .string d.s.nm, .string d.s.ot, .bool d.s.g, .slice d.aq d.an d.ac, .slice d.cq d.cn d.cc, .int .i64 d.s.kk, .int .i64 d.s.nn, .int .i64 d.s.pr, .int .i64 d.e.k, .int .i64 d.e.f, .bool d.e.neg, .slice d.e.aq d.e.an d.e.ac, .slice d.e.cq d.e.cn d.e.cc, .string d.e.m, .slice d.e.sq d.e.sn d.e.sc, .slice d.poq d.pon d.poc, .string d.s.en, .int .i64 d.s.ve, .slice d.arq d.arn d.arc, .slice (some ⟨g, 0, none⟩) d.kin cap] 0 w _ W11
    have hr8 := World.rangeAt_setCells_same _ (w.heap.size + 2) 0 [.int .i64 d.s.ru, .string d.s.nm, .string d.s.ot, .bool d.s.g, .slice d.aq d.an d.ac, .slice d.cq d.cn d.cc, .int .i64 d.s.kk, .int .i64 d.s.nn, .int .i64 d.s.pr, .int .i64 d.e.k, .int .i64 d.e.f, .bool d.e.neg, .slice d.e.aq d.e.an d.e.ac, .slice d.e.cq d.e.cn d.e.cc, .string d.e.m, .slice d.e.sq d.e.sn d.e.sc, .slice d.poq d.pon d.poc, .string d.s.en, .int .i64 d.s.ve, .slice d.arq d.arn d.arc, .slice (some ⟨g, 0, none⟩) d.kin cap] r11.out
    change bodyPost _ _ _ _ _ ((w10.setCell ⟨w.heap.size, 20, none⟩ (.slice (some ⟨g, 0, none⟩) d.kin cap)).setCells (w.heap.size + 2) 0 [.int .i64 d.s.ru, .string d.s.nm, .string d.s.ot, .bool d.s.g, .slice d.aq d.an d.ac, .slice d.cq d.cn d.cc, .int .i64 d.s.kk, .int .i64 d.s.nn, .int .i64 d.s.pr, .int .i64 d.e.k, .int .i64 d.e.f, .bool d.e.neg, .slice d.e.aq d.e.an d.e.ac, .slice d.e.cq d.e.cn d.e.cc, .string d.e.m, .slice d.e.sq d.e.sn d.e.sc, .slice d.poq d.pon d.poc, .string d.s.en, .int .i64 d.s.ve, .slice d.arq d.arn d.arc, .slice (some ⟨g, 0, none⟩) d.kin cap])
    generalize hw8 : (w10.setCell ⟨w.heap.size, 20, none⟩ (.slice (some ⟨g, 0, none⟩) d.kin cap)).setCells (w.heap.size + 2) 0 [.int .i64 d.s.ru, .string d.s.nm, .string d.s.ot, .bool d.s.g, .slice d.aq d.an d.ac, .slice d.cq d.cn d.cc, .int .i64 d.s.kk, .int .i64 d.s.nn, .int .i64 d.s.pr, .int .i64 d.e.k, .int .i64 d.e.f, .bool d.e.neg, .slice d.e.aq d.e.an d.e.ac, .slice d.e.cq d.e.cn d.e.cc, .string d.e.m, .slice d.e.sq d.e.sn d.e.sc, .slice d.poq d.pon d.poc, .string d.s.en, .int .i64 d.s.ve, .slice d.arq d.arn d.arc, .slice (some ⟨g, 0, none⟩) d.kin cap] = w8 at *
    refine bodyPost_ret (results_cell_tmp_mid rfl _ _ (w.heap.size + 2) _ dd rfl hr8 hHu.out hd st_size) rfl ?_
    have hsz8 : w8.heap.size = w9.heap.size := by rw [hs8]; simpa using s10
    have old8 : ∀ b', b' ≠ w.heap.size → b' ≠ w.heap.size + 2 → w8.heap[b']? = w10.heap[b']? := fun b' h1 h2 => (hb8 b' h2).trans (Below.heap_setCell _ _ _ _ h1)
    have s9 := back9.size
    refine ⟨g, ⟨cap, rfl⟩, by omega, by omega, k, fun j hj => (Keeps.range (A := (· = g)) (fun b' e => old8 b' (by rw [e]; omega) (by rw [e]; omega)) rfl (by have h := G1 j hj; rw [Nat.zero_add] at h; exact h)), F6.keep (fun b' hb' => ?_) (fun b' hb' => ?_), hW8⟩
    · have h1 : b' < wz.heap.size ∧ b' ≠ w.heap.size ∧ b' ≠ w.heap.size + 2 := by rcases hb' with h | ⟨h, h2, _⟩ <;> omega
      rw [old8 b' h1.2.1 h1.2.2, b10.block b' h1.1]
    · rcases hb' with h | ⟨h, h2, _⟩
      · exact .inl h
      · exact .inr ⟨by omega, by omega⟩
  · go_simp
    have hTa : (fun z => z.cell? ⟨w.heap.size, 20, none⟩ = some (.slice (some ⟨b, o, none⟩) d.kin d.kic) ∧ z.rangeAt (w.heap.size + 1) 0 [.int .i64 tt.s.ru, .string tt.s.nm, .string tt.s.ot, .bool tt.s.g, .slice tt.aq tt.an tt.ac, .slice tt.cq tt.cn tt.cc, .int .i64 tt.s.kk, .int .i64 tt.s.nn, .int .i64 tt.s.pr, .int .i64 tt.e.k, .int .i64 tt.e.f, .bool tt.e.neg, .slice tt.e.aq tt.e.an tt.e.ac, .slice tt.e.cq tt.e.cn tt.e.cc, .string tt.e.m, .slice tt.e.sq tt.e.sn tt.e.sc, .slice tt.poq tt.pon tt.poc, .string tt.s.en, .int .i64 tt.s.ve, .slice tt.arq tt.arn tt.arc, .slice tt.kiq tt.kin tt.kic] ∧ z.rangeAt b (o + i * 21) cx) (w3.drew.alloc (.cells #[.int .i64 0, .string ⟨#[]⟩, .string ⟨#[]⟩, .bool false, .slice none 0 0, .slice none 0 0, .int .i64 0, .int .i64 0, .int .i64 0, .int .i64 0, .int .i64 0, .bool false, .slice none 0 0, .slice none 0 0, .string ⟨#[]⟩, .slice none 0 0, .slice none 0 0, .string ⟨#[]⟩, .int .i64 0, .slice none 0 0, .slice none 0 0] 32)) := ⟨by rw [World.cell?_alloc_lt _ _ _ (by show w.heap.size < _; omega)]; exact hT.1, World.rangeAt_alloc hT.2.1 _, World.rangeAt_alloc hT.2.2 _⟩
    refine hKK.out _ _ hTa (fun _ => ?_)
    clear hKK K
    have hba : Below w.heap.size w (w3.drew.alloc (.cells #[.int .i64 0, .string ⟨#[]⟩, .string ⟨#[]⟩, .bool false, .slice none 0 0, .slice none 0 0, .int .i64 0, .int .i64 0, .int .i64 0, .int .i64 0, .int .i64 0, .bool false, .slice none 0 0, .slice none 0 0, .string ⟨#[]⟩, .slice none 0 0, .slice none 0 0, .string ⟨#[]⟩, .int .i64 0, .slice none 0 0, .slice none 0 0] 32)) := h3.drew.alloc (by rw [s3d]; omega) _
    have sa : (w3.drew.alloc (.cells #[.int .i64 0, .string ⟨#[]⟩, .string ⟨#[]⟩, .bool false, .slice none 0 0, .slice none 0 0, .int .i64 0, .int .i64 0, .int .i64 0, .int .i64 0, .int .i64 0, .bool false, .slice none 0 0, .slice none 0 0, .string ⟨#[]⟩, .slice none 0 0, .slice none 0 0, .string ⟨#[]⟩, .int .i64 0, .slice none 0 0, .slice none 0 0] 32)).heap.size = w.heap.size + 4 := by show (w3.heap.push _).size = _; simp; exact s3
    refine wpAnyH_ready (rs := [8]) (by kernel_rfl) (by simp) ?_
    refine AllReadyH.cons rfl (fun K hKK => ?_) AllReadyH.nil
    go_simp
    refine (hR _ hba).mono ?_
    rintro e w5 ⟨k, rfl, kA, hb5⟩
    have hs5 := hb5.size
    have hT5 : (fun z => z.cell? ⟨w.heap.size, 20, none⟩ = some (.slice (some ⟨b, o, none⟩) d.kin d.kic) ∧ z.rangeAt (w.heap.size + 1) 0 [.int .i64 tt.s.ru, .string tt.s.nm, .string tt.s.ot, .bool tt.s.g, .slice tt.aq tt.an tt.ac, .slice tt.cq tt.cn tt.cc, .int .i64 tt.s.kk, .int .i64 tt.s.nn, .int .i64 tt.s.pr, .int .i64 tt.e.k, .int .i64 tt.e.f, .bool tt.e.neg, .slice tt.e.aq tt.e.an tt.e.ac, .slice tt.e.cq tt.e.cn tt.e.cc, .string tt.e.m, .slice tt.e.sq tt.e.sn tt.e.sc, .slice tt.poq tt.pon tt.poc, .string tt.s.en, .int .i64 tt.s.ve, .slice tt.arq tt.arn tt.arc, .slice tt.kiq tt.kin tt.kic] ∧ z.rangeAt b (o + i * 21) cx) w5 := ⟨(hb5.cell (by show w.heap.size < _; omega)).trans hTa.1, rangeAt_below (w := (w3.drew.alloc (.cells #[.int .i64 0, .string ⟨#[]⟩, .string ⟨#[]⟩, .bool false, .slice none 0 0, .slice none 0 0, .int .i64 0, .int .i64 0, .int .i64 0, .int .i64 0, .int .i64 0, .bool false, .slice none 0 0, .slice none 0 0, .string ⟨#[]⟩, .slice none 0 0, .slice none 0 0, .string ⟨#[]⟩, .int .i64 0, .slice none 0 0, .slice none 0 0] 32))) hTa.2.1 hb5 (by omega), rangeAt_below (w := (w3.drew.alloc (.cells #[.int .i64 0, .string ⟨#[]⟩, .string ⟨#[]⟩, .bool false, .slice none 0 0, .slice none 0 0, .int .i64 0, .int .i64 0, .int .i64 0, .int .i64 0, .int .i64 0, .bool false, .slice none 0 0, .slice none 0 0, .string ⟨#[]⟩, .slice none 0 0, .slice none 0 0, .string ⟨#[]⟩, .int .i64 0, .slice none 0 0, .slice none 0 0] 32))) hTa.2.2 hb5 (by omega)⟩
    refine hKK.out _ _ hT5 (fun hHeld5 => ?_)
    clear hKK K
    refine wpAnyH_take (i := 9) (oi := ?op9x21) (v := .tuple #[.agg #[.int .i64 k.s.ru, .string k.s.nm, .string k.s.ot, .bool k.s.g, .slice k.aq k.an k.ac, .slice k.cq k.cn k.cc, .int .i64 k.s.kk, .int .i64 k.s.nn, .int .i64 k.s.pr, .int .i64 k.e.k, .int .i64 k.e.f, .bool k.e.neg, .slice k.e.aq k.e.an k.e.ac, .slice k.e.cq k.e.cn k.e.cc, .string k.e.m, .slice k.e.sq k.e.sn k.e.sc, .slice k.poq k.pon k.poc, .string k.s.en, .int .i64 k.s.ve, .slice k.arq k.arn k.arc, .slice k.kiq k.kin k.kic], .bool true]) ?ta9x21 ?tb9x21 ?tc9x21 ?td9x21 ?tq9x21 ?ty9x21 hHeld5 ?_
    case ta9x21 => rfl
    case tb9x21 => kernel_rfl
    case tc9x21 => kernel_rfl
    case td9x21 => kernel_rfl
    case tq9x21 => exact fun _ _ _ h => h
    case ty9x21 => exact Or.inl ⟨by rfl, by intro z hSz; go_simp⟩
    simp only [Act.put, List.setIfInBounds_toArray]
    refine wpAnyH_take (i := 10) (oi := ?op10x22) (v := .agg #[.int .i64 k.s.ru, .string k.s.nm, .string k.s.ot, .bool k.s.g, .slice k.aq k.an k.ac, .slice k.cq k.cn k.cc, .int .i64 k.s.kk, .int .i64 k.s.nn, .int .i64 k.s.pr, .int .i64 k.e.k, .int .i64 k.e.f, .bool k.e.neg, .slice k.e.aq k.e.an k.e.ac, .slice k.e.cq k.e.cn k.e.cc, .string k.e.m, .slice k.e.sq k.e.sn k.e.sc, .slice k.poq k.pon k.poc, .string k.s.en, .int .i64 k.s.ve, .slice k.arq k.arn k.arc, .slice k.kiq k.kin k.kic]) ?ta10x22 ?tb10x22 ?tc10x22 ?td10x22 ?tq10x22 ?ty10x22 hHeld5 ?_
    case ta10x22 => rfl
    case tb10x22 => kernel_rfl
    case tc10x22 => kernel_rfl
    case td10x22 => kernel_rfl
    case tq10x22 => exact fun _ _ _ h => h
    case ty10x22 => exact Or.inl ⟨by rfl, by intro z hSz; go_simp⟩
    simp only [Act.put]
    refine wpAnyH_take (i := 11) (oi := ?op11x23) (v := .bool true) ?ta11x23 ?tb11x23 ?tc11x23 ?td11x23 ?tq11x23 ?ty11x23 hHeld5 ?_
    case ta11x23 => rfl
    case tb11x23 => kernel_rfl
    case tc11x23 => kernel_rfl
    case td11x23 => kernel_rfl
    case tq11x23 => exact fun _ _ _ h => h
    case ty11x23 => exact Or.inl ⟨by rfl, by intro z hSz; go_simp⟩
    simp only [Act.put]
    refine wpAnyH_ready (rs := [13]) (by kernel_rfl) (by simp) ?_
    refine AllReadyH.cons rfl (fun K hKK => ?_) AllReadyH.nil
    rw [if_pos (by kernel_rfl)]
    have hGt : (w5).there (w.heap.size + 3) 0 21 := by have h := there_of_block (heap_alloc_last w3.drew (.cells #[.int .i64 0, .string ⟨#[]⟩, .string ⟨#[]⟩, .bool false, .slice none 0 0, .slice none 0 0, .int .i64 0, .int .i64 0, .int .i64 0, .int .i64 0, .int .i64 0, .bool false, .slice none 0 0, .slice none 0 0, .string ⟨#[]⟩, .slice none 0 0, .slice none 0 0, .string ⟨#[]⟩, .int .i64 0, .slice none 0 0, .slice none 0 0] 32 (0, 0))) (n := 21) rfl; rw [s3d] at h; exact there_below h hb5 (by omega)
    refine wp_store_mid 32 (.tmp 9) (.tmp 39) rfl (w.heap.size + 3) 0 #[.int .i64 k.s.ru, .string k.s.nm, .string k.s.ot, .bool k.s.g, .slice k.aq k.an k.ac, .slice k.cq k.cn k.cc, .int .i64 k.s.kk, .int .i64 k.s.nn, .int .i64 k.s.pr, .int .i64 k.e.k, .int .i64 k.e.f, .bool k.e.neg, .slice k.e.aq k.e.an k.e.ac, .slice k.e.cq k.e.cn k.e.cc, .string k.e.m, .slice k.e.sq k.e.sn k.e.sc, .slice k.poq k.pon k.poc, .string k.s.en, .int .i64 k.s.ve, .slice k.arq k.arn k.arc, .slice k.kiq k.kin k.kic] (by kernel_rfl) (by kernel_rfl) hGt st_size (all_oneCell_toArray (one_sd ⟨k.s, k.aq, k.an, k.ac, k.cq, k.cn, k.cc, k.e, k.poq, k.pon, k.poc, k.arq, k.arn, k.arc, k.kiq, k.kin, k.kic⟩)) ?_
    refine hKK.out _ _ ⟨by rw [World.cell?_setCells_out _ _ _ _ _ (fun e => absurd e (by show ¬ w.heap.size = _; omega))]; exact hT5.1, World.rangeAt_setCells_apart hT5.2.1 _ _ _ (.inl (by omega)), World.rangeAt_setCells_apart hT5.2.2 _ _ _ (.inl (by omega))⟩ (fun hHeld9 => ?_)
    clear hKK K
    refine wpAnyH_take (i := 14) (oi := ?op14x24) (v := .bool true) ?ta14x24 ?tb14x24 ?tc14x24 ?td14x24 ?tq14x24 ?ty14x24 hHeld9 ?_
    case ta14x24 => rfl
    case tb14x24 => kernel_rfl
    case tc14x24 => kernel_rfl
    case td14x24 => kernel_rfl
    case tq14x24 => exact fun _ _ _ h => h
    case ty14x24 => exact Or.inl ⟨by rfl, by intro z hSz; go_simp⟩
    simp only [Act.put]
    refine wpAnyH_done (by kernel_rfl) ?_ _
    have ZB := hba
    have ZS : w.heap.size + 3 ≤ (w3.drew.alloc (.cells #[.int .i64 0, .string ⟨#[]⟩, .string ⟨#[]⟩, .bool false, .slice none 0 0, .slice none 0 0, .int .i64 0, .int .i64 0, .int .i64 0, .int .i64 0, .int .i64 0, .bool false, .slice none 0 0, .slice none 0 0, .string ⟨#[]⟩, .slice none 0 0, .slice none 0 0, .string ⟨#[]⟩, .int .i64 0, .slice none 0 0, .slice none 0 0] 32)).heap.size := by rw [sa]; omega
    have ZD : (w3.drew.alloc (.cells #[.int .i64 0, .string ⟨#[]⟩, .string ⟨#[]⟩, .bool false, .slice none 0 0, .slice none 0 0, .int .i64 0, .int .i64 0, .int .i64 0, .int .i64 0, .int .i64 0, .bool false, .slice none 0 0, .slice none 0 0, .string ⟨#[]⟩, .slice none 0 0, .slice none 0 0, .string ⟨#[]⟩, .int .i64 0, .slice none 0 0, .slice none 0 0] 32)).rangeAt w.heap.size 0 [.int .i64 d.s.ru, .string d.s.nm, .string d.s.ot, .bool d.s.g, .slice d.aq d.an d.ac, .slice d.cq d.cn d.cc, .int .i64 d.s.kk, .int .i64 d.s.nn, .int .i64 d.s.pr, .int .i64 d.e.k, .int .i64 d.e.f, .bool d.e.neg, .slice d.e.aq d.e.an d.e.ac, .slice d.e.cq d.e.cn d.e.cc, .string d.e.m, .slice d.e.sq d.e.sn d.e.sc, .slice d.poq d.pon d.poc, .string d.s.en, .int .i64 d.s.ve, .slice d.arq d.arn d.arc, .slice (some ⟨b, o, none⟩) d.kin d.kic] := World.rangeAt_alloc (w := w3.drew) D3.out _
    have ZE : (w3.drew.alloc (.cells #[.int .i64 0, .string ⟨#[]⟩, .string ⟨#[]⟩, .bool false, .slice none 0 0, .slice none 0 0, .int .i64 0, .int .i64 0, .int .i64 0, .int .i64 0, .int .i64 0, .bool false, .slice none 0 0, .slice none 0 0, .string ⟨#[]⟩, .slice none 0 0, .slice none 0 0, .string ⟨#[]⟩, .int .i64 0, .slice none 0 0, .slice none 0 0] 32)).there w.heap.size 0 21 := World.there_alloc (w := w3.drew) E3.out _
    have ZR : (w3.drew.alloc (.cells #[.int .i64 0, .string ⟨#[]⟩, .string ⟨#[]⟩, .bool false, .slice none 0 0, .slice none 0 0, .int .i64 0, .int .i64 0, .int .i64 0, .int .i64 0, .int .i64 0, .bool false, .slice none 0 0, .slice none 0 0, .string ⟨#[]⟩, .slice none 0 0, .slice none 0 0, .string ⟨#[]⟩, .int .i64 0, .slice none 0 0, .slice none 0 0] 32)).there (w.heap.size + 2) 0 21 := World.there_alloc (w := w3.drew) R3.out _
    obtain ⟨F1, F2, F3, F4, F5, F6, F7, F8⟩ := graft_stored (G := (w.heap.size + 3)) (wq := w5) [.int .i64 k.s.ru, .string k.s.nm, .string k.s.ot, .bool k.s.g, .slice k.aq k.an k.ac, .slice k.cq k.cn k.cc, .int .i64 k.s.kk, .int .i64 k.s.nn, .int .i64 k.s.pr, .int .i64 k.e.k, .int .i64 k.e.f, .bool k.e.neg, .slice k.e.aq k.e.an k.e.ac, .slice k.e.cq k.e.cn k.e.cc, .string k.e.m, .slice k.e.sq k.e.sn k.e.sc, .slice k.poq k.pon k.poc, .string k.s.en, .int .i64 k.s.ve, .slice k.arq k.arn k.arc, .slice k.kiq k.kin k.kic] rfl hN ZB ZS hb5 kA ZD ZE ZR (.inl ⟨rfl, Nat.le_refl _, by rw [sa]; omega⟩) hGt
    generalize hwz : World.setCells (w5) ((w.heap.size + 3)) 0 _ = wz at *
    generalize hGd : (w.heap.size + 3) = G at *
    have hGl : w.heap.size + 2 < G := by omega
    clear hGd
    have F1' : Hid (wz.rangeAt G 0 [.int .i64 k.s.ru, .string k.s.nm, .string k.s.ot, .bool k.s.g, .slice k.aq k.an k.ac, .slice k.cq k.cn k.cc, .int .i64 k.s.kk, .int .i64 k.s.nn, .int .i64 k.s.pr, .int .i64 k.e.k, .int .i64 k.e.f, .bool k.e.neg, .slice k.e.aq k.e.an k.e.ac, .slice k.e.cq k.e.cn k.e.cc, .string k.e.m, .slice k.e.sq k.e.sn k.e.sc, .slice k.poq k.pon k.poc, .string k.s.en, .int .i64 k.s.ve, .slice k.arq k.arn k.arc, .slice k.kiq k.kin k.kic]) := F1
    have szz := F5.size
    have hnews' : Hid (∀ ob, ∀ j u, (((List.range d.kin).map ds).flatMap Sd.cells)[j]? = some u → (wz.alloc ob).cell? ((⟨b, o, none⟩ : Addr).add j) = some u) := fun ob => flat_cells fun j hj => World.rangeAt_alloc (rangeAt_below (hx j hj) F5 (by omega)) ob
    have c20 : ∀ ob, (wz.alloc ob).cell? ⟨w.heap.size, 20, none⟩ = some (.slice (some ⟨b, o, none⟩) d.kin d.kic) := fun ob => by
      have h := World.rangeAt_alloc F2 ob 20 _ rfl
      simpa using h
    have F2' : Hid (wz.rangeAt w.heap.size 0 [.int .i64 d.s.ru, .string d.s.nm, .string d.s.ot, .bool d.s.g, .slice d.aq d.an d.ac, .slice d.cq d.cn d.cc, .int .i64 d.s.kk, .int .i64 d.s.nn, .int .i64 d.s.pr, .int .i64 d.e.k, .int .i64 d.e.f, .bool d.e.neg, .slice d.e.aq d.e.an d.e.ac, .slice d.e.cq d.e.cn d.e.cc, .string d.e.m, .slice d.e.sq d.e.sn d.e.sc, .slice d.poq d.pon d.poc, .string d.s.en, .int .i64 d.s.ve, .slice d.arq d.arn d.arc, .slice (some ⟨b, o, none⟩) d.kin d.kic]) := F2
    have F3' : Hid (wz.there w.heap.size 0 21) := F3
    have F4' : Hid (wz.there (w.heap.size + 2) 0 21) := F4
    clear F1 F2 F3 F4 hwz
    go_wp2_with (first
      | (at_builtin; refine wpList_append_lies _ rfl _ _ 30 rfl wz.heap.size 32 i0 (.agg #[.int .i64 0, .string ⟨#[]⟩, .string ⟨#[]⟩, .bool false, .slice none 0 0, .slice none 0 0, .int .i64 0, .int .i64 0, .int .i64 0, .int .i64 0, .int .i64 0, .bool false, .slice none 0 0, .slice none 0 0, .string ⟨#[]⟩, .slice none 0 0, .slice none 0 0, .string ⟨#[]⟩, .int .i64 0, .slice none 0 0, .slice none 0 0]) 21 328 Tryz.underlying30 hi0 hz0 hz1 hz2 rfl (by decide) _ 0 [] rfl (owns_empty wz 32 21) ⟨b, o, none⟩ d.kin d.kic (((List.range d.kin).map ds).flatMap Sd.cells) rfl (by rw [flat_len (s := 21) Sd.len]; simp) (hnews'.out _) (one_flat d.kin ds) (by omega) (by unfold maxLen; omega) (by omega) (by simp) _ rfl ?_
         intro g cap w9 hown9 hgrow9 hat9 hlt9
         simp only [Nat.zero_add, List.nil_append] at hown9 ⊢
         have hle9 := (hown9.lt g rfl).1
         have back9 : Below wz.heap.size wz w9 := (below_one wz _).grown hgrow9 (by simp) (fun g' hg' => ((owns_empty wz 32 21).lt g' hg').1)
         have F19 : Hid (w9.rangeAt G 0 [.int .i64 k.s.ru, .string k.s.nm, .string k.s.ot, .bool k.s.g, .slice k.aq k.an k.ac, .slice k.cq k.cn k.cc, .int .i64 k.s.kk, .int .i64 k.s.nn, .int .i64 k.s.pr, .int .i64 k.e.k, .int .i64 k.e.f, .bool k.e.neg, .slice k.e.aq k.e.an k.e.ac, .slice k.e.cq k.e.cn k.e.cc, .string k.e.m, .slice k.e.sq k.e.sn k.e.sc, .slice k.poq k.pon k.poc, .string k.s.en, .int .i64 k.s.ve, .slice k.arq k.arn k.arc, .slice k.kiq k.kin k.kic]) := rangeAt_below F1'.out back9 (by omega)
         have Th9 : Hid (w9.there g (i * 21) 21) := owns_there hown9 hi
         have hil : (i : Int) < (d.kin : Int) := by omega)
      | (with_reducible refine wpList_load_mid (op := ⟨some 50, _, _, _, _, _⟩) ?_ 32 (.tmp 9) ?_ (G) (0) ?_ [.int .i64 k.s.ru, .string k.s.nm, .string k.s.ot, .bool k.s.g, .slice k.aq k.an k.ac, .slice k.cq k.cn k.cc, .int .i64 k.s.kk, .int .i64 k.s.nn, .int .i64 k.s.pr, .int .i64 k.e.k, .int .i64 k.e.f, .bool k.e.neg, .slice k.e.aq k.e.an k.e.ac, .slice k.e.cq k.e.cn k.e.cc, .string k.e.m, .slice k.e.sq k.e.sn k.e.sc, .slice k.poq k.pon k.poc, .string k.s.en, .int .i64 k.s.ve, .slice k.arq k.arn k.arc, .slice k.kiq k.kin k.kic] dd ?_ hHu.out hd ?_ ?_
         rotate_left 1
         · with_reducible rfl
         · kernel_rfl
         · exact F19.out
         · exact st_size
         rotate_left 1
         · rfl)
      | (with_reducible refine wpList_store_mid ?_ 32 (.tmp 51) (.tmp 50) ?_ (g) (i * 21) #[.int .i64 k.s.ru, .string k.s.nm, .string k.s.ot, .bool k.s.g, .slice k.aq k.an k.ac, .slice k.cq k.cn k.cc, .int .i64 k.s.kk, .int .i64 k.s.nn, .int .i64 k.s.pr, .int .i64 k.e.k, .int .i64 k.e.f, .bool k.e.neg, .slice k.e.aq k.e.an k.e.ac, .slice k.e.cq k.e.cn k.e.cc, .string k.e.m, .slice k.e.sq k.e.sn k.e.sc, .slice k.poq k.pon k.poc, .string k.s.en, .int .i64 k.s.ve, .slice k.arq k.arn k.arc, .slice k.kiq k.kin k.kic] ?_ ?_ ?_ ?_ ?_ ?_
         rotate_left 1
         · with_reducible rfl
         · kernel_rfl
         · kernel_rfl
         · exact Th9.out
         · exact st_size
         · exact all_oneCell_toArray (one_sd ⟨k.s, k.aq, k.an, k.ac, k.cq, k.cn, k.cc, k.e, k.poq, k.pon, k.poc, k.arq, k.arn, k.arc, k.kiq, k.kin, k.kic⟩)
         rotate_left 1
         · rfl
         have G1 := graft_row k [.int .i64 k.s.ru, .string k.s.nm, .string k.s.ot, .bool k.s.g, .slice k.aq k.an k.ac, .slice k.cq k.cn k.cc, .int .i64 k.s.kk, .int .i64 k.s.nn, .int .i64 k.s.pr, .int .i64 k.e.k, .int .i64 k.e.f, .bool k.e.neg, .slice k.e.aq k.e.an k.e.ac, .slice k.e.cq k.e.cn k.e.cc, .string k.e.m, .slice k.e.sq k.e.sn k.e.sc, .slice k.poq k.pon k.poc, .string k.s.en, .int .i64 k.s.ve, .slice k.arq k.arn k.arc, .slice k.kiq k.kin k.kic] rfl hown9 hi
         have d10 := World.rangeAt_setCells_apart (rangeAt_below F2'.out back9 (by omega)) g (i * 21) [.int .i64 k.s.ru, .string k.s.nm, .string k.s.ot, .bool k.s.g, .slice k.aq k.an k.ac, .slice k.cq k.cn k.cc, .int .i64 k.s.kk, .int .i64 k.s.nn, .int .i64 k.s.pr, .int .i64 k.e.k, .int .i64 k.e.f, .bool k.e.neg, .slice k.e.aq k.e.an k.e.ac, .slice k.e.cq k.e.cn k.e.cc, .string k.e.m, .slice k.e.sq k.e.sn k.e.sc, .slice k.poq k.pon k.poc, .string k.s.en, .int .i64 k.s.ve, .slice k.arq k.arn k.arc, .slice k.kiq k.kin k.kic] (.inl (by omega))
         have e10 := World.there_setCells (there_below F3'.out back9 (by omega)) g (i * 21) [.int .i64 k.s.ru, .string k.s.nm, .string k.s.ot, .bool k.s.g, .slice k.aq k.an k.ac, .slice k.cq k.cn k.cc, .int .i64 k.s.kk, .int .i64 k.s.nn, .int .i64 k.s.pr, .int .i64 k.e.k, .int .i64 k.e.f, .bool k.e.neg, .slice k.e.aq k.e.an k.e.ac, .slice k.e.cq k.e.cn k.e.cc, .string k.e.m, .slice k.e.sq k.e.sn k.e.sc, .slice k.poq k.pon k.poc, .string k.s.en, .int .i64 k.s.ve, .slice k.arq k.arn k.arc, .slice k.kiq k.kin k.kic]
         have r10 := World.there_setCells (there_below F4'.out back9 (by omega)) g (i * 21) [.int .i64 k.s.ru, .string k.s.nm, .string k.s.ot, .bool k.s.g, .slice k.aq k.an k.ac, .slice k.cq k.cn k.cc, .int .i64 k.s.kk, .int .i64 k.s.nn, .int .i64 k.s.pr, .int .i64 k.e.k, .int .i64 k.e.f, .bool k.e.neg, .slice k.e.aq k.e.an k.e.ac, .slice k.e.cq k.e.cn k.e.cc, .string k.e.m, .slice k.e.sq k.e.sn k.e.sc, .slice k.poq k.pon k.poc, .string k.s.en, .int .i64 k.s.ve, .slice k.arq k.arn k.arc, .slice k.kiq k.kin k.kic]
         obtain ⟨b10, s10, k10⟩ := setCells_facts wz.heap.size g (by omega) [.int .i64 k.s.ru, .string k.s.nm, .string k.s.ot, .bool k.s.g, .slice k.aq k.an k.ac, .slice k.cq k.cn k.cc, .int .i64 k.s.kk, .int .i64 k.s.nn, .int .i64 k.s.pr, .int .i64 k.e.k, .int .i64 k.e.f, .bool k.e.neg, .slice k.e.aq k.e.an k.e.ac, .slice k.e.cq k.e.cn k.e.cc, .string k.e.m, .slice k.e.sq k.e.sn k.e.sc, .slice k.poq k.pon k.poc, .string k.s.en, .int .i64 k.s.ve, .slice k.arq k.arn k.arc, .slice k.kiq k.kin k.kic] (i * 21) wz w9 back9
         generalize hw10 : World.setCells w9 g (i * 21) _ = w10 at *
         have c10 : w10.cell? ⟨w.heap.size, 20, none⟩ = some (.slice (some ⟨b, o, none⟩) d.kin d.kic) := by have h := d10 20 _ rfl; simpa using h
         have f10 : w10.frozen? ⟨w.heap.size, 20, none⟩ = false := by have h := (e10 20 (by omega)).2; simpa using h
         have d11 : Hid ((w10.setCell ⟨w.heap.size, 20, none⟩ (.slice (some ⟨g, 0, none⟩) d.kin cap)).rangeAt w.heap.size 0 [.int .i64 d.s.ru, .string d.s.nm, .string d.s.ot, .bool d.s.g, .slice d.aq d.an d.ac, .slice d.cq d.cn d.cc, .int .i64 d.s.kk, .int .i64 d.s.nn, .int .i64 d.s.pr, .int .i64 d.e.k, .int .i64 d.e.f, .bool d.e.neg, .slice d.e.aq d.e.an d.e.ac, .slice d.e.cq d.e.cn d.e.cc, .string d.e.m, .slice d.e.sq d.e.sn d.e.sc, .slice d.poq d.pon d.poc, .string d.s.en, .int .i64 d.s.ve, .slice d.arq d.arn d.arc, .slice (some ⟨g, 0, none⟩) d.kin cap]) := range_set d10 (by simp) _
         have r11 : Hid ((w10.setCell ⟨w.heap.size, 20, none⟩ (.slice (some ⟨g, 0, none⟩) d.kin cap)).there (w.heap.size + 2) 0 21) := there_set r10 _ _ _)
      | (with_reducible refine wpList_load_mid (op := ⟨some 54, _, _, _, _, _⟩) ?_ 32 (.tmp 3) ?_ (w.heap.size) (0) ?_ [.int .i64 d.s.ru, .string d.s.nm, .string d.s.ot, .bool d.s.g, .slice d.aq d.an d.ac, .slice d.cq d.cn d.cc, .int .i64 d.s.kk, .int .i64 d.s.nn, .int .i64 d.s.pr, .int .i64 d.e.k, .int .i64 d.e.f, .bool d.e.neg, .slice d.e.aq d.e.an d.e.ac, .slice d.e.cq d.e.cn d.e.cc, .string d.e.m, .slice d.e.sq d.e.sn d.e.sc, .slice d.poq d.pon d.poc, .string d.s.en, .int .i64 d.s.ve, .slice d.arq d.arn d.arc, .slice (some ⟨g, 0, none⟩) d.kin cap] dd ?_ hHu.out hd ?_ ?_
         rotate_left 1
         · with_reducible rfl
         · kernel_rfl
         · exact d11.out
         · exact st_size
         rotate_left 1
         · rfl)
      | (with_reducible refine wpList_store_mid ?_ 32 (.tmp 6) (.tmp 54) ?_ (w.heap.size + 2) (0) #[.int .i64 d.s.ru, .string d.s.nm, .string d.s.ot, .bool d.s.g, .slice d.aq d.an d.ac, .slice d.cq d.cn d.cc, .int .i64 d.s.kk, .int .i64 d.s.nn, .int .i64 d.s.pr, .int .i64 d.e.k, .int .i64 d.e.f, .bool d.e.neg, .slice d.e.aq d.e.an d.e.ac, .slice d.e.cq d.e.cn d.e.cc, .string d.e.m, .slice d.e.sq d.e.sn d.e.sc, .slice d.poq d.pon d.poc, .string d.s.en, .int .i64 d.s.ve, .slice d.arq d.arn d.arc, .slice (some ⟨g, 0, none⟩) d.kin cap] ?_ ?_ ?_ ?_ ?_ ?_
         rotate_left 1
         · with_reducible rfl
         · kernel_rfl
         · kernel_rfl
         · exact r11.out
         · exact st_size
         · exact all_oneCell_toArray (one_sd ⟨d.s, d.aq, d.an, d.ac, d.cq, d.cn, d.cc, d.e, d.poq, d.pon, d.poc, d.arq, d.arn, d.arc, some ⟨g, 0, none⟩, d.kin, cap⟩)
         rotate_left 1
         · rfl))
    have W11 : Below w.heap.size w (w10.setCell ⟨w.heap.size, 20, none⟩ (.slice (some ⟨g, 0, none⟩) d.kin cap)) := (F5.trans (b10.mono (by omega))).setCell (by show w.heap.size ≤ w.heap.size; omega) _
    obtain ⟨hW8, hs8, hb8⟩ := setCells_facts w.heap.size (w.heap.size + 2) (by omega) [.int .i64 d.s.ru, .string d.s.nm, .string d.s.ot, .bool d.s.g, .slice d.aq d.an d.ac, .slice d.cq d.cn d.cc, .int .i64 d.s.kk, .int .i64 d.s.nn, .int .i64 d.s.pr, .int .i64 d.e.k, .int .i64 d.e.f, .bool d.e.neg, .slice d.e.aq d.e.an d.e.ac, .slice d.e.cq d.e.cn d.e.cc, .string d.e.m, .slice d.e.sq d.e.sn d.e.sc, .slice d.poq d.pon d.poc, .string d.s.en, .int .i64 d.s.ve, .slice d.arq d.arn d.arc, .slice (some ⟨g, 0, none⟩) d.kin cap] 0 w _ W11
    have hr8 := World.rangeAt_setCells_same _ (w.heap.size + 2) 0 [.int .i64 d.s.ru, .string d.s.nm, .string d.s.ot, .bool d.s.g, .slice d.aq d.an d.ac, .slice d.cq d.cn d.cc, .int .i64 d.s.kk, .int .i64 d.s.nn, .int .i64 d.s.pr, .int .i64 d.e.k, .int .i64 d.e.f, .bool d.e.neg, .slice d.e.aq d.e.an d.e.ac, .slice d.e.cq d.e.cn d.e.cc, .string d.e.m, .slice d.e.sq d.e.sn d.e.sc, .slice d.poq d.pon d.poc, .string d.s.en, .int .i64 d.s.ve, .slice d.arq d.arn d.arc, .slice (some ⟨g, 0, none⟩) d.kin cap] r11.out
    change bodyPost _ _ _ _ _ ((w10.setCell ⟨w.heap.size, 20, none⟩ (.slice (some ⟨g, 0, none⟩) d.kin cap)).setCells (w.heap.size + 2) 0 [.int .i64 d.s.ru, .string d.s.nm, .string d.s.ot, .bool d.s.g, .slice d.aq d.an d.ac, .slice d.cq d.cn d.cc, .int .i64 d.s.kk, .int .i64 d.s.nn, .int .i64 d.s.pr, .int .i64 d.e.k, .int .i64 d.e.f, .bool d.e.neg, .slice d.e.aq d.e.an d.e.ac, .slice d.e.cq d.e.cn d.e.cc, .string d.e.m, .slice d.e.sq d.e.sn d.e.sc, .slice d.poq d.pon d.poc, .string d.s.en, .int .i64 d.s.ve, .slice d.arq d.arn d.arc, .slice (some ⟨g, 0, none⟩) d.kin cap])
    generalize hw8 : (w10.setCell ⟨w.heap.size, 20, none⟩ (.slice (some ⟨g, 0, none⟩) d.kin cap)).setCells (w.heap.size + 2) 0 [.int .i64 d.s.ru, .string d.s.nm, .string d.s.ot, .bool d.s.g, .slice d.aq d.an d.ac, .slice d.cq d.cn d.cc, .int .i64 d.s.kk, .int .i64 d.s.nn, .int .i64 d.s.pr, .int .i64 d.e.k, .int .i64 d.e.f, .bool d.e.neg, .slice d.e.aq d.e.an d.e.ac, .slice d.e.cq d.e.cn d.e.cc, .string d.e.m, .slice d.e.sq d.e.sn d.e.sc, .slice d.poq d.pon d.poc, .string d.s.en, .int .i64 d.s.ve, .slice d.arq d.arn d.arc, .slice (some ⟨g, 0, none⟩) d.kin cap] = w8 at *
    refine bodyPost_ret (results_cell_tmp_mid rfl _ _ (w.heap.size + 2) _ dd rfl hr8 hHu.out hd st_size) rfl ?_
    have hsz8 : w8.heap.size = w9.heap.size := by rw [hs8]; simpa using s10
    have old8 : ∀ b', b' ≠ w.heap.size → b' ≠ w.heap.size + 2 → w8.heap[b']? = w10.heap[b']? := fun b' h1 h2 => (hb8 b' h2).trans (Below.heap_setCell _ _ _ _ h1)
    have s9 := back9.size
    refine ⟨g, ⟨cap, rfl⟩, by omega, by omega, k, fun j hj => (Keeps.range (A := (· = g)) (fun b' e => old8 b' (by rw [e]; omega) (by rw [e]; omega)) rfl (by have h := G1 j hj; rw [Nat.zero_add] at h; exact h)), F6.keep (fun b' hb' => ?_) (fun b' hb' => ?_), hW8⟩
    · have h1 : b' < wz.heap.size ∧ b' ≠ w.heap.size ∧ b' ≠ w.heap.size + 2 := by rcases hb' with h | ⟨h, h2, _⟩ <;> omega
      rw [old8 b' h1.2.1 h1.2.2, b10.block b' h1.1]
    · rcases hb' with h | ⟨h, h2, _⟩
      · exact .inl h
      · exact .inr ⟨by omega, by omega⟩
end Go.Proofs.YtlmifjdbjhcceaaGreatDoor
