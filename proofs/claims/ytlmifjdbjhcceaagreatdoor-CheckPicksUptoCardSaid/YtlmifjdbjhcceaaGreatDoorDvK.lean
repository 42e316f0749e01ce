/-
  check.own, one level.
-/
import Derived.Test.YtlmifjdbjhcceaaGreatDoorDvJ
namespace Go.Proofs.YtlmifjdbjhcceaaGreatDoor
open Go Go.RowKit

theorem one_sd (d : Sd) : ∀ u ∈ d.cells, u.oneCell' = true := by
  intro u hu
  simp only [Sd.cells, List.mem_cons, List.not_mem_nil, or_false] at hu
  rcases hu with rfl | rfl | rfl | rfl | rfl | rfl | rfl | rfl | rfl | rfl | rfl | rfl | rfl | rfl | rfl | rfl | rfl | rfl | rfl | rfl | rfl <;> rfl

theorem there_of_block {w : World} {g n : Nat} {cs : Array Value} {t : TypeId} (h : w.heap[g]? = some (.cells cs t (0, 0))) (hn : cs.size = n) : w.there g 0 n := by
  subst hn
  refine fun j hj => ⟨?_, frozen_of_row _ _ _ _ _ h⟩
  rw [cell_of_row _ _ _ _ _ _ h, Nat.zero_add, Array.getElem?_eq_getElem hj]
  rfl

set_option maxRecDepth 100000 in
set_option maxHeartbeats 2000000 in
theorem own_walk {w : World} {d : Sd} (X0 : St) (ds : Nat → Sd) (ki : Nat → St) (hn : d.kin ≤ 1048576)
    (hF : ∀ z, Below w.heap.size w z → Calls Tryz.prog 54 #[.agg #[.int .i64 d.s.ru, .string d.s.nm, .string d.s.ot, .bool d.s.g, .slice d.aq d.an d.ac, .slice d.cq d.cn d.cc, .int .i64 d.s.kk, .int .i64 d.s.nn, .int .i64 d.s.pr, .int .i64 d.e.k, .int .i64 d.e.f, .bool d.e.neg, .slice d.e.aq d.e.an d.e.ac, .slice d.e.cq d.e.cn d.e.cc, .string d.e.m, .slice d.e.sq d.e.sn d.e.sc, .slice d.poq d.pon d.poc, .string d.s.en, .int .i64 d.s.ve, .slice d.arq d.arn d.arc, .slice d.kiq d.kin d.kic]] z fun e w' => ∃ D : Sd, e = .returned (.agg #[.int .i64 D.s.ru, .string D.s.nm, .string D.s.ot, .bool D.s.g, .slice D.aq D.an D.ac, .slice D.cq D.cn D.cc, .int .i64 D.s.kk, .int .i64 D.s.nn, .int .i64 D.s.pr, .int .i64 D.e.k, .int .i64 D.e.f, .bool D.e.neg, .slice D.e.aq D.e.an D.e.ac, .slice D.e.cq D.e.cn D.e.cc, .string D.e.m, .slice D.e.sq D.e.sn D.e.sc, .slice D.poq D.pon D.poc, .string D.s.en, .int .i64 D.s.ve, .slice D.arq D.arn D.arc, .slice none 0 0]) ∧ StA w' (Fresh z w') X0 D ∧ Below z.heap.size z w')
    (hk : d.kin = 0 ∨ ∃ b o, d.kiq = some ⟨b, o, none⟩ ∧ b < w.heap.size ∧ ∀ i, i < d.kin → w.rangeAt b (o + i * 21) (ds i).cells)
    (hK : ∀ i, i < d.kin → ∀ z, Below w.heap.size w z → Calls Tryz.prog 35 #[.agg (ds i).cells.toArray] z fun e w' => ∃ d' : Sd, e = .returned (.agg #[.int .i64 d'.s.ru, .string d'.s.nm, .string d'.s.ot, .bool d'.s.g, .slice d'.aq d'.an d'.ac, .slice d'.cq d'.cn d'.cc, .int .i64 d'.s.kk, .int .i64 d'.s.nn, .int .i64 d'.s.pr, .int .i64 d'.e.k, .int .i64 d'.e.f, .bool d'.e.neg, .slice d'.e.aq d'.e.an d'.e.ac, .slice d'.e.cq d'.e.cn d'.e.cc, .string d'.e.m, .slice d'.e.sq d'.e.sn d'.e.sc, .slice d'.poq d'.pon d'.poc, .string d'.s.en, .int .i64 d'.s.ve, .slice d'.arq d'.arn d'.arc, .slice d'.kiq d'.kin d'.kic]) ∧ StA w' (Fresh z w') (ki i) d' ∧ Below z.heap.size z w') :
    Calls Tryz.prog 35 #[.agg #[.int .i64 d.s.ru, .string d.s.nm, .string d.s.ot, .bool d.s.g, .slice d.aq d.an d.ac, .slice d.cq d.cn d.cc, .int .i64 d.s.kk, .int .i64 d.s.nn, .int .i64 d.s.pr, .int .i64 d.e.k, .int .i64 d.e.f, .bool d.e.neg, .slice d.e.aq d.e.an d.e.ac, .slice d.e.cq d.e.cn d.e.cc, .string d.e.m, .slice d.e.sq d.e.sn d.e.sc, .slice d.poq d.pon d.poc, .string d.s.en, .int .i64 d.s.ve, .slice d.arq d.arn d.arc, .slice d.kiq d.kin d.kic]] w fun e w' => ∃ (D : Sd) (q3 : Option Addr) (c3 : Nat), e = .returned (.agg #[.int .i64 D.s.ru, .string D.s.nm, .string D.s.ot, .bool D.s.g, .slice D.aq D.an D.ac, .slice D.cq D.cn D.cc, .int .i64 D.s.kk, .int .i64 D.s.nn, .int .i64 D.s.pr, .int .i64 D.e.k, .int .i64 D.e.f, .bool D.e.neg, .slice D.e.aq D.e.an D.e.ac, .slice D.e.cq D.e.cn D.e.cc, .string D.e.m, .slice D.e.sq D.e.sn D.e.sc, .slice D.poq D.pon D.poc, .string D.s.en, .int .i64 D.s.ve, .slice D.arq D.arn D.arc, .slice q3 d.kin c3]) ∧
      StA w' (Fresh w w') X0 D ∧ (d.kin = 0 ∨ ∃ b, q3 = some ⟨b, 0, none⟩ ∧ Fresh w w' b ∧ ∃ es : Nat → Sd, ∀ i, i < d.kin → w'.rangeAt b (0 + i * 21) (es i).cells ∧ StA w' (Fresh w w') (ki i) (es i)) ∧ Below w.heap.size w w' := by
  have hk' : Hid (d.kin = 0 ∨ ∃ b o, d.kiq = some ⟨b, o, none⟩ ∧ b < w.heap.size ∧ ∀ i, i < d.kin → w.rangeAt b (o + i * 21) (ds i).cells) := hk
  clear hk
  obtain ⟨dd, hu, hd⟩ := st_row
  have hHu : Hid (Tryz.prog.underlying 32 = some dd) := hu
  clear hu
  have h2 : ∀ o o2, Below w.heap.size w ((w.alloc o).alloc o2) := fun o o2 => below_two w o o2
  go_enter Tryz.func35, Tryz.ntmps35
  go_wp2_with (first
    | (with_reducible refine wpList_load_mid (op := ⟨some 6, _, _, _, _, _⟩) ?_ 32 (.tmp 1) ?_ w.heap.size 0 ?_ [.int .i64 d.s.ru, .string d.s.nm, .string d.s.ot, .bool d.s.g, .slice d.aq d.an d.ac, .slice d.cq d.cn d.cc, .int .i64 d.s.kk, .int .i64 d.s.nn, .int .i64 d.s.pr, .int .i64 d.e.k, .int .i64 d.e.f, .bool d.e.neg, .slice d.e.aq d.e.an d.e.ac, .slice d.e.cq d.e.cn d.e.cc, .string d.e.m, .slice d.e.sq d.e.sn d.e.sc, .slice d.poq d.pon d.poc, .string d.s.en, .int .i64 d.s.ve, .slice d.arq d.arn d.arc, .slice d.kiq d.kin d.kic] dd (World.rangeAt_alloc (range_new w _ 32) _) hHu.out hd ?_ ?_
       rotate_left 1
       · with_reducible rfl
       · rfl
       · exact st_size
       rotate_left 1
       · rfl)
    | (go_at_call 54; with_reducible refine (hF _ ?_).mono ?_; exact h2 _ _; rintro e w2 ⟨D, rfl, hA, hb2⟩
       have hs2 := hb2.size
       have hs2' : w.heap.size + 2 ≤ w2.heap.size := by simpa using hs2
       have k20 : ∀ ob, (w2.alloc ob).cell? ⟨w.heap.size, 20, none⟩ = some (.slice d.kiq d.kin d.kic) := fun ob => (World.cell?_alloc_lt _ _ _ (by show w.heap.size < _; omega)).trans ((hb2.cell (by show w.heap.size < _; simp; omega)).trans (by simp))
       have hres2 : w2.heap[w.heap.size + 1]? = some (.cells #[.int .i64 0, .string ⟨#[]⟩, .string ⟨#[]⟩, .bool false, .slice none 0 0, .slice none 0 0, .int .i64 0, .int .i64 0, .int .i64 0, .int .i64 0, .int .i64 0, .bool false, .slice none 0 0, .slice none 0 0, .string ⟨#[]⟩, .slice none 0 0, .slice none 0 0, .string ⟨#[]⟩, .int .i64 0, .slice none 0 0, .slice none 0 0] 32 (0, 0)) := by
         rw [hb2.block _ (by simp)]
         have h := heap_alloc_last (w.alloc (.cells #[.int .i64 d.s.ru, .string d.s.nm, .string d.s.ot, .bool d.s.g, .slice d.aq d.an d.ac, .slice d.cq d.cn d.cc, .int .i64 d.s.kk, .int .i64 d.s.nn, .int .i64 d.s.pr, .int .i64 d.e.k, .int .i64 d.e.f, .bool d.e.neg, .slice d.e.aq d.e.an d.e.ac, .slice d.e.cq d.e.cn d.e.cc, .string d.e.m, .slice d.e.sq d.e.sn d.e.sc, .slice d.poq d.pon d.poc, .string d.s.en, .int .i64 d.s.ve, .slice d.arq d.arn d.arc, .slice d.kiq d.kin d.kic] 32)) (.cells #[.int .i64 0, .string ⟨#[]⟩, .string ⟨#[]⟩, .bool false, .slice none 0 0, .slice none 0 0, .int .i64 0, .int .i64 0, .int .i64 0, .int .i64 0, .int .i64 0, .bool false, .slice none 0 0, .slice none 0 0, .string ⟨#[]⟩, .slice none 0 0, .slice none 0 0, .string ⟨#[]⟩, .int .i64 0, .slice none 0 0, .slice none 0 0] 32 (0, 0))
         rw [show (w.alloc (.cells #[.int .i64 d.s.ru, .string d.s.nm, .string d.s.ot, .bool d.s.g, .slice d.aq d.an d.ac, .slice d.cq d.cn d.cc, .int .i64 d.s.kk, .int .i64 d.s.nn, .int .i64 d.s.pr, .int .i64 d.e.k, .int .i64 d.e.f, .bool d.e.neg, .slice d.e.aq d.e.an d.e.ac, .slice d.e.cq d.e.cn d.e.cc, .string d.e.m, .slice d.e.sq d.e.sn d.e.sc, .slice d.poq d.pon d.poc, .string d.s.en, .int .i64 d.s.ve, .slice d.arq d.arn d.arc, .slice d.kiq d.kin d.kic] 32)).heap.size = w.heap.size + 1 by simp] at h
         exact h
       have hW2 := (h2 _ _).trans (hb2.mono (h2 _ _).size))
    | (with_reducible refine wpList_store_new ?_ 32 (.tmp 3) (.tmp 7) ?_ #[.int .i64 D.s.ru, .string D.s.nm, .string D.s.ot, .bool D.s.g, .slice D.aq D.an D.ac, .slice D.cq D.cn D.cc, .int .i64 D.s.kk, .int .i64 D.s.nn, .int .i64 D.s.pr, .int .i64 D.e.k, .int .i64 D.e.f, .bool D.e.neg, .slice D.e.aq D.e.an D.e.ac, .slice D.e.cq D.e.cn D.e.cc, .string D.e.m, .slice D.e.sq D.e.sn D.e.sc, .slice D.poq D.pon D.poc, .string D.s.en, .int .i64 D.s.ve, .slice D.arq D.arn D.arc, .slice none 0 0] w2.heap.size rfl ?_ ?_ ?_ ?_ ?_ ?_
       rotate_left 1
       · with_reducible rfl
       · rfl
       · rfl
       · rfl
       · exact st_size
       · exact all_oneCell_toArray (one_sd ⟨D.s, D.aq, D.an, D.ac, D.cq, D.cn, D.cc, D.e, D.poq, D.pon, D.poc, D.arq, D.arn, D.arc, none, 0, 0⟩)
       rotate_left 1
       · rfl))
  have hN0 : w.heap.size + 2 ≤ w2.heap.size := hs2'
  obtain ⟨i0, hi, hz0, hz1, hz2⟩ := info_parts (show (Tryz.prog.info? 32).map (fun i => (i.zero, i.size, i.bytes)) = some (some (.agg #[.int .i64 0, .string ⟨#[]⟩, .string ⟨#[]⟩, .bool false, .slice none 0 0, .slice none 0 0, .int .i64 0, .int .i64 0, .int .i64 0, .int .i64 0, .int .i64 0, .bool false, .slice none 0 0, .slice none 0 0, .string ⟨#[]⟩, .slice none 0 0, .slice none 0 0, .string ⟨#[]⟩, .int .i64 0, .slice none 0 0, .slice none 0 0]), 21, 328) by kernel_rfl)
  generalize hwc : w2.alloc _ = wc
  have hG2 : w2.heap.size < wc.heap.size := by rw [← hwc]; simp
  have hG3 : wc.heap[w2.heap.size]? = some (.cells #[.int .i64 D.s.ru, .string D.s.nm, .string D.s.ot, .bool D.s.g, .slice D.aq D.an D.ac, .slice D.cq D.cn D.cc, .int .i64 D.s.kk, .int .i64 D.s.nn, .int .i64 D.s.pr, .int .i64 D.e.k, .int .i64 D.e.f, .bool D.e.neg, .slice D.e.aq D.e.an D.e.ac, .slice D.e.cq D.e.cn D.e.cc, .string D.e.m, .slice D.e.sq D.e.sn D.e.sc, .slice D.poq D.pon D.poc, .string D.s.en, .int .i64 D.s.ve, .slice D.arq D.arn D.arc, .slice none 0 0] 32 (0, 0)) := by rw [← hwc]; exact heap_alloc_last _ _
  have hA0 : StA wc (fun b => w.heap.size + 2 ≤ b ∧ b < wc.heap.size ∧ b ≠ w2.heap.size) X0 D := by
    rw [← hwc]
    refine hA.keep ((keeps_below (below_one w2 _)).mono fun b hb => hb.2) (fun b hb => ?_)
    have e1 := hb.1
    have e2 := hb.2
    simp at e1
    exact ⟨by omega, by show _ < (w2.heap.push _).size; simp; omega, by omega⟩
  have hWc : Below w.heap.size w wc := by rw [← hwc]; exact hW2.alloc (by omega) _
  have hresc : wc.heap[w.heap.size + 1]? = some (.cells #[.int .i64 0, .string ⟨#[]⟩, .string ⟨#[]⟩, .bool false, .slice none 0 0, .slice none 0 0, .int .i64 0, .int .i64 0, .int .i64 0, .int .i64 0, .int .i64 0, .bool false, .slice none 0 0, .slice none 0 0, .string ⟨#[]⟩, .slice none 0 0, .slice none 0 0, .string ⟨#[]⟩, .int .i64 0, .slice none 0 0, .slice none 0 0] 32 (0, 0)) := by rw [← hwc, Below.heap_alloc _ _ _ (by omega)]; exact hres2
  clear hF hb2 hs2 k20 hres2 hW2 hwc hA
  generalize w2.heap.size = G at *
  go_loopw [11] (fun i wr => ∃ k : Nat, k ≤ d.kin ∧ i = .int .i64 k ∧ ∃ (v : Value) (L : List Sd), L.length = k ∧ wr.heap[G]? = some (.cells #[.int .i64 D.s.ru, .string D.s.nm, .string D.s.ot, .bool D.s.g, .slice D.aq D.an D.ac, .slice D.cq D.cn D.cc, .int .i64 D.s.kk, .int .i64 D.s.nn, .int .i64 D.s.pr, .int .i64 D.e.k, .int .i64 D.e.f, .bool D.e.neg, .slice D.e.aq D.e.an D.e.ac, .slice D.e.cq D.e.cn D.e.cc, .string D.e.m, .slice D.e.sq D.e.sn D.e.sc, .slice D.poq D.pon D.poc, .string D.s.en, .int .i64 D.s.ve, .slice D.arq D.arn D.arc, v] 32 (0, 0)) ∧
      wr.ownsRow (w.heap.size + 2) 32 21 v k (L.flatMap Sd.cells) ∧ v.ownBlock ≠ some G ∧ (∀ i x, L[i]? = some x → StA wr (Free (w.heap.size + 2) wr G v) (ki i) x) ∧ StA wr (Free (w.heap.size + 2) wr G v) X0 D ∧
      Below w.heap.size w wr ∧ G < wr.heap.size ∧ wr.heap[w.heap.size + 1]? = some (.cells #[.int .i64 0, .string ⟨#[]⟩, .string ⟨#[]⟩, .bool false, .slice none 0 0, .slice none 0 0, .int .i64 0, .int .i64 0, .int .i64 0, .int .i64 0, .int .i64 0, .bool false, .slice none 0 0, .slice none 0 0, .string ⟨#[]⟩, .slice none 0 0, .slice none 0 0, .string ⟨#[]⟩, .int .i64 0, .slice none 0 0, .slice none 0 0] 32 (0, 0))) (fun i _ => d.kin - (intOf i).toNat)
  case atStart =>
    exact ⟨0, Nat.zero_le _, rfl, .slice none 0 0, [], rfl, hG3, World.ownsRow_nil _ _ _ _, by simp [Value.ownBlock], fun i x h => by simp at h, hA0.keep (Keeps.refl _ _) (fun b hb => ⟨hb.1, hb.2.1, hb.2.2, by simp [Value.ownBlock]⟩), hWc, hG2, hresc⟩
  case round =>
    clear hA0 hG3 hWc hG2 hresc
    obtain ⟨k, hk, rfl, v, L, hLk, hblk, hown, hne, hLx, hA0, hbw, hGr, hres⟩ := hrel
    by_cases hlt : k < d.kin
    · have hlt' : (k : Int) < (d.kin : Int) := by omega
      have hKk := hK k hlt
      rcases hk'.out with h0 | ⟨b, o, hq, hbb, hcx⟩
      · omega
      have hx := rangeAt_below (hcx k hlt) hbw hbb
      have lx : (ds k).cells.length = 21 := rfl
      have ox' : Hid ((ds k).cells.toArray.all (·.oneCell') = true) := (ds k).one
      clear hcx
      generalize (ds k).cells = cx at *
      rw [hq]
      have hws := hbw.size
      go_wp2_with (first
        | (with_reducible refine wpList_load_mid ?_ 32 (.tmp 13) ?_ b (o + k * 21) ?_ cx dd hx hHu.out hd ?_ ?_
           rotate_left 1
           · with_reducible rfl
           · rfl
           · (rw [lx]; exact st_size)
           rotate_left 1
           · rfl)
        | (with_reducible refine wpList_store_new ?_ 32 (.tmp 5) (.tmp 14) ?_ cx.toArray wr.heap.size rfl ?_ ?_ ?_ ?_ ox'.out ?_
           rotate_left 1
           · with_reducible rfl
           · rfl
           · rfl
           · simp [lx]
           · (simp only [List.size_toArray, lx]; exact st_size)
           rotate_left 1
           · rfl))
      simp only [Act.put]
      have hT : (wr.alloc (.cells cx.toArray 32)).rangeAt wr.heap.size 0 cx := range_new _ _ _
      have hz : Below wr.heap.size wr (wr.alloc (.cells cx.toArray 32)).drew := (below_one _ _).drew
      have hzs : (wr.alloc (.cells cx.toArray 32)).drew.heap.size = wr.heap.size + 1 := by show (wr.heap.push _).size = _; simp
      have hbz : Below w.heap.size w (wr.alloc (.cells cx.toArray 32)).drew := hbw.trans (hz.mono hbw.size)
      have c6 : (wr.alloc (.cells cx.toArray 32)).cell? ⟨G, 20, none⟩ = some v := by rw [World.cell?_alloc_lt _ _ _ (by exact hGr), cell_of_row _ _ _ _ _ _ hblk]; rfl
      have hrl := hown.lt
      refine wp_region_held_drew (S := fun z => z.rangeAt wr.heap.size 0 cx) (by kernel_rfl) hT (fun hHeld => ?_)
      refine wpAnyH_take (i := 0) (oi := ?op0) (v := .pointer (some ⟨G, 20, none⟩)) ?ta0 ?tb0 ?tc0 ?td0 ?tq0 ?ty0 hHeld ?_
      case ta0 => rfl
      case tb0 => kernel_rfl
      case tc0 => kernel_rfl
      case td0 => kernel_rfl
      case tq0 => exact fun _ _ _ h => h
      case ty0 => exact Or.inl ⟨by rfl, by intro z hSz; go_simp⟩
      simp only [Act.put, List.setIfInBounds_toArray]
      refine wpAnyH_take (i := 2) (oi := ?op2) (v := .agg cx.toArray) ?ta2 ?tb2 ?tc2 ?td2 ?tq2 ?ty2 hHeld ?_
      case ta2 => rfl
      case tb2 => kernel_rfl
      case tc2 => kernel_rfl
      case td2 => kernel_rfl
      case tq2 => exact fun _ _ _ h => h
      case ty2 =>
        refine yieldsIf_load_mid ?tw2 32 (.tmp 5) ?to2 wr.heap.size 0 ?tx2 cx dd (fun z hz => hz) hHu.out hd (by rw [lx]; exact st_size)
        case tw2 => kernel_rfl
        case to2 => rfl
        case tx2 => kernel_rfl
      simp only [Act.put]
      refine wpAnyH_ready (rs := [1, 3]) (by kernel_rfl) (by simp) ?_
      refine AllReadyH.cons rfl (fun K hKK => ?_) (AllReadyH.cons rfl (fun K hKK => ?_) AllReadyH.nil)
      · go_simp
        refine hKK.out _ _ hHeld (fun _ => ?_)
        clear hKK K
        refine wpAnyH_ready (rs := [3]) (by kernel_rfl) (by simp) ?_
        refine AllReadyH.cons rfl (fun K hKK => ?_) AllReadyH.nil
        go_simp
        refine (hKk _ hbz).mono ?_
        rintro e w5 ⟨d', rfl, hA5, hb5⟩
        have hs5 := hb5.size
        have hT5 : w5.rangeAt wr.heap.size 0 cx := rangeAt_below (w := (wr.alloc (.cells cx.toArray 32)).drew) hT hb5 (by omega)
        have c65 : w5.cell? ⟨G, 20, none⟩ = some v := (hb5.cell (by show G < _; omega)).trans c6
        have hown5 : w5.ownsRow (w.heap.size + 2) 32 21 v k (L.flatMap Sd.cells) := ((hown.alloc _).drew).kept (row := none) ⟨hb5.os, hb5.tape, hb5.output, hb5.size, fun b hb _ => hb5.block b hb⟩ (by cases hv : v.ownBlock with | none => exact .inl rfl | some _ => exact .inr (by simp))
        refine hKK.out _ _ hT5 (fun _ => ?_)
        clear hKK K
        refine wpAnyH_ready (rs := [4]) (by kernel_rfl) (by simp) ?_
        refine AllReadyH.cons rfl (fun K hKK => ?_) AllReadyH.nil
        go_simp
        have hT6 : (w5.alloc (.cells d'.cells.toArray 32)).rangeAt wr.heap.size 0 cx := World.rangeAt_alloc hT5 _
        have c66 : (w5.alloc (.cells d'.cells.toArray 32)).cell? ⟨G, 20, none⟩ = some v := by rw [World.cell?_alloc_lt _ _ _ (by show G < _; omega)]; exact c65
        have c66w : (w5.alloc (.cells #[.int .i64 d'.s.ru, .string d'.s.nm, .string d'.s.ot, .bool d'.s.g, .slice d'.aq d'.an d'.ac, .slice d'.cq d'.cn d'.cc, .int .i64 d'.s.kk, .int .i64 d'.s.nn, .int .i64 d'.s.pr, .int .i64 d'.e.k, .int .i64 d'.e.f, .bool d'.e.neg, .slice d'.e.aq d'.e.an d'.e.ac, .slice d'.e.cq d'.e.cn d'.e.cc, .string d'.e.m, .slice d'.e.sq d'.e.sn d'.e.sc, .slice d'.poq d'.pon d'.poc, .string d'.s.en, .int .i64 d'.s.ve, .slice d'.arq d'.arn d'.arc, .slice d'.kiq d'.kin d'.kic] 32)).cell? ⟨G, 20, none⟩ = some v := c66
        refine hKK.out _ _ hT6 (fun _ => ?_)
        clear hKK K
        refine wpAnyH_ready (rs := [5]) (by kernel_rfl) (by simp) ?_
        refine AllReadyH.cons rfl (fun K hKK => ?_) AllReadyH.nil
        refine step_append_lies _ rfl _ _ 30 rfl (w.heap.size + 2) 32 i0 (.agg #[.int .i64 0, .string ⟨#[]⟩, .string ⟨#[]⟩, .bool false, .slice none 0 0, .slice none 0 0, .int .i64 0, .int .i64 0, .int .i64 0, .int .i64 0, .int .i64 0, .bool false, .slice none 0 0, .slice none 0 0, .string ⟨#[]⟩, .slice none 0 0, .slice none 0 0, .string ⟨#[]⟩, .int .i64 0, .slice none 0 0, .slice none 0 0]) 21 328 Tryz.underlying30 hi hz0 hz1 hz2 rfl (by decide) v k (L.flatMap Sd.cells) rfl (hown5.alloc _) ⟨w5.heap.size, 0, none⟩ 1 1 d'.cells rfl rfl (World.news_of_block (heap_alloc_last w5 (.cells d'.cells.toArray 32))) (one_sd d') (by decide) (by unfold maxLen; omega) (by omega) (by simp; omega) _ rfl ?_
        intro g cap w7 hown7 hgrow7 hat7 hlt7
        have hTne : some wr.heap.size ≠ v.ownBlock := fun e => by have := (hrl _ e.symm).2; omega
        have hT7 : w7.rangeAt wr.heap.size 0 cx := fun j u hu => hgrow7.cell (hT6 j u hu) hTne
        have c67 : w7.cell? ⟨G, 20, none⟩ = some v := hgrow7.cell c66 (fun e => hne e.symm)
        obtain ⟨m1, m2, m3, m4, m5, m6, m7, m8⟩ := grow_step (j := 20) (u := .slice (some ⟨g, 0, none⟩) (k + 1) cap) hGr (by omega : w.heap.size + 2 ≤ wr.heap.size) hz hb5 hgrow7 hat7 hlt7 hrl hne rfl
        have f67 : ∀ j, w7.frozen? ⟨G, j, none⟩ = false := fun j => frozen_of_row _ _ _ _ _ (m5 _ _ _ hblk)
        refine hKK.out _ _ hT7 (fun hHeld7 => ?_)
        clear hKK K
        refine wpAnyH_take (i := 6) (oi := ?op6) (v := .pointer (some ⟨G, 20, none⟩)) ?ta6 ?tb6 ?tc6 ?td6 ?tq6 ?ty6 hHeld7 ?_
        case ta6 => rfl
        case tb6 => kernel_rfl
        case tc6 => kernel_rfl
        case td6 => kernel_rfl
        case tq6 => exact fun _ _ _ h => h
        case ty6 => exact Or.inl ⟨by rfl, by intro z hSz; go_simp⟩
        simp only [Act.put, List.setIfInBounds_toArray]
        refine wpAnyH_ready (rs := [7]) (by kernel_rfl) (by simp) ?_
        refine AllReadyH.cons rfl (fun K hKK => ?_) AllReadyH.nil
        go_simp
        refine hKK.out _ _ (fun j u hu => (World.cell?_setCell_far _ _ _ _ (by show G ≠ wr.heap.size; omega)).trans (hT7 j u hu)) (fun _ => ?_)
        clear hKK K
        refine wpAnyH_done (by kernel_rfl) ?_ _
        go_wp2_with fail
        go_roundw
        case rel =>
          refine ⟨k + 1, by omega, by go_num, .slice (some ⟨g, 0, none⟩) (k + 1) cap, L ++ [d'], by simp [hLk], heap_setCell_at (m5 _ _ _ hblk), ?_, m6, ?_, hA0.keep m1 m2, ?_, by omega, ?_⟩
          · rw [List.flatMap_append, List.flatMap_singleton]
            exact owns_setCell hown7 m6
          · intro i x hi
            by_cases hik : i < k
            · rw [List.getElem?_append_left (by omega)] at hi
              exact (hLx i x hi).keep m1 m2
            · rw [List.getElem?_append_right (by omega)] at hi
              have hi0 : i - L.length = 0 := by
                rcases Nat.eq_zero_or_pos (i - L.length) with h | h
                · exact h
                · rw [List.getElem?_eq_none (by simp; omega)] at hi
                  cases hi
              rw [hi0] at hi
              simp only [List.getElem?_cons_zero, Option.some.injEq] at hi
              subst hi
              have : i = k := by omega
              subst this
              exact hA5.keep m3 m4
          · refine Below.setCell ?_ (by show w.heap.size ≤ G; omega) _
            exact ((hbz.trans (hb5.mono hbz.size)).alloc (by omega) _).grown hgrow7 (by simp; omega) (fun b hb => by have := (hrl b hb).1; omega)
          · rw [m8 (w.heap.size + 1) (by omega) (by omega) (fun e => by have := (hrl _ e).1; omega)]
            exact hres
        case measure => simp [intOf]; omega
      · go_simp
        refine (hKk _ hbz).mono ?_
        rintro e w5 ⟨d', rfl, hA5, hb5⟩
        have hs5 := hb5.size
        have hT5 : w5.rangeAt wr.heap.size 0 cx := rangeAt_below (w := (wr.alloc (.cells cx.toArray 32)).drew) hT hb5 (by omega)
        have c65 : w5.cell? ⟨G, 20, none⟩ = some v := (hb5.cell (by show G < _; omega)).trans c6
        have hown5 : w5.ownsRow (w.heap.size + 2) 32 21 v k (L.flatMap Sd.cells) := ((hown.alloc _).drew).kept (row := none) ⟨hb5.os, hb5.tape, hb5.output, hb5.size, fun b hb _ => hb5.block b hb⟩ (by cases hv : v.ownBlock with | none => exact .inl rfl | some _ => exact .inr (by simp))
        refine hKK.out _ _ hT5 (fun _ => ?_)
        clear hKK K
        refine wpAnyH_ready (rs := [1, 4]) (by kernel_rfl) (by simp) ?_
        refine AllReadyH.cons rfl (fun K hKK => ?_) (AllReadyH.cons rfl (fun K hKK => ?_) AllReadyH.nil)
        · go_simp
          refine hKK.out _ _ hT5 (fun _ => ?_)
          clear hKK K
          refine wpAnyH_ready (rs := [4]) (by kernel_rfl) (by simp) ?_
          refine AllReadyH.cons rfl (fun K hKK => ?_) AllReadyH.nil
          go_simp
          have hT6 : (w5.alloc (.cells d'.cells.toArray 32)).rangeAt wr.heap.size 0 cx := World.rangeAt_alloc hT5 _
          have c66 : (w5.alloc (.cells d'.cells.toArray 32)).cell? ⟨G, 20, none⟩ = some v := by rw [World.cell?_alloc_lt _ _ _ (by show G < _; omega)]; exact c65
          have c66w : (w5.alloc (.cells #[.int .i64 d'.s.ru, .string d'.s.nm, .string d'.s.ot, .bool d'.s.g, .slice d'.aq d'.an d'.ac, .slice d'.cq d'.cn d'.cc, .int .i64 d'.s.kk, .int .i64 d'.s.nn, .int .i64 d'.s.pr, .int .i64 d'.e.k, .int .i64 d'.e.f, .bool d'.e.neg, .slice d'.e.aq d'.e.an d'.e.ac, .slice d'.e.cq d'.e.cn d'.e.cc, .string d'.e.m, .slice d'.e.sq d'.e.sn d'.e.sc, .slice d'.poq d'.pon d'.poc, .string d'.s.en, .int .i64 d'.s.ve, .slice d'.arq d'.arn d'.arc, .slice d'.kiq d'.kin d'.kic] 32)).cell? ⟨G, 20, none⟩ = some v := c66
          refine hKK.out _ _ hT6 (fun _ => ?_)
          clear hKK K
          refine wpAnyH_ready (rs := [5]) (by kernel_rfl) (by simp) ?_
          refine AllReadyH.cons rfl (fun K hKK => ?_) AllReadyH.nil
          refine step_append_lies _ rfl _ _ 30 rfl (w.heap.size + 2) 32 i0 (.agg #[.int .i64 0, .string ⟨#[]⟩, .string ⟨#[]⟩, .bool false, .slice none 0 0, .slice none 0 0, .int .i64 0, .int .i64 0, .int .i64 0, .int .i64 0, .int .i64 0, .bool false, .slice none 0 0, .slice none 0 0, .string ⟨#[]⟩, .slice none 0 0, .slice none 0 0, .string ⟨#[]⟩, .int .i64 0, .slice none 0 0, .slice none 0 0]) 21 328 Tryz.underlying30 hi hz0 hz1 hz2 rfl (by decide) v k (L.flatMap Sd.cells) rfl (hown5.alloc _) ⟨w5.heap.size, 0, none⟩ 1 1 d'.cells rfl rfl (World.news_of_block (heap_alloc_last w5 (.cells d'.cells.toArray 32))) (one_sd d') (by decide) (by unfold maxLen; omega) (by omega) (by simp; omega) _ rfl ?_
          intro g cap w7 hown7 hgrow7 hat7 hlt7
          have hTne : some wr.heap.size ≠ v.ownBlock := fun e => by have := (hrl _ e.symm).2; omega
          have hT7 : w7.rangeAt wr.heap.size 0 cx := fun j u hu => hgrow7.cell (hT6 j u hu) hTne
          have c67 : w7.cell? ⟨G, 20, none⟩ = some v := hgrow7.cell c66 (fun e => hne e.symm)
          obtain ⟨m1, m2, m3, m4, m5, m6, m7, m8⟩ := grow_step (j := 20) (u := .slice (some ⟨g, 0, none⟩) (k + 1) cap) hGr (by omega : w.heap.size + 2 ≤ wr.heap.size) hz hb5 hgrow7 hat7 hlt7 hrl hne rfl
          have f67 : ∀ j, w7.frozen? ⟨G, j, none⟩ = false := fun j => frozen_of_row _ _ _ _ _ (m5 _ _ _ hblk)
          refine hKK.out _ _ hT7 (fun hHeld7 => ?_)
          clear hKK K
          refine wpAnyH_take (i := 6) (oi := ?op6) (v := .pointer (some ⟨G, 20, none⟩)) ?ta6 ?tb6 ?tc6 ?td6 ?tq6 ?ty6 hHeld7 ?_
          case ta6 => rfl
          case tb6 => kernel_rfl
          case tc6 => kernel_rfl
          case td6 => kernel_rfl
          case tq6 => exact fun _ _ _ h => h
          case ty6 => exact Or.inl ⟨by rfl, by intro z hSz; go_simp⟩
          simp only [Act.put, List.setIfInBounds_toArray]
          refine wpAnyH_ready (rs := [7]) (by kernel_rfl) (by simp) ?_
          refine AllReadyH.cons rfl (fun K hKK => ?_) AllReadyH.nil
          go_simp
          refine hKK.out _ _ (fun j u hu => (World.cell?_setCell_far _ _ _ _ (by show G ≠ wr.heap.size; omega)).trans (hT7 j u hu)) (fun _ => ?_)
          clear hKK K
          refine wpAnyH_done (by kernel_rfl) ?_ _
          go_wp2_with fail
          go_roundw
          case rel =>
            refine ⟨k + 1, by omega, by go_num, .slice (some ⟨g, 0, none⟩) (k + 1) cap, L ++ [d'], by simp [hLk], heap_setCell_at (m5 _ _ _ hblk), ?_, m6, ?_, hA0.keep m1 m2, ?_, by omega, ?_⟩
            · rw [List.flatMap_append, List.flatMap_singleton]
              exact owns_setCell hown7 m6
            · intro i x hi
              by_cases hik : i < k
              · rw [List.getElem?_append_left (by omega)] at hi
                exact (hLx i x hi).keep m1 m2
              · rw [List.getElem?_append_right (by omega)] at hi
                have hi0 : i - L.length = 0 := by
                  rcases Nat.eq_zero_or_pos (i - L.length) with h | h
                  · exact h
                  · rw [List.getElem?_eq_none (by simp; omega)] at hi
                    cases hi
                rw [hi0] at hi
                simp only [List.getElem?_cons_zero, Option.some.injEq] at hi
                subst hi
                have : i = k := by omega
                subst this
                exact hA5.keep m3 m4
            · refine Below.setCell ?_ (by show w.heap.size ≤ G; omega) _
              exact ((hbz.trans (hb5.mono hbz.size)).alloc (by omega) _).grown hgrow7 (by simp; omega) (fun b hb => by have := (hrl b hb).1; omega)
            · rw [m8 (w.heap.size + 1) (by omega) (by omega) (fun e => by have := (hrl _ e).1; omega)]
              exact hres
          case measure => simp [intOf]; omega
        · go_simp
          have hT6 : (w5.alloc (.cells d'.cells.toArray 32)).rangeAt wr.heap.size 0 cx := World.rangeAt_alloc hT5 _
          have c66 : (w5.alloc (.cells d'.cells.toArray 32)).cell? ⟨G, 20, none⟩ = some v := by rw [World.cell?_alloc_lt _ _ _ (by show G < _; omega)]; exact c65
          have c66w : (w5.alloc (.cells #[.int .i64 d'.s.ru, .string d'.s.nm, .string d'.s.ot, .bool d'.s.g, .slice d'.aq d'.an d'.ac, .slice d'.cq d'.cn d'.cc, .int .i64 d'.s.kk, .int .i64 d'.s.nn, .int .i64 d'.s.pr, .int .i64 d'.e.k, .int .i64 d'.e.f, .bool d'.e.neg, .slice d'.e.aq d'.e.an d'.e.ac, .slice d'.e.cq d'.e.cn d'.e.cc, .string d'.e.m, .slice d'.e.sq d'.e.sn d'.e.sc, .slice d'.poq d'.pon d'.poc, .string d'.s.en, .int .i64 d'.s.ve, .slice d'.arq d'.arn d'.arc, .slice d'.kiq d'.kin d'.kic] 32)).cell? ⟨G, 20, none⟩ = some v := c66
          refine hKK.out _ _ hT6 (fun _ => ?_)
          clear hKK K
          refine wpAnyH_ready (rs := [1]) (by kernel_rfl) (by simp) ?_
          refine AllReadyH.cons rfl (fun K hKK => ?_) AllReadyH.nil
          go_simp
          refine hKK.out _ _ hT6 (fun _ => ?_)
          clear hKK K
          refine wpAnyH_ready (rs := [5]) (by kernel_rfl) (by simp) ?_
          refine AllReadyH.cons rfl (fun K hKK => ?_) AllReadyH.nil
          refine step_append_lies _ rfl _ _ 30 rfl (w.heap.size + 2) 32 i0 (.agg #[.int .i64 0, .string ⟨#[]⟩, .string ⟨#[]⟩, .bool false, .slice none 0 0, .slice none 0 0, .int .i64 0, .int .i64 0, .int .i64 0, .int .i64 0, .int .i64 0, .bool false, .slice none 0 0, .slice none 0 0, .string ⟨#[]⟩, .slice none 0 0, .slice none 0 0, .string ⟨#[]⟩, .int .i64 0, .slice none 0 0, .slice none 0 0]) 21 328 Tryz.underlying30 hi hz0 hz1 hz2 rfl (by decide) v k (L.flatMap Sd.cells) rfl (hown5.alloc _) ⟨w5.heap.size, 0, none⟩ 1 1 d'.cells rfl rfl (World.news_of_block (heap_alloc_last w5 (.cells d'.cells.toArray 32))) (one_sd d') (by decide) (by unfold maxLen; omega) (by omega) (by simp; omega) _ rfl ?_
          intro g cap w7 hown7 hgrow7 hat7 hlt7
          have hTne : some wr.heap.size ≠ v.ownBlock := fun e => by have := (hrl _ e.symm).2; omega
          have hT7 : w7.rangeAt wr.heap.size 0 cx := fun j u hu => hgrow7.cell (hT6 j u hu) hTne
          have c67 : w7.cell? ⟨G, 20, none⟩ = some v := hgrow7.cell c66 (fun e => hne e.symm)
          obtain ⟨m1, m2, m3, m4, m5, m6, m7, m8⟩ := grow_step (j := 20) (u := .slice (some ⟨g, 0, none⟩) (k + 1) cap) hGr (by omega : w.heap.size + 2 ≤ wr.heap.size) hz hb5 hgrow7 hat7 hlt7 hrl hne rfl
          have f67 : ∀ j, w7.frozen? ⟨G, j, none⟩ = false := fun j => frozen_of_row _ _ _ _ _ (m5 _ _ _ hblk)
          refine hKK.out _ _ hT7 (fun hHeld7 => ?_)
          clear hKK K
          refine wpAnyH_take (i := 6) (oi := ?op6) (v := .pointer (some ⟨G, 20, none⟩)) ?ta6 ?tb6 ?tc6 ?td6 ?tq6 ?ty6 hHeld7 ?_
          case ta6 => rfl
          case tb6 => kernel_rfl
          case tc6 => kernel_rfl
          case td6 => kernel_rfl
          case tq6 => exact fun _ _ _ h => h
          case ty6 => exact Or.inl ⟨by rfl, by intro z hSz; go_simp⟩
          simp only [Act.put, List.setIfInBounds_toArray]
          refine wpAnyH_ready (rs := [7]) (by kernel_rfl) (by simp) ?_
          refine AllReadyH.cons rfl (fun K hKK => ?_) AllReadyH.nil
          go_simp
          refine hKK.out _ _ (fun j u hu => (World.cell?_setCell_far _ _ _ _ (by show G ≠ wr.heap.size; omega)).trans (hT7 j u hu)) (fun _ => ?_)
          clear hKK K
          refine wpAnyH_done (by kernel_rfl) ?_ _
          go_wp2_with fail
          go_roundw
          case rel =>
            refine ⟨k + 1, by omega, by go_num, .slice (some ⟨g, 0, none⟩) (k + 1) cap, L ++ [d'], by simp [hLk], heap_setCell_at (m5 _ _ _ hblk), ?_, m6, ?_, hA0.keep m1 m2, ?_, by omega, ?_⟩
            · rw [List.flatMap_append, List.flatMap_singleton]
              exact owns_setCell hown7 m6
            · intro i x hi
              by_cases hik : i < k
              · rw [List.getElem?_append_left (by omega)] at hi
                exact (hLx i x hi).keep m1 m2
              · rw [List.getElem?_append_right (by omega)] at hi
                have hi0 : i - L.length = 0 := by
                  rcases Nat.eq_zero_or_pos (i - L.length) with h | h
                  · exact h
                  · rw [List.getElem?_eq_none (by simp; omega)] at hi
                    cases hi
                rw [hi0] at hi
                simp only [List.getElem?_cons_zero, Option.some.injEq] at hi
                subst hi
                have : i = k := by omega
                subst this
                exact hA5.keep m3 m4
            · refine Below.setCell ?_ (by show w.heap.size ≤ G; omega) _
              exact ((hbz.trans (hb5.mono hbz.size)).alloc (by omega) _).grown hgrow7 (by simp; omega) (fun b hb => by have := (hrl b hb).1; omega)
            · rw [m8 (w.heap.size + 1) (by omega) (by omega) (fun e => by have := (hrl _ e).1; omega)]
              exact hres
          case measure => simp [intOf]; omega
    · have hk2 : d.kin = k := by omega
      have hr3 : wr.rangeAt G 0 [.int .i64 D.s.ru, .string D.s.nm, .string D.s.ot, .bool D.s.g, .slice D.aq D.an D.ac, .slice D.cq D.cn D.cc, .int .i64 D.s.kk, .int .i64 D.s.nn, .int .i64 D.s.pr, .int .i64 D.e.k, .int .i64 D.e.f, .bool D.e.neg, .slice D.e.aq D.e.an D.e.ac, .slice D.e.cq D.e.cn D.e.cc, .string D.e.m, .slice D.e.sq D.e.sn D.e.sc, .slice D.poq D.pon D.poc, .string D.s.en, .int .i64 D.s.ve, .slice D.arq D.arn D.arc, v] := by
        have h := World.rangeAt_of_block hblk 0 21
        simpa using h
      have hr2 : wr.there (w.heap.size + 1) 0 21 := there_of_block hres rfl
      have hws := hbw.size
      have hvf : ∃ q c, v = .slice q k c := by
        rcases hown.2 with ⟨h, h0⟩ | ⟨g, cp, cur, h, _⟩
        · exact ⟨none, 0, by rw [h, h0]⟩
        · exact ⟨_, _, h⟩
      obtain ⟨q3, c3, rfl⟩ := hvf
      have hr2' : Hid (wr.there (w.heap.size + 1) 0 21) := hr2
      have hr3' : Hid (wr.rangeAt G 0 [.int .i64 D.s.ru, .string D.s.nm, .string D.s.ot, .bool D.s.g, .slice D.aq D.an D.ac, .slice D.cq D.cn D.cc, .int .i64 D.s.kk, .int .i64 D.s.nn, .int .i64 D.s.pr, .int .i64 D.e.k, .int .i64 D.e.f, .bool D.e.neg, .slice D.e.aq D.e.an D.e.ac, .slice D.e.cq D.e.cn D.e.cc, .string D.e.m, .slice D.e.sq D.e.sn D.e.sc, .slice D.poq D.pon D.poc, .string D.s.en, .int .i64 D.s.ve, .slice D.arq D.arn D.arc, .slice q3 k c3]) := hr3
      clear hr2 hr3
      go_wp2_with (first
        | (with_reducible refine wpList_load_mid ?_ 32 (.tmp 3) ?_ G 0 ?_ [.int .i64 D.s.ru, .string D.s.nm, .string D.s.ot, .bool D.s.g, .slice D.aq D.an D.ac, .slice D.cq D.cn D.cc, .int .i64 D.s.kk, .int .i64 D.s.nn, .int .i64 D.s.pr, .int .i64 D.e.k, .int .i64 D.e.f, .bool D.e.neg, .slice D.e.aq D.e.an D.e.ac, .slice D.e.cq D.e.cn D.e.cc, .string D.e.m, .slice D.e.sq D.e.sn D.e.sc, .slice D.poq D.pon D.poc, .string D.s.en, .int .i64 D.s.ve, .slice D.arq D.arn D.arc, .slice q3 k c3] dd hr3'.out hHu.out hd ?_ ?_
           rotate_left 1
           · with_reducible rfl
           · rfl
           · exact st_size
           rotate_left 1
           · rfl)
        | (with_reducible refine wpList_store_mid ?_ 32 (.tmp 2) (.tmp 23) ?_ (w.heap.size + 1) 0 #[.int .i64 D.s.ru, .string D.s.nm, .string D.s.ot, .bool D.s.g, .slice D.aq D.an D.ac, .slice D.cq D.cn D.cc, .int .i64 D.s.kk, .int .i64 D.s.nn, .int .i64 D.s.pr, .int .i64 D.e.k, .int .i64 D.e.f, .bool D.e.neg, .slice D.e.aq D.e.an D.e.ac, .slice D.e.cq D.e.cn D.e.cc, .string D.e.m, .slice D.e.sq D.e.sn D.e.sc, .slice D.poq D.pon D.poc, .string D.s.en, .int .i64 D.s.ve, .slice D.arq D.arn D.arc, .slice q3 k c3] ?_ ?_ ?_ ?_ ?_ ?_
           rotate_left 1
           · with_reducible rfl
           · rfl
           · rfl
           · exact hr2'.out
           · exact st_size
           · exact all_oneCell_toArray (one_sd ⟨D.s, D.aq, D.an, D.ac, D.cq, D.cn, D.cc, D.e, D.poq, D.pon, D.poc, D.arq, D.arn, D.arc, q3, k, c3⟩)
           rotate_left 1
           · rfl))
      obtain ⟨hW8, hs8, hb8⟩ := setCells_facts w.heap.size (w.heap.size + 1) (by omega) [.int .i64 D.s.ru, .string D.s.nm, .string D.s.ot, .bool D.s.g, .slice D.aq D.an D.ac, .slice D.cq D.cn D.cc, .int .i64 D.s.kk, .int .i64 D.s.nn, .int .i64 D.s.pr, .int .i64 D.e.k, .int .i64 D.e.f, .bool D.e.neg, .slice D.e.aq D.e.an D.e.ac, .slice D.e.cq D.e.cn D.e.cc, .string D.e.m, .slice D.e.sq D.e.sn D.e.sc, .slice D.poq D.pon D.poc, .string D.s.en, .int .i64 D.s.ve, .slice D.arq D.arn D.arc, .slice q3 k c3] 0 w wr hbw
      have hr8 := World.rangeAt_setCells_same wr (w.heap.size + 1) 0 [.int .i64 D.s.ru, .string D.s.nm, .string D.s.ot, .bool D.s.g, .slice D.aq D.an D.ac, .slice D.cq D.cn D.cc, .int .i64 D.s.kk, .int .i64 D.s.nn, .int .i64 D.s.pr, .int .i64 D.e.k, .int .i64 D.e.f, .bool D.e.neg, .slice D.e.aq D.e.an D.e.ac, .slice D.e.cq D.e.cn D.e.cc, .string D.e.m, .slice D.e.sq D.e.sn D.e.sc, .slice D.poq D.pon D.poc, .string D.s.en, .int .i64 D.s.ve, .slice D.arq D.arn D.arc, .slice q3 k c3] hr2'.out
      change bodyPost _ _ _ _ _ (wr.setCells (w.heap.size + 1) 0 [.int .i64 D.s.ru, .string D.s.nm, .string D.s.ot, .bool D.s.g, .slice D.aq D.an D.ac, .slice D.cq D.cn D.cc, .int .i64 D.s.kk, .int .i64 D.s.nn, .int .i64 D.s.pr, .int .i64 D.e.k, .int .i64 D.e.f, .bool D.e.neg, .slice D.e.aq D.e.an D.e.ac, .slice D.e.cq D.e.cn D.e.cc, .string D.e.m, .slice D.e.sq D.e.sn D.e.sc, .slice D.poq D.pon D.poc, .string D.s.en, .int .i64 D.s.ve, .slice D.arq D.arn D.arc, .slice q3 k c3])
      generalize wr.setCells (w.heap.size + 1) 0 [.int .i64 D.s.ru, .string D.s.nm, .string D.s.ot, .bool D.s.g, .slice D.aq D.an D.ac, .slice D.cq D.cn D.cc, .int .i64 D.s.kk, .int .i64 D.s.nn, .int .i64 D.s.pr, .int .i64 D.e.k, .int .i64 D.e.f, .bool D.e.neg, .slice D.e.aq D.e.an D.e.ac, .slice D.e.cq D.e.cn D.e.cc, .string D.e.m, .slice D.e.sq D.e.sn D.e.sc, .slice D.poq D.pon D.poc, .string D.s.en, .int .i64 D.s.ve, .slice D.arq D.arn D.arc, .slice q3 k c3] = w8 at *
      have hk8 : Keeps (Free (w.heap.size + 2) wr G (.slice q3 k c3)) wr w8 := fun b hb => hb8 b (by have := hb.1; omega)
      have ha8 : ∀ b, Free (w.heap.size + 2) wr G (.slice q3 k c3) b → Fresh w w8 b := fun b hb => ⟨by have := hb.1; omega, by have := hb.2.1; omega⟩
      refine bodyPost_ret (results_cell_mid rfl _ _ (w.heap.size + 1) _ dd rfl hr8 hHu.out hd st_size) rfl ?_
      refine ⟨D, q3, c3, by rw [hk2], hA0.keep hk8 ha8, ?_, hW8⟩
      by_cases h0 : k = 0
      · exact .inl (by omega)
      · refine .inr ?_
        obtain ⟨g, cp, hg, hge, hgl⟩ := hown.form (by omega)
        simp only [Value.slice.injEq] at hg
        obtain ⟨rfl, _, rfl⟩ := hg
        refine ⟨g, rfl, ⟨by omega, by omega⟩, fun i => L.getD i default, fun i hi => ?_⟩
        have hiL : i < L.length := by omega
        have hgi : L[i]? = some (L.getD i default) := by simp [List.getD, hiL]
        refine ⟨fun j u hu => ?_, (hLx i _ hgi).keep hk8 ha8⟩
        have hc := owns_range (s := 21) (f := Sd.cells) (fun _ => rfl) hown hgi j u hu
        rw [← hc]
        exact World.cell?_of_block (hb8 g (by omega))
end Go.Proofs.YtlmifjdbjhcceaaGreatDoor
