/-
  The iterator of maps.Keys, slices.AppendSeq, slices.Collect.
-/
import Derived.Test.YtfhjhnofkaiceaaGreatDoorLbA
import Derived.RangeFuncNested
import Derived.RangeFuncBound
import Derived.RangeFuncCalls
import Derived.RangeFuncLeaves
import Derived.Shelf.Abstract
import Derived.Shelf.AbstractIn
import Derived.WalkKit
import Derived.OwnWalkIn
import Derived.TacticsInMore
import Derived.LoopNIn
import Derived.LoopIn
import Derived.Maps.AppendAt
import Derived.Sort.MapsRangeIn
namespace Go.Proofs.YtfhjhnofkaiceaaGreatDoor
open Go Go.RowKit Go.Maps Go.Shelf

attribute [local go_sem] Oper.semAt_some

set_option maxRecDepth 100000 in
set_option maxHeartbeats 1000000 in
/-- The iterator of maps.Keys over a set of keys, for every loop body. -/
theorem keys62_in (F : Fence) (n : Nat) (h62 : F.fn 62) (hro : F.round = none) (hn : 1 ≤ n) (l Bm b nn : Nat) (D : DataW Unit) (S : List Ky) (hS : IsSet D S) (J Jx : List Ky → World → Prop)
    (hY : ∀ pre x W, J pre W → pre.length < nn → YieldAt F (n - 1) Tryz.prog l #[.agg #[.string x.1, .int .i64 x.2]] W fun e W' =>
      (e = .returned (.bool true) ∧ J (pre ++ [x]) W' ∧ KeepsWalks W W') ∨ (e = .returned (.bool false) ∧ Jx (pre ++ [x]) W'))
    (W : World) (hJ : AbidesFrom W.heap.size J) (hm : W.cell? ⟨Bm, 0, none⟩ = some (.map (some b))) (hown : W.ownsMap Tryz.prog 24 (plainElem Tryz.prog 4) b nn D) (h0 : J [] W) :
    CallsIn F n Tryz.prog 62 #[.func (.yield l) #[] #[], .pointer (some ⟨Bm, 0, none⟩)] W fun e W' => (∃ v, e = .returned v) ∧
      ((∃ ss : List Ky, (ss.Nodup ∧ ∀ x, x ∈ ss ↔ x ∈ S) ∧ J ss W') ∨ (∃ pre : List Ky, True ∧ Jx pre W')) := by
  refine callsIn_of_wp Tryz.func62 rfl h62 ?_ hro
  simp only [Tryz.ntmps62, List.size_toArray, List.length_cons, List.length_nil, Nat.reduceAdd, Nat.reduceSub, Array.replicate_succ, Array.replicate_zero, List.push_toArray, List.append_toArray, List.nil_append, List.cons_append]
  have hsz := hown.size_le
  gi_wp2_with (first
    | (gi_at_range; refine wpListIn_range_own _ rfl _ 61 rfl 24 4 keyedK Tryz.underlying61 _ b nn _ rfl hown ?_; intro w0 hrg0 hg0 hs0)
    | gi_in)
  go_frame
  gi_loopw [3] (fun _ wr => ∃ (left : Lit → Bool) (cnt : Nat) (ss : List Ky), wr.ranges Tryz.prog 24 (plainElem Tryz.prog 4) b W.heap.size nn D left cnt ∧ ss.length + cnt ≤ nn ∧ CollK D left ss ∧ J ss wr)
    (fun _ wr => wr.rangeLeft b W.heap.size)
  case atStart =>
    exact ⟨_, _, [], hrg0, by simp; exact hsz, CollK.start D, hJ [] W w0 none h0 hg0 (fun r e => by cases e)⟩
  case round =>
    obtain ⟨left, cnt, ss, hrg, hcs, hC, hJs⟩ := hrel
    gi_wp2_with (first
      | (gi_at_next; refine wpListIn_next_ranges _ rfl _ rfl 24 keyedK (plainElem Tryz.prog 4) id id (fun v _ _ => ⟨v, rfl⟩) (fun v _ _ => ⟨v, rfl⟩) b W.heap.size nn _ _ _ rfl hrg ?_ ?_)
      | gi_in)
    · intro hc0 hl0
      gi_wp2
      go_end0
      exact ⟨⟨_, rfl⟩, .inl ⟨ss, hC.all hS hl0, hJs⟩⟩
    · intro v c kl yd yp w2 cnt2 hkey hlk hv hat hrg2 hlt hg2 hs2 hen
      obtain ⟨x, hx', rfl, rfl⟩ := keyOf_inv hkey
      have hJ2 : J ss w2 := hJ ss wr w2 (some W.heap.size) hJs hg2 (fun r e => by cases e; exact ⟨Nat.le_refl _, hrg.iter_walk⟩)
      have hJ3 : ∀ o, J ss (w2.alloc o) := fun o => hJ ss w2 _ none hJ2 (World.grownBy_alloc w2 o none) (fun r e => by cases e)
      have hrg3 : ∀ o, (w2.alloc o).ranges Tryz.prog 24 (plainElem Tryz.prog 4) b W.heap.size nn D (fun z => left z && !z.sameKey (litK x)) cnt2 := fun o => hrg2.alloc o
      have hC2 := hC.step hx' hlk hat
      obtain ⟨fn, tmps, assign, body, hy, hR⟩ := hY ss x (w2.alloc (.cells #[.string x.1, .int .i64 x.2] 24)) (hJ3 _) (by omega)
      clear hs2
      gi_wp2
      refine hR.mono ?_
      rintro e W3 (⟨rfl, hJ4, hk4⟩ | ⟨rfl, hJx4⟩)
      · gi_wp2
        have hrg4 := (hrg3 _).of_walks hk4
        go_roundw
        case rel => exact ⟨_, cnt2, ss ++ [x], hrg4, by simp; omega, hC2, hJ4⟩
        case measure => rw [hrg4.left_eq, hrg.left_eq]; exact hlt
      · gi_wp2
        refine bodyPost_ret (results_none rfl _ _ _) rfl ?_
        exact ⟨⟨_, rfl⟩, .inr ⟨ss ++ [x], trivial, hJx4⟩⟩

/-- maps.Keys of a set hands back a value that stops. -/
theorem keys_stops (F : Fence) (n : Nat) (h62 : F.fn 62) (hro : F.round = none) (hn : 1 ≤ n) (Bm b nn : Nat) (S : List Ky) (w : World) (hBm : Bm < w.heap.size)
    (hm : w.cell? ⟨Bm, 0, none⟩ = some (.map (some b))) (hown : SetAt w b nn S) :
    SeqStopsK F n Tryz.prog 62 #[.pointer (some ⟨Bm, 0, none⟩)] (fun x : Ky => #[.agg #[.string x.1, .int .i64 x.2]]) KeepsWalks (fun ss => ss.Nodup ∧ ∀ x, x ∈ ss ↔ x ∈ S) (fun _ => True) nn w := fun l J Jx W hW hJ _ hY h0 => by
  have h2 := hown.below hW hown.lt
  obtain ⟨_, D, h3, h4⟩ := h2
  exact keys62_in F n h62 hro hn l Bm b nn D S h4 J Jx hY W hJ ((hW.cell (p := ⟨Bm, 0, none⟩) hBm).trans hm) h3 h0

set_option maxHeartbeats 1000000 in
/-- maps.Keys. -/
theorem mkeys_in (F : Fence) (n : Nat) (h44 : F.fn 44) (hro : F.round = none) (mb : Option Nat) (w : World) :
    CallsIn F n Tryz.prog 44 #[.map mb] w fun e w' => e = .returned (.func (.func 62) #[] #[.pointer (some ⟨w.heap.size, 0, none⟩)]) ∧ w' = w.alloc (.cells #[.map mb] 61) := by
  refine callsIn_of_wp Tryz.func44 rfl h44 ?_ hro
  simp only [Tryz.ntmps44, List.size_toArray, List.length_cons, List.length_nil, Nat.reduceAdd, Nat.reduceSub, Array.replicate_succ, Array.replicate_zero, List.push_toArray, List.append_toArray, List.nil_append, List.cons_append]
  gi_wp2
  go_ret
  exact ⟨rfl, rfl⟩

set_option maxRecDepth 100000 in
set_option maxHeartbeats 2000000 in
/-- slices.AppendSeq of nil and an iterator over keys. -/
theorem appendSeq_in (F : Fence) (n : Nat) (h80 : F.fn 80) (hro : F.round = none) (hn : 3 ≤ n) (g : Nat) (lb : Array Value) (hFg : F.fn g) (eg : ∀ args w, (callFunc g args).run Tryz.prog w = .ok (.enter g args) w)
    (S Sp : List Ky → Prop) (N : Nat) (hN : N ≤ 1048576) (w : World) (hseq : SeqStopsK F (n - 1) Tryz.prog g lb (fun x : Ky => #[.agg #[.string x.1, .int .i64 x.2]]) KeepsWalks S Sp N w) :
    CallsIn F n Tryz.prog 80 #[.slice none 0 0, .func (.func g) #[] lb] w fun e w' => ∃ (v : Value) (ss : List Ky), e = .returned v ∧ S ss ∧ w'.ownsRow w.heap.size 24 2 v ss.length (ss.flatMap kcells) ∧ (v = .slice none 0 0 ↔ ss = []) ∧ Below w.heap.size w w' := by
  have h1 : 1 ≤ n := by omega
  obtain ⟨i0, hi, hz0, hz1, hz2⟩ := info_parts (show (Tryz.prog.info? 24).map (fun i => (i.zero, i.size, i.bytes)) = some (some (.agg #[.string ⟨#[]⟩, .int .i64 0]), 2, 24) by kernel_rfl)
  refine callsIn_of_wp_marks Tryz.func80 rfl h80 ?_ hro
  simp only [Tryz.ntmps80, List.size_toArray, List.length_cons, List.length_nil, Nat.reduceAdd, Nat.reduceSub, Array.replicate_succ, Array.replicate_zero, List.push_toArray, List.append_toArray, List.nil_append, List.cons_append]
  gi_wp2
  have bO := Boxed.new w 29 (.slice none 0 0)
  have hB0 : Below w.heap.size w (w.alloc (.cells #[.slice none 0 0] 29)) := below_one _ _
  refine wpIn_rangeFunc_ownH hro h1 (gf := g) (lb := lb) rfl hFg eg hseq walksK_t walksK_b hB0 (fun _ => rfl)
    (fun pre W => (∃ v, Boxed W w.heap.size 29 v ∧ W.ownsRow w.heap.size 24 2 v pre.length (pre.flatMap kcells) ∧ (v = .slice none 0 0 ↔ pre = [])) ∧ Below w.heap.size w W)
    (fun _ _ _ => False)
    (OwnFrom.and (Own.from (holdsRow_own w.heap.size w.heap.size 29 24 2 (fun pre => pre.length) (fun pre => pre.flatMap kcells) (fun pre v => v = .slice none 0 0 ↔ pre = [])) _) (ownFrom_below (Nat.le_refl _) (by simp)))
    (fun _ _ _ _ _ hs _ _ => hs)
    ⟨⟨_, bO, World.ownsRow_nil _ _ _ _, by simp⟩, hB0⟩
    (fun x a' W => ∃ Bx, w.heap.size < Bx ∧ W.heap[Bx]? = some (.cells #[.string x.1, .int .i64 x.2] 24 (0, 0)) ∧ a' = { tmps := #[.slice none 0 0, .func (.func g) #[] lb, .pointer (some ⟨w.heap.size, 0, none⟩), undef, .slice none 0 0, .pointer (some ⟨Bx, 0, none⟩), .func (.func g) #[] lb, .agg #[.string x.1, .int .i64 x.2], undef, undef, undef, undef, undef], defers := [] })
    (fun x a' _ X Y row h hg hr => by
      obtain ⟨Bx, h2, h3, h4⟩ := h
      refine ⟨Bx, h2, (hg.block Bx (Array.getElem?_eq_some_iff.1 h3).1 (fun e => ?_)).trans h3, h4⟩
      obtain ⟨_, o, ho, hc⟩ := hr Bx e.symm
      rw [h3] at ho
      cases ho
      cases hc)
    ?assign ?body ?done ?stop
  case assign =>
    rintro l pre x W K ⟨⟨v, hv, hrow, hnil⟩, hB⟩ hK
    have hs := hB.size
    have hn1 := World.alloc_heap_new W (.cells #[.string x.1, .int .i64 x.2] 24)
    gi_wp2
    exact hK _ _ ((KeepsOthers.alloc _ _).from _) (KeepsWalks.alloc _ _) ⟨⟨v, hv.alloc _, hrow.alloc _, hnil⟩, hB.alloc hs _⟩ ⟨W.heap.size, hv.lt, hn1, rfl⟩
  case body =>
    rintro l pre x a' W hl _ ⟨⟨v, hv, hrow, hnil⟩, hB⟩ ⟨Bx, hBx, hbx, rfl⟩ hlt
    have hc := hv.cell
    have hs := hB.size
    have d0 : W.cell? ⟨Bx, 0, none⟩ = some (.string x.1) := by simp [World.cell?, hbx]
    have d1 : W.cell? ⟨Bx, 1, none⟩ = some (.int .i64 x.2) := by simp [World.cell?, hbx]
    have hvl := hv.lt
    have hnews := World.news_of_block (heap_alloc_last W (.cells #[.string x.1, .int .i64 x.2] 24))
    gi_wp2_with (gi_at_builtin; refine wpListIn_append_own _ rfl _ _ 29 rfl w.heap.size 24 i0 (.agg #[.string ⟨#[]⟩, .int .i64 0]) 2 24 Tryz.underlying29 hi hz0 hz1 hz2 rfl (by decide) _ _ _ rfl (hrow.alloc _) ⟨W.heap.size, 0, none⟩ 1 1 [.string x.1, .int .i64 x.2] rfl rfl hnews (one_two x.1 x.2) (by unfold maxLen; omega) (by omega) (by simp; omega) ?_; intro v' w1 hown' hgrow _; obtain ⟨g', cap', rfl⟩ := ownsRow_succ hown'; obtain ⟨hv1, hv2, hr2, hk2, hb2⟩ := hv.appended (by decide) hrow hs (Nat.le_refl _) hown' hgrow; have hc1 := hv1.cell; have hf1 := hv1.frozen)
    exact ⟨hk2.from _, hk2.walks, ⟨_, hv2, by simpa [kcells] using hr2, by simp⟩, hB.trans hb2⟩
  case done =>
    rintro D ys W hD hSy ⟨⟨v, hv, hrow, hnil⟩, hB⟩ hK
    have hc := hv.cell
    gi_wp2
    refine ⟨by simp, .inl ⟨_, _, rfl, run_takeDeferred hK, ?_⟩⟩
    exact ⟨_, results_tmp rfl _ _ _, v, ys, rfl, hSy, ownsRow_putObj hrow _ hK rfl, hnil, hB.trans (belowK_b (w := w) (Nat.le_refl _) W D _ _ (by simp at hD; omega) hK rfl rfl)⟩
  case stop =>
    rintro D c pre W _ _ h _
    exact h.elim

set_option maxHeartbeats 1000000 in
/-- slices.Collect of an iterator over keys. -/
theorem collect_in (F : Fence) (n : Nat) (h61 : F.fn 61) (h80 : F.fn 80) (hro : F.round = none) (hn : 4 ≤ n) (g : Nat) (lb : Array Value) (hFg : F.fn g) (eg : ∀ args w, (callFunc g args).run Tryz.prog w = .ok (.enter g args) w)
    (S Sp : List Ky → Prop) (N : Nat) (hN : N ≤ 1048576) (w : World) (hseq : SeqStopsK F (n - 1 - 1) Tryz.prog g lb (fun x : Ky => #[.agg #[.string x.1, .int .i64 x.2]]) KeepsWalks S Sp N w) :
    CallsIn F n Tryz.prog 61 #[.func (.func g) #[] lb] w fun e w' => ∃ (v : Value) (ss : List Ky), e = .returned v ∧ S ss ∧ w'.ownsRow w.heap.size 24 2 v ss.length (ss.flatMap kcells) ∧ (v = .slice none 0 0 ↔ ss = []) ∧ Below w.heap.size w w' := by
  have h1 : 1 ≤ n := by omega
  refine callsIn_of_wp Tryz.func61 rfl h61 ?_ hro
  simp only [Tryz.ntmps61, List.size_toArray, List.length_cons, List.length_nil, Nat.reduceAdd, Nat.reduceSub, Array.replicate_succ, Array.replicate_zero, List.push_toArray, List.append_toArray, List.nil_append, List.cons_append]
  gi_wp2_with (gi_at_call 80; refine (appendSeq_in F (n - 1) h80 hro (by omega) g lb hFg eg S Sp N hN _ hseq).mono ?_; rintro e w' ⟨v, ss, rfl, hS, hrow, hnil, hb⟩)
  go_ret
  exact ⟨v, ss, rfl, hS, hrow, hnil, hb⟩
end Go.Proofs.YtfhjhnofkaiceaaGreatDoor
