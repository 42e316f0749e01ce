import Derived.Defers
import Derived.Recover
import Derived.Test.YtaonejnicgbifaaGreatDoorPk14
namespace Go.Proofs.YtaonejnicgbifaaGreatDoor
open Go Go.RowKit Go.Maps Go.Shelf Go.Sort

attribute [local go_sem] Oper.semAt_some

/-- The names of the variables among nodes, as a map's datum. -/
def nmD (xs : List Nv) : DataW Unit := xs.foldl (fun D x => if x.1.k = 2 then D.put (.string x.1.m.data.toList) (.lit (.bool true)) else D) (.map [])
theorem nmD_snoc (pre : List Nv) (x : Nv) : nmD (pre ++ [x]) = if x.1.k = 2 then (nmD pre).put (.string x.1.m.data.toList) (.lit (.bool true)) else nmD pre := by simp [nmD, List.foldl_append]
theorem isKey_str (s : ByteArray) (hs : s.size ≤ maxLen) : WideAt.IsKeyLit (.string s.data.toList) := (string_keyed (P := Tryz.prog) Tryz.underlying9).key (WideMaps.keyOf_string_mk Tryz.underlying9 hs)
theorem fold_has (s : List UInt8) : ∀ (xs : List Nv) (D : DataW Unit), IsMap D →
    has (xs.foldl (fun D x => if x.1.k = 2 then D.put (.string x.1.m.data.toList) (.lit (.bool true)) else D) D) (.string s) = (has D (.string s) || xs.any fun x => decide (x.1.k = 2 ∧ x.1.m.data.toList = s))
  | [], D, _ => by simp
  | x :: xs, D, hD => by
    rw [List.foldl_cons, List.any_cons]
    by_cases hk : x.1.k = 2
    · rw [if_pos hk, fold_has s xs _ (hD.put _ _)]
      by_cases he : x.1.m.data.toList = s
      · rw [← he, has_put_same hD (isKey_str _ (by have := x.2; unfold maxLen; omega))]
        simp [hk]
      · rw [has_put_other (fun e => he (by cases e; rfl))]
        simp [hk, he]
    · rw [if_neg hk, fold_has s xs D hD]
      simp [hk]
theorem nmD_has (s : List UInt8) (xs : List Nv) : has (nmD xs) (.string s) = xs.any fun x => decide (x.1.k = 2 ∧ x.1.m.data.toList = s) := by
  unfold nmD
  rw [fold_has s xs _ ⟨[], rfl⟩]
  simp [has]
theorem mem_strKeys {es : List (Lit × DataW Unit)} (hk : ∀ p ∈ es, ∃ x, p.1 = .string x) (s : List UInt8) : s ∈ strKeys (.map es) ↔ has (.map es) (.string s) = true := by
  rw [has_eq, List.any_eq_true]
  show s ∈ es.map (fun p => strOf p.1) ↔ _
  rw [List.mem_map]
  constructor
  · rintro ⟨p, hp, rfl⟩
    obtain ⟨x, hx⟩ := hk p hp
    refine ⟨p, hp, ?_⟩
    rw [hx]
    simp [strOf, Lit.sameKey]
  · rintro ⟨p, hp, hs⟩
    obtain ⟨x, hx⟩ := hk p hp
    refine ⟨p, hp, ?_⟩
    rw [hx] at hs ⊢
    have := WideAt.sameKey_eq hs
    cases this
    rfl
theorem nmD_keys {w : World} {b n : Nat} {xs : List Nv} (h : w.ownsMap Tryz.prog 9 (plainElem (H := Unit) Tryz.prog 4) b n (nmD xs)) (s : List UInt8) : s ∈ strKeys (nmD xs) ↔ ∃ x ∈ xs, x.1.k = 2 ∧ x.1.m.data.toList = s := by
  obtain ⟨es, he, hk⟩ := h.keysOf
  rw [he, mem_strKeys (fun p hp => by obtain ⟨v, hv⟩ := hk p hp; obtain ⟨x, _, hx, _⟩ := Maps.keyOf_str Tryz.underlying9 hv; exact ⟨x, hx⟩), ← he, nmD_has, List.any_eq_true]
  simp

/-- A list of strings in memory. -/
def StrsOk (w : World) (q : Option Addr) (n : Nat) (ns : Nat → ByteArray) : Prop := n = 0 ∨ ∃ b o, q = some ⟨b, o, none⟩ ∧ b < w.heap.size ∧ ∀ i, i < n → w.cell? ⟨b, o + i, none⟩ = some (.string (ns i))
theorem StrsOk.below {w w' : World} (hb : Below w.heap.size w w') {q : Option Addr} {n : Nat} {ns : Nat → ByteArray} (h : StrsOk w q n ns) : StrsOk w' q n ns := by
  refine h.imp id ?_
  rintro ⟨b, o, e, hlt, hc⟩
  exact ⟨b, o, e, Nat.lt_of_lt_of_le hlt hb.size, fun i hi => (hb.cell (p := ⟨b, o + i, none⟩) hlt).trans (hc i hi)⟩
theorem strs_of_row {w : World} {base : Nat} {v : Value} {ss : List (List UInt8)} (h : w.ownsRow base 9 1 v ss.length (ss.map encStr)) : ∃ q cap, v = .slice q ss.length cap ∧ StrsOk w q ss.length (fun i => ⟨(ss.getD i []).toArray⟩) := by
  obtain ⟨h1, ⟨rfl, h2⟩ | ⟨g, cap, cur, rfl, h2, h3, h4, h5, h6, h7⟩⟩ := h
  · exact ⟨none, 0, by rw [h2], .inl h2⟩
  · refine ⟨_, cap, rfl, .inr ⟨g, 0, rfl, (Array.getElem?_eq_some_iff.1 h3).1, fun i hi => ?_⟩⟩
    have h8 : cur[i]? = some (.string ⟨(ss.getD i []).toArray⟩) := by
      have h9 : (cur.toList.take (ss.length * 1))[i]? = (ss.map encStr)[i]? := by rw [h7]
      rw [List.getElem?_take, if_pos (by omega), List.getElem?_map, List.getElem?_eq_getElem hi] at h9
      rw [← Array.getElem?_toList, h9, List.getD_eq_getElem?_getD, List.getElem?_eq_getElem hi]
      rfl
    simp [World.cell?, h3, h8]

theorem kpN_b {n₀ : Nat} {w : World} (hn : n₀ ≤ w.heap.size) (W : World) (l : Nat) (o o' : Obj) (hl : w.heap.size ≤ l) (h : W.heap[l]? = some o) (hc : o.isCells = false) (hw : o.isWalk = false) : KpN n₀ W (W.putObj l o') :=
  ⟨belowK_b hn W l o o' hl h hc hw, ⟨(World.grownBy.size (grownBy_putObj' W l o')), fun k o2 hk h2 => by
    by_cases e : k = l
    · subst e
      rw [h] at hk
      cases hk
      rw [hc] at h2
      cases h2
    · exact (World.putObj_heap_other e).trans hk⟩⟩
theorem kpN_grown {n₀ : Nat} {W W' : World} {b : Nat} (hg : W.grownBy W' (some b)) (hb : n₀ ≤ b) (hB : n₀ ≤ W.heap.size) (hm : ∀ o, W.heap[b]? = some o → o.isCells = false) : KpN n₀ W W' :=
  ⟨(Below.refl _ W).grown hg hB (fun k e => by cases e; exact hb), ⟨hg.size, fun k o hk hc => by
    by_cases e : k = b
    · subst e
      rw [hm o hk] at hc
      cases hc
    · exact (hg.block k (Array.getElem?_eq_some_iff.1 hk).1 (fun e' => e (by cases e'; rfl))).trans hk⟩⟩

set_option maxRecDepth 100000 in
set_option maxHeartbeats 4000000 in
/-- expr.Vars of a valid expression. -/
theorem vars_valid {w : World} {x : Ex} {d : Nd} {a : Nat} (hx : ExOk w x d) (hT : Tb w) (hv : x.cnt 1 0 = some a) :
    Calls Tryz.prog 50 #[d.val] w fun e w' => (∃ q n cap ns, e = .returned (.tuple #[.slice q n cap, .int .i64 0]) ∧ StrsOk w' q n ns ∧ n ≤ 300 ∧ ∀ s, (∃ i, i < n ∧ ns i = s) ↔ (2, s) ∈ x.nds) ∧ Below w.heap.size w w' := by
  obtain ⟨hlen, hsz⟩ := cnt_nds x 1 0 a hv
  have hle : a ≤ 300 := Ex.cnt_le x 1 0 a hv
  have hb0 : Below w.heap.size w (w.alloc (.cells #[.int .i64 d.k, .int .i64 d.f, .bool d.neg, .slice d.aq d.an d.ac, .slice d.cq d.cn d.cc, .string d.m, .slice d.sq d.sn d.sc] 30)) := below_alloc w _
  have hvd := eValid_ok (hx.below hb0) (hT.below hb0)
  rw [hv] at hvd
  simp only [Nd.val, Option.isSome_some] at hvd
  simp only [Nd.val]
  refine (callsIn_wide (n := 6)).1 ?_
  have hmm := @run_makeMap Tryz.prog
  have f26 : Fence.wide.fn 26 := trivial
  have f79 : Fence.wide.fn 79 := trivial
  have f80 : Fence.wide.fn 80 := trivial
  have f81 : Fence.wide.fn 81 := trivial
  have hdd : ∀ k : Nat, (Fence.wide.depth.isSome = true → 1 ≤ k) := fun k h => by cases h
  refine callsIn_of_wp_marks Tryz.func50 rfl trivial ?_ rfl
  simp only [Tryz.ntmps50, List.size_toArray, List.length_cons, List.length_nil, Nat.reduceAdd, Nat.reduceSub, Array.replicate_succ, Array.replicate_zero, List.push_toArray, List.append_toArray, List.nil_append, List.cons_append]
  gi_wp2_with (first
    | (gi_at_call 26; refine (callsIn_wide.2 hvd).mono ?_; rintro e w1 ⟨rfl, hb1⟩
       have hs0 : w.heap.size < (w.alloc (.cells #[.int .i64 d.k, .int .i64 d.f, .bool d.neg, .slice d.aq d.an d.ac, .slice d.cq d.cn d.cc, .string d.m, .slice d.sq d.sn d.sc] 30)).heap.size := by simp
       have y0 := (hb1.cell (p := ⟨w.heap.size, 0, none⟩) (by exact hs0)).trans (by simp : _ = some (.int .i64 d.k))
       have y1 := (hb1.cell (p := ⟨w.heap.size, 1, none⟩) (by exact hs0)).trans (by simp : _ = some (.int .i64 d.f))
       have y2 := (hb1.cell (p := ⟨w.heap.size, 2, none⟩) (by exact hs0)).trans (by simp : _ = some (.bool d.neg))
       have y3 := (hb1.cell (p := ⟨w.heap.size, 3, none⟩) (by exact hs0)).trans (by simp : _ = some (.slice d.aq d.an d.ac))
       have y4 := (hb1.cell (p := ⟨w.heap.size, 4, none⟩) (by exact hs0)).trans (by simp : _ = some (.slice d.cq d.cn d.cc))
       have y5 := (hb1.cell (p := ⟨w.heap.size, 5, none⟩) (by exact hs0)).trans (by simp : _ = some (.string d.m))
       have y6 := (hb1.cell (p := ⟨w.heap.size, 6, none⟩) (by exact hs0)).trans (by simp : _ = some (.slice d.sq d.sn d.sc))
       have hbw1 : Below w.heap.size w w1 := hb0.trans (hb1.mono hb0.size)
       have hs1 := hbw1.size
       have hlt1 : w.heap.size < w1.heap.size := Nat.lt_of_lt_of_le hs0 hb1.size
       have hbM : Below w1.heap.size w1 ((w1.alloc (.map #[] 0)).alloc (.cells #[.map (some w1.heap.size)] 132)) := ((Below.refl _ w1).alloc (Nat.le_refl _) _).alloc (by simp) _
       have q0 : ((w1.alloc (.map #[] 0)).alloc (.cells #[.map (some w1.heap.size)] 132)).cell? ⟨w.heap.size, 0, none⟩ = some (.int .i64 d.k) := (hbM.cell (p := ⟨w.heap.size, 0, none⟩) (by exact hlt1)).trans y0
       have q1 : ((w1.alloc (.map #[] 0)).alloc (.cells #[.map (some w1.heap.size)] 132)).cell? ⟨w.heap.size, 1, none⟩ = some (.int .i64 d.f) := (hbM.cell (p := ⟨w.heap.size, 1, none⟩) (by exact hlt1)).trans y1
       have q2 : ((w1.alloc (.map #[] 0)).alloc (.cells #[.map (some w1.heap.size)] 132)).cell? ⟨w.heap.size, 2, none⟩ = some (.bool d.neg) := (hbM.cell (p := ⟨w.heap.size, 2, none⟩) (by exact hlt1)).trans y2
       have q3 : ((w1.alloc (.map #[] 0)).alloc (.cells #[.map (some w1.heap.size)] 132)).cell? ⟨w.heap.size, 3, none⟩ = some (.slice d.aq d.an d.ac) := (hbM.cell (p := ⟨w.heap.size, 3, none⟩) (by exact hlt1)).trans y3
       have q4 : ((w1.alloc (.map #[] 0)).alloc (.cells #[.map (some w1.heap.size)] 132)).cell? ⟨w.heap.size, 4, none⟩ = some (.slice d.cq d.cn d.cc) := (hbM.cell (p := ⟨w.heap.size, 4, none⟩) (by exact hlt1)).trans y4
       have q5 : ((w1.alloc (.map #[] 0)).alloc (.cells #[.map (some w1.heap.size)] 132)).cell? ⟨w.heap.size, 5, none⟩ = some (.string d.m) := (hbM.cell (p := ⟨w.heap.size, 5, none⟩) (by exact hlt1)).trans y5
       have q6 : ((w1.alloc (.map #[] 0)).alloc (.cells #[.map (some w1.heap.size)] 132)).cell? ⟨w.heap.size, 6, none⟩ = some (.slice d.sq d.sn d.sc) := (hbM.cell (p := ⟨w.heap.size, 6, none⟩) (by exact hlt1)).trans y6)
    | (gi_at_call 79; refine (nodes_in Fence.wide _ trivial rfl d _).mono ?_; rintro e w' ⟨rfl, rfl⟩))
  have hm0 := World.ownsMap_made w1 Tryz.prog 9 (plainElem (H := Unit) Tryz.prog 4)
  have hB1 : Below w.heap.size w ((w1.alloc (.map #[] 0)).alloc (.cells #[.map (some w1.heap.size)] 132)) := (hbw1.alloc hs1 _).alloc (by simp; omega) _
  have hB2 : Below w.heap.size w (((w1.alloc (.map #[] 0)).alloc (.cells #[.map (some w1.heap.size)] 132)).alloc (.cells #[.int .i64 d.k, .int .i64 d.f, .bool d.neg, .slice d.aq d.an d.ac, .slice d.cq d.cn d.cc, .string d.m, .slice d.sq d.sn d.sc] 30)) := hB1.alloc (by simp; omega) _
  have hJB : BlkI (((w1.alloc (.map #[] 0)).alloc (.cells #[.map (some w1.heap.size)] 132)).alloc (.cells #[.int .i64 d.k, .int .i64 d.f, .bool d.neg, .slice d.aq d.an d.ac, .slice d.cq d.cn d.cc, .string d.m, .slice d.sq d.sn d.sc] 30)) (w1.heap.size + 1 + 1) 30 #[.int .i64 d.k, .int .i64 d.f, .bool d.neg, .slice d.aq d.an d.ac, .slice d.cq d.cn d.cc, .string d.m, .slice d.sq d.sn d.sc] := by
    have h := heap_alloc_new ((w1.alloc (.map #[] 0)).alloc (.cells #[.map (some w1.heap.size)] 132)) (.cells #[.int .i64 d.k, .int .i64 d.f, .bool d.neg, .slice d.aq d.an d.ac, .slice d.cq d.cn d.cc, .string d.m, .slice d.sq d.sn d.sc] 30)
    rwa [show ((w1.alloc (.map #[] 0)).alloc (.cells #[.map (some w1.heap.size)] 132)).heap.size = w1.heap.size + 1 + 1 by simp] at h
  have hbZ : BlkI ((w1.alloc (.map #[] 0)).alloc (.cells #[.map (some w1.heap.size)] 132)) (w1.heap.size + 1) 132 #[.map (some w1.heap.size)] := by
    have h := heap_alloc_new (w1.alloc (.map #[] 0)) (.cells #[.map (some w1.heap.size)] 132)
    rwa [show (w1.alloc (.map #[] 0)).heap.size = w1.heap.size + 1 by simp] at h
  have hcM : (((w1.alloc (.map #[] 0)).alloc (.cells #[.map (some w1.heap.size)] 132)).alloc (.cells #[.int .i64 d.k, .int .i64 d.f, .bool d.neg, .slice d.aq d.an d.ac, .slice d.cq d.cn d.cc, .string d.m, .slice d.sq d.sn d.sc] 30)).cell? ⟨w1.heap.size + 1, 0, none⟩ = some (.map (some w1.heap.size)) := (hbZ.below (below_alloc _ _)).cell 0
  have hmO := (hm0.alloc (.cells #[.map (some w1.heap.size)] 132)).alloc (.cells #[.int .i64 d.k, .int .i64 d.f, .bool d.neg, .slice d.aq d.an d.ac, .slice d.cq d.cn d.cc, .string d.m, .slice d.sq d.sn d.sc] 30)
  have hsz5 : (((w1.alloc (.map #[] 0)).alloc (.cells #[.map (some w1.heap.size)] 132)).alloc (.cells #[.int .i64 d.k, .int .i64 d.f, .bool d.neg, .slice d.aq d.an d.ac, .slice d.cq d.cn d.cc, .string d.m, .slice d.sq d.sn d.sc] 30)).heap.size = w1.heap.size + 3 := by simp
  clear hm0 hB1 y0 y1 y2 y3 y4 y5 y6 q0 q1 q2 q3 q4 q5 q6 hvd hbZ hbM
  generalize (((w1.alloc (.map #[] 0)).alloc (.cells #[.map (some w1.heap.size)] 132)).alloc (.cells #[.int .i64 d.k, .int .i64 d.f, .bool d.neg, .slice d.aq d.an d.ac, .slice d.cq d.cn d.cc, .string d.m, .slice d.sq d.sn d.sc] 30)) = W5 at *
  refine wpIn_rangeFunc_ownH (F := Fence.wide) (n := 6) rfl (by decide) (gf := 111) (lb := #[.pointer (some ⟨w1.heap.size + 1 + 1, 0, none⟩)]) rfl trivial (enters_of Tryz.func111 (by kernel_rfl) rfl)
    (nodes_stops Fence.wide rfl _ trivial trivial rfl (w1.heap.size + 1 + 1) w W5 x d hJB hx hsz hB2) kpN_t (kpN_b hB2.size) (Below.refl _ _) (fun _ => rfl)
    (fun pre W => (W.cell? ⟨w1.heap.size + 1, 0, none⟩ = some (.map (some w1.heap.size)) ∧ W.ownsMap Tryz.prog 9 (plainElem (H := Unit) Tryz.prog 4) w1.heap.size pre.length (nmD pre)) ∧ Below w.heap.size w W)
    (fun _ _ _ => False)
    (OwnFrom.and (fun s A B row hs hg hr => ⟨cell_kept hs.1 hg (fun r e => (hr r e).2), hs.2.kept hg (fun e => by have := (hr _ e.symm).1; omega)⟩) (ownFrom_below (Nat.le_refl _) hB2.size))
    (fun _ _ _ _ _ hs _ _ => hs)
    ⟨⟨hcM, hmO⟩, hB2⟩
    (fun x' a' W => ∃ Bx, BlkI W Bx 30 #[.int .i64 x'.1.k, .int .i64 x'.1.f, .bool x'.1.neg, .slice x'.1.aq x'.1.an x'.1.ac, .slice x'.1.cq x'.1.cn x'.1.cc, .string x'.1.m, .slice x'.1.sq x'.1.sn x'.1.sc] ∧
      a' = { tmps := #[.agg #[.int .i64 d.k, .int .i64 d.f, .bool d.neg, .slice d.aq d.an d.ac, .slice d.cq d.cn d.cc, .string d.m, .slice d.sq d.sn d.sc], .pointer (some ⟨w.heap.size, 0, none⟩), .slice none 0 0, .int .i64 0, .pointer (some ⟨w1.heap.size + 1, 0, none⟩), .pointer (some ⟨Bx, 0, none⟩), .agg #[.int .i64 d.k, .int .i64 d.f, .bool d.neg, .slice d.aq d.an d.ac, .slice d.cq d.cn d.cc, .string d.m, .slice d.sq d.sn d.sc], .bool true, .bool false, .map (some w1.heap.size), .agg #[.int .i64 d.k, .int .i64 d.f, .bool d.neg, .slice d.aq d.an d.ac, .slice d.cq d.cn d.cc, .string d.m, .slice d.sq d.sn d.sc], .func (.func 111) #[] #[.pointer (some ⟨w1.heap.size + 1 + 1, 0, none⟩)], x'.1.val, undef, undef, undef, undef, undef, undef, undef, undef, undef], defers := [] })
    (fun x' a' _ X Y row h hg hr => by
      obtain ⟨Bx, h3, h4⟩ := h
      refine ⟨Bx, (hg.block Bx h3.lt (fun e => ?_)).trans h3, h4⟩
      obtain ⟨_, o, ho, hc⟩ := hr Bx e.symm
      rw [h3] at ho
      cases ho
      cases hc)
    ?assign ?body ?done ?stop
  case assign =>
    rintro l pre x' W K ⟨⟨hc, hown⟩, hB⟩ hK
    have hsW := hB.size
    have hn1 : BlkI (W.alloc (.cells #[.int .i64 x'.1.k, .int .i64 x'.1.f, .bool x'.1.neg, .slice x'.1.aq x'.1.an x'.1.ac, .slice x'.1.cq x'.1.cn x'.1.cc, .string x'.1.m, .slice x'.1.sq x'.1.sn x'.1.sc] 30)) W.heap.size 30 #[.int .i64 x'.1.k, .int .i64 x'.1.f, .bool x'.1.neg, .slice x'.1.aq x'.1.an x'.1.ac, .slice x'.1.cq x'.1.cn x'.1.cc, .string x'.1.m, .slice x'.1.sq x'.1.sn x'.1.sc] := heap_alloc_new _ _
    simp only [Nd.val]
    gi_wp2
    have hltc := World.block_lt_of_cell? W _ hc
    exact hK _ _ ((KeepsOthers.alloc _ _).from _) ((KpN.refl _ W).alloc hsW _) ⟨⟨((below_alloc W _).cell (p := ⟨w1.heap.size + 1, 0, none⟩) hltc).trans hc, hown.alloc _⟩, hB.alloc hsW _⟩ ⟨W.heap.size, hn1, rfl⟩
  case body =>
    rintro l pre x' a' W hl _ ⟨⟨hc, hown⟩, hB⟩ ⟨Bx, hbx, rfl⟩ hlt
    have hsW := hB.size
    have x0 : W.cell? ⟨Bx, 0, none⟩ = some (.int .i64 x'.1.k) := hbx.cell 0
    have x5 : W.cell? ⟨Bx, 5, none⟩ = some (.string x'.1.m) := hbx.cell 5
    have hpl : pre.length < maxLen := by unfold maxLen; omega
    have hs8 : x'.1.m.size ≤ maxLen := by have := x'.2; unfold maxLen; omega
    simp only [Nd.val]
    by_cases hk : x'.1.k = 2
    · have hk' : Hid (x'.1.k = 2) := hk
      have hkb : (x'.1.k == 2) = true := by simp [hk]
      clear hk
      gi_wp2_with (gi_at_mapUpdate; refine wpListIn_mapUpdate_own _ rfl _ _ _ 132 rfl 9 4 (Maps.string_keyed Tryz.underlying9) Tryz.underlying132 _ w1.heap.size pre.length _ rfl hown hpl _ _ _ rfl rfl (WideMaps.keyOf_string_mk Tryz.underlying9 hs8) _ [] (plainElem_bool Tryz.underlying4 true) ?_; intro w2 hown2 hgrow2)
      obtain ⟨es, ck, hh, _⟩ := hown
      exact ⟨KeepsFrom.of_grownBy hgrow2 (fun j e => by cases e; omega), kpN_grown hgrow2 hs1 hsW (fun o ho => by rw [hh] at ho; cases ho; rfl), ⟨cell_kept hc hgrow2 (fun r e => by cases e; exact ⟨_, hh, rfl⟩), by rw [nmD_snoc, if_pos hk'.out, List.length_append]; exact hown2⟩, hB.grown hgrow2 hB.size (fun k e => by cases e; exact hs1)⟩
    · have hk' : Hid (¬ x'.1.k = 2) := hk
      have hkb : (x'.1.k == 2) = false := by simp [hk]
      clear hk
      gi_wp2
      exact ⟨KeepsFrom.refl _ _, KpN.refl _ _, ⟨hc, by rw [nmD_snoc, if_neg hk'.out, List.length_append]; exact hown.mono (by simp)⟩, hB⟩
  case done =>
    rintro D ys W hD hS ⟨⟨hc, hown⟩, hB⟩ hK
    have hyl : ys.length = x.nds.length := by rw [← hS, List.length_map]
    have hsl := hown.size_le
    have hDl := (Array.getElem?_eq_some_iff.1 hK).1
    gi_wp2_with (first
      | (gi_at_call 81; refine (maps_Keys_81 _ _).mono ?_; rintro e w' ⟨rfl, rfl⟩)
      | (gi_at_call 80; refine (slices_Sorted_keys_80_81 w1.heap.size ys.length (nmD ys) _ W hown (by unfold maxLen; omega) (by omega)).mono ?_; rintro e w' ⟨v, ss, rfl, hSs, hrow, hnil, hb⟩))
    have hbD : Below W.heap.size W w' := (below_alloc W _).trans (hb.mono (by simp))
    have hK' : w'.heap[D]? = some (.deferred (some [])) := (hbD.block D hDl).trans hK
    refine ⟨by simp, .inl ⟨_, _, rfl, run_takeDeferred hK', ?_⟩⟩
    have hrow' := ownsRow_putObj hrow (.deferred none) hK' rfl
    rw [← List.length_mergeSort (le := fun x y => decide (x ≤ y))] at hrow'
    obtain ⟨q, cap, rfl, hst⟩ := strs_of_row hrow'
    have hBf : Below w.heap.size w (w'.putObj D (.deferred none)) := (hB.trans (hbD.mono hB.size)).trans (belowK_b (w := w) (Nat.le_refl _) w' D _ _ (by have := hB2.size; omega) hK' rfl rfl)
    refine ⟨_, results_tmp2 rfl _ _ _, ⟨q, _, cap, _, rfl, hst, ?_, fun s => ?_⟩, hBf⟩
    · rw [List.length_mergeSort, hSs.length_eq]
      have : (strKeys (nmD ys)).length = Maps.size (nmD ys) := by
        obtain ⟨es, he, _⟩ := hown.keysOf
        rw [he]
        simp [strKeys, Maps.size]
      omega
    · have h1 : (∃ i, i < (ss.mergeSort fun x y => decide (x ≤ y)).length ∧ (⟨((ss.mergeSort fun x y => decide (x ≤ y)).getD i []).toArray⟩ : ByteArray) = s) ↔ s.data.toList ∈ (ss.mergeSort fun x y => decide (x ≤ y)) := by
        constructor
        · rintro ⟨i, hi, rfl⟩
          rw [List.getD_eq_getElem?_getD, List.getElem?_eq_getElem hi]
          simp
        · intro h
          obtain ⟨i, hi, e⟩ := List.getElem_of_mem h
          refine ⟨i, hi, ?_⟩
          rw [List.getD_eq_getElem?_getD, List.getElem?_eq_getElem hi]
          simp [e]
      rw [h1, List.mem_mergeSort, hSs.mem_iff, nmD_keys hown, ← hS, List.mem_map]
      constructor
      · rintro ⟨y, hy, h2, h3⟩
        refine ⟨y, hy, ?_⟩
        unfold Nv.key
        rw [h2]
        congr 1
        exact ByteArray.ext (Array.toList_inj.1 h3)
      · rintro ⟨y, hy, h2⟩
        unfold Nv.key at h2
        simp only [Prod.mk.injEq] at h2
        exact ⟨y, hy, h2.1, by rw [h2.2]⟩
  case stop =>
    rintro D c pre W _ _ h _
    exact h.elim
end Go.Proofs.YtaonejnicgbifaaGreatDoor
namespace Go.Proofs.YtaonejnicgbifaaGreatDoor
open Go Go.RowKit

theorem heap_setCell_at {w : World} {g : Nat} {cs : List Value} {t : TypeId} {fr : Nat × Nat} (h : w.heap[g]? = some (.cells cs.toArray t fr)) {j : Nat} {u : Value} :
    (w.setCell ⟨g, j, none⟩ u).heap[g]? = some (.cells (cs.set j u).toArray t fr) := by
  simp [World.setCell, Array.getElem?_modify, h]

set_option maxRecDepth 100000 in
set_option maxHeartbeats 1000000 in
/-- The deferred closure of interval.try, of a frame that returns. -/
theorem tr_idle (p q : Addr) (w : World) :
    CallsD Tryz.prog 85 #[.pointer (some p), .pointer (some q)] .returning w fun e u' w' => e = .returned (.tuple #[]) ∧ u' = .returning ∧ w' = w := by
  refine callsD_of_wpS Tryz.func85 rfl fun c₀ cs hu => ?_
  apply wpS_seq
  apply wpS_region
  simp [wpOpsS, go_sem, recoverD, hu, Tryz.ntmps85, Exit.thenS]
  refine wpS_of_wp ?_
  have hn : ∀ w : World, (binOp BinOp.eql 20 .nilIface .nilIface).run Tryz.prog w = .ok (.bool true) w := fun _ => by kernel_rfl
  go_wp2_with fail
  cases c₀
  simp_all [bodyPostS, results, Tryz.results85]

set_option maxRecDepth 100000 in
set_option maxHeartbeats 1000000 in
/-- The same, of a frame that a failure ends. -/
theorem tr_catch (B E : Nat) (y : Int) (older : List PanicEntry) (w : World) (b0 : Bool) (e0 : Int) (hBE : B ≠ E) (hB : w.heap[B]? = some (.cells #[.bool b0] 4 (0, 0))) (hE : w.heap[E]? = some (.cells #[.int .i64 e0] 35 (0, 0))) :
    CallsD Tryz.prog 85 #[.pointer (some ⟨B, 0, none⟩), .pointer (some ⟨E, 0, none⟩)] (.panicking ({ v := .iface 141 (.agg #[.int .i64 y]), recovered := false } :: older)) w fun e u' w' =>
      e = .returned (.tuple #[]) ∧ u' = .panicking ({ v := .iface 141 (.agg #[.int .i64 y]), recovered := true } :: older) ∧ w'.cell? ⟨B, 0, none⟩ = some (.bool false) ∧ w'.cell? ⟨E, 0, none⟩ = some (.int .i64 y) ∧ ∀ N, N ≤ B → N ≤ E → Below N w w' := by
  refine callsD_of_wpS Tryz.func85 rfl fun c₀ cs hu => ?_
  apply wpS_seq
  apply wpS_region
  simp [wpOpsS, go_sem, recoverD, hu, Tryz.ntmps85, Exit.thenS]
  refine wpS_of_wp ?_
  simp only [Array.replicate_succ, Array.replicate_zero, List.push_toArray, List.append_toArray, List.nil_append, List.cons_append, List.setIfInBounds_toArray, List.set_cons_zero, List.set_cons_succ]
  have hn : ∀ w : World, (binOp BinOp.eql 20 (.iface 141 (.agg #[.int .i64 y])) .nilIface).run Tryz.prog w = .ok (.bool false) w := fun _ => by kernel_rfl
  have hta : ∀ w : World, (Instr.typeAssert (.iface 141 (.agg #[.int .i64 y])) 20 141 true).run Tryz.prog w = .ok (.tuple #[.agg #[.int .i64 y], .bool true]) w := fun _ => by kernel_rfl
  have cB : w.cell? ⟨B, 0, none⟩ = some (.bool b0) := by simp [World.cell?, hB]
  have cE : w.cell? ⟨E, 0, none⟩ = some (.int .i64 e0) := by simp [World.cell?, hE]
  have fB : w.frozen? ⟨B, 0, none⟩ = false := by simp [World.frozen?, hB]
  have fE : w.frozen? ⟨E, 0, none⟩ = false := by simp [World.frozen?, hE]
  have lB : B < w.heap.size := (Array.getElem?_eq_some_iff.1 hB).1
  have lE : E < w.heap.size := (Array.getElem?_eq_some_iff.1 hE).1
  have nB : w.heap.size ≠ B := by omega
  have nE : w.heap.size ≠ E := by omega
  have nB' : B ≠ w.heap.size := by omega
  have nE' : E ≠ w.heap.size := by omega
  have gB : (w.alloc (.cells #[.int .i64 y] 141)).cell? ⟨B, 0, none⟩ = some (.bool b0) := ((World.cell?_of_block (Below.heap_alloc _ _ _ lB))).trans cB
  have gE : (w.alloc (.cells #[.int .i64 y] 141)).cell? ⟨E, 0, none⟩ = some (.int .i64 e0) := ((World.cell?_of_block (Below.heap_alloc _ _ _ lE))).trans cE
  have bB : (w.alloc (.cells #[.int .i64 y] 141)).heap[B]? = some (.cells #[.bool b0] 4 (0, 0)) := (Below.heap_alloc _ _ _ lB).trans hB
  have bE : (w.alloc (.cells #[.int .i64 y] 141)).heap[E]? = some (.cells #[.int .i64 e0] 35 (0, 0)) := (Below.heap_alloc _ _ _ lE).trans hE
  have f2 : (w.alloc (.cells #[.int .i64 y] 141)).frozen? ⟨B, 0, none⟩ = false := by simp [World.frozen?, bB]
  have f3 : (w.alloc (.cells #[.int .i64 y] 141)).frozen? ⟨E, 0, none⟩ = false := by simp [World.frozen?, bE]
  go_wp2_with fail
  go_region
  go_wp2_with fail
  refine ⟨rfl, _, rfl, _, results_none rfl _ _ _, rfl, rfl, ?_, ?_, fun N h1 h2 => ?_⟩
  · have h1 := heap_setCell_at (cs := [.bool b0]) hB (j := 0) (u := .bool false)
    have h2 := (Below.heap_setCell (w.setCell ⟨B, 0, none⟩ (.bool false)) ⟨E, 0, none⟩ (.int .i64 y) B (by exact hBE)).trans h1
    have h3 := (Below.heap_alloc ((w.setCell ⟨B, 0, none⟩ (.bool false)).setCell ⟨E, 0, none⟩ (.int .i64 y)) (.cells #[.int .i64 y] 141) B (by simp; exact lB)).trans h2
    have h4 : ((((w.setCell ⟨B, 0, none⟩ (.bool false)).setCell ⟨E, 0, none⟩ (.int .i64 y)).alloc (.cells #[.int .i64 y] 141)).drew).heap[B]? = _ := h3
    simp [World.cell?, h4]
  · have h1 := (Below.heap_setCell w ⟨B, 0, none⟩ (.bool false) E (by exact fun e => hBE e.symm)).trans hE
    have h2 := heap_setCell_at (cs := [.int .i64 e0]) h1 (j := 0) (u := .int .i64 y)
    have h3 := (Below.heap_alloc ((w.setCell ⟨B, 0, none⟩ (.bool false)).setCell ⟨E, 0, none⟩ (.int .i64 y)) (.cells #[.int .i64 y] 141) E (by simp; exact lE)).trans h2
    have h4 : ((((w.setCell ⟨B, 0, none⟩ (.bool false)).setCell ⟨E, 0, none⟩ (.int .i64 y)).alloc (.cells #[.int .i64 y] 141)).drew).heap[E]? = _ := h3
    simp [World.cell?, h4]
  · exact (((((Below.refl N w).setCell (p := ⟨B, 0, none⟩) h1 _).setCell (p := ⟨E, 0, none⟩) h2 _).alloc (by simp; omega) _)).drew
end Go.Proofs.YtaonejnicgbifaaGreatDoor
