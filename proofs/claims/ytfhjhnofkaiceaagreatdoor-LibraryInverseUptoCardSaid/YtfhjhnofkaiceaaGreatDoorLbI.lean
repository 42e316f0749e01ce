/-
  LibraryInverse.
-/
import Derived.Test.YtfhjhnofkaiceaaGreatDoorLbH
import Derived.Deep.CutRange
import Derived.Deep.RegionHeld3
import Derived.OpenShut
namespace Go.Proofs.YtfhjhnofkaiceaaGreatDoor
open Go Go.RowKit

set_option maxRecDepth 100000 in
/-- The key of an entry. -/
theorem key18_ok (e : En) (he : e.Ok) (w : World) : Calls Tryz.prog 18 #[.agg e.cells.toArray] w fun x w' => x = .returned (.agg #[.string e.k.1, .int .i64 e.k.2]) ∧ Below w.heap.size w w' := by
  have h0 := e.c0
  have h1 := e.c1
  have hl := he.len'
  obtain ⟨⟨n, v⟩, r⟩ := e
  simp only at h0 h1 ⊢
  generalize En.cells _ = cs at *
  have hr := range_new w cs 55
  have c0 : ∀ ob, ((w.alloc (.cells cs.toArray 55)).alloc ob).cell? ⟨w.heap.size, 0, none⟩ = some (.string n) := fun ob => by
    have := World.rangeAt_alloc hr ob 0 _ h0
    simpa using this
  have c1 : ∀ ob, ((w.alloc (.cells cs.toArray 55)).alloc ob).cell? ⟨w.heap.size, 1, none⟩ = some (.int .i64 v) := fun ob => by
    have := World.rangeAt_alloc hr ob 1 _ h1
    simpa using this
  have hb : ∀ ob, Below w.heap.size w ((w.alloc (.cells cs.toArray 55)).alloc ob) := fun ob => below_two w _ _
  clear hr
  go_enter Tryz.func18, Tryz.ntmps18
  go_wp2_with fail
  exact bodyPost_ret (v := .agg #[.string n, .int .i64 v]) (by simp [results, Tryz.results18, go_sem]) rfl ⟨rfl, hb _⟩


theorem insK_mem {k : Ky} {L : List Ky} (h : Asc L) (hk : k ∈ L) : insK k L = L :=
  asc_unique _ _ (asc_insK k L h) h fun x => by
    rw [mem_insK]
    exact ⟨fun hx => hx.elim (fun e => e ▸ hk) id, .inr⟩
theorem insK_len1 (k : Ky) (L : List Ky) : (insK k L).length ≤ L.length + 1 := by
  have := foldK_len [k] L
  simpa [foldK] using this
/-- No key is there twice, where inserting them one by one gives as many. -/
theorem foldK_nodup : ∀ (ks L : List Ky), Asc L → (foldK L ks).length = L.length + ks.length → ks.Nodup ∧ ∀ x ∈ ks, x ∉ L
  | [], _, _, _ => ⟨List.Pairwise.nil, by simp⟩
  | k :: ks, L, hL, h => by
    have h1 : (foldK (insK k L) ks).length = L.length + (ks.length + 1) := h
    have h2 := foldK_len ks (insK k L)
    have h3 := insK_len1 k L
    have hk : k ∉ L := fun hk => by
      rw [insK_mem hL hk] at h1
      have h4 := foldK_len ks L
      omega
    obtain ⟨h5, h6⟩ := foldK_nodup ks (insK k L) (asc_insK k L hL) (by omega)
    refine ⟨List.nodup_cons.2 ⟨fun hm => h6 k hm ((mem_insK _ _ _).2 (.inl rfl)), h5⟩, fun x hx => ?_⟩
    rcases List.mem_cons.1 hx with rfl | hx
    · exact hk
    · exact fun hm => h6 x hx ((mem_insK _ _ _).2 (.inr hm))
theorem nodup_at {ks : List Ky} (h : ks.Nodup) {i j : Nat} {a : Ky} (hi : ks[i]? = some a) (hj : ks[j]? = some a) : i = j := by
  obtain ⟨h1, e1⟩ := List.getElem?_eq_some_iff.1 hi
  obtain ⟨h2, e2⟩ := List.getElem?_eq_some_iff.1 hj
  exact (List.getElem_inj h).1 (e1.trans e2.symm)
/-- Uses and Users are inverse, where no key is there twice. -/
theorem inverse_eq {U : Lb} (h : (U.map (·.1)).Nodup) {i j : Nat} {x y : Ky × List Ky} (hi : U[i]? = some x) (hj : U[j]? = some y) :
    U.res x.1 = (U.at i, 0) ∧ U.us y.1 = foldK [] (U.users y.1) ∧ U.res y.1 = (U.at j, 0) ∧ decide (y.1 ∈ U.at i) = decide (x.1 ∈ foldK [] (U.users y.1)) := by
  have ix : ∀ {i : Nat} {x : Ky × List Ky}, U[i]? = some x → ixK (U.map (·.1)) x.1 = some i := fun {i x} hi => by
    have h1 : (U.map (·.1))[i]? = some x.1 := by rw [List.getElem?_map, hi]; rfl
    exact ixK_some h1 fun j a hj ha e => by
      subst e
      have := nodup_at h h1 ha
      omega
  refine ⟨Lb.res_some (ix hi), Lb.us_some (ix hj), Lb.res_some (ix hj), ?_⟩
  rw [decide_eq_decide, mem_foldK]
  have hat : U.at i = x.2 := by unfold Lb.at; rw [hi]; rfl
  rw [hat]
  unfold Lb.users
  constructor
  · intro hy
    refine .inl (List.mem_map.2 ⟨x, List.mem_filter.2 ⟨List.mem_of_getElem? hi, by simpa using hy⟩, rfl⟩)
  · rintro (hm | hm)
    · obtain ⟨z, hz, e⟩ := List.mem_map.1 hm
      obtain ⟨hz1, hz2⟩ := List.mem_filter.1 hz
      obtain ⟨k, hk⟩ := List.getElem?_of_mem hz1
      have h1 := ix hk
      have h2 := ix hi
      rw [e, h2] at h1
      cases h1
      rw [hi] at hk
      cases hk
      simpa using hz2
    · cases hm
end Go.Proofs.YtfhjhnofkaiceaaGreatDoor

namespace Go.Proofs.YtfhjhnofkaiceaaGreatDoor
open Go Go.RowKit

/-- A new key's block. -/
def Nk (z : World) (p : Nat) : Prop := z.heap[p]? = some (.cells #[.string ⟨#[]⟩, .int .i64 0] 24)
theorem Nk.lt {z : World} {p : Nat} (h : Nk z p) : p < z.heap.size := (Array.getElem?_eq_some_iff.1 h).1
theorem Nk.below {z z' : World} {p : Nat} (h : Nk z p) (hb : Below z.heap.size z z') : Nk z' p := (hb.block p h.lt).trans h
theorem Nk.there {z : World} {p : Nat} (h : Nk z p) : z.there p 0 2 := by
  unfold Nk at h
  intro j hj
  match j, hj with
  | 0, _ => simp [World.cell?, World.frozen?, h]
  | 1, _ => simp [World.cell?, World.frozen?, h]
theorem kc_one (a : Ky) : (#[Value.string a.1, Value.int .i64 a.2] : Array Value).all (·.oneCell') = true := by simp [Value.oneCell']
theorem two_stores {w1 z : World} {p7 p8 : Nat} (a k : Ky) (G : Below w1.heap.size w1 z) (h7 : w1.heap.size ≤ p7) (h8 : w1.heap.size ≤ p8) (N7 : Nk z p7) (N8 : Nk z p8) (hne : p7 ≠ p8) :
    (z.setCells p7 0 (kcells a)).there p8 0 2 ∧ Below w1.heap.size w1 (z.setCells p7 0 (kcells a)) ∧ Below w1.heap.size w1 ((z.setCells p7 0 (kcells a)).setCells p8 0 (kcells k)) ∧
    p7 < ((z.setCells p7 0 (kcells a)).setCells p8 0 (kcells k)).heap.size ∧ p8 < ((z.setCells p7 0 (kcells a)).setCells p8 0 (kcells k)).heap.size ∧
    ((z.setCells p7 0 (kcells a)).setCells p8 0 (kcells k)).rangeAt p7 0 (kcells a) ∧ ((z.setCells p7 0 (kcells a)).setCells p8 0 (kcells k)).rangeAt p8 0 (kcells k) := by
  obtain ⟨g1, s1, _⟩ := setCells_facts w1.heap.size p7 h7 (kcells a) 0 w1 z G
  obtain ⟨g2, s2, _⟩ := setCells_facts w1.heap.size p8 h8 (kcells k) 0 w1 _ g1
  have l7 := N7.lt
  have l8 := N8.lt
  have t8 := World.there_setCells N8.there p7 0 (kcells a)
  refine ⟨t8, g1, g2, by rw [s2, s1]; exact l7, by rw [s2, s1]; exact l8, ?_, World.rangeAt_setCells_same _ _ _ _ t8⟩
  exact World.rangeAt_setCells_apart (World.rangeAt_setCells_same _ _ _ _ N7.there) p8 0 (kcells k) (.inl hne)

set_option maxRecDepth 100000 in
set_option maxHeartbeats 16000000 in
/-- LibraryInverse, the main case, out of its callees. -/
theorem law_inv_some {w : World} {b o n c : Nat} {x y : Int} {_K KU KV : List Ky} {i j : Nat} {a k : Ky} {cx cy : List Value} (hx0 : 0 ≤ x) (hx1 : x ≤ 255) (hy0 : 0 ≤ y) (hy1 : y ≤ 255)
    (hn0 : 0 < n) (hn1 : n ≤ 60) (hi : Int.tmod x n = (i : Int)) (hj : Int.tmod y n = (j : Int)) (hin : i < n) (hjn : j < n) (hb : b < w.heap.size) (hU : KU.length ≤ 2097152) (hV : KV.length ≤ 2097152) (hKU : decide (k ∈ KU) = decide (a ∈ KV))
    (h12 : ∀ z, Below w.heap.size w z → Calls Tryz.prog 12 #[.slice (some ⟨b, o, none⟩) n c] z fun x w' => ∃ q c, x = .returned (.slice q n c) ∧ Below z.heap.size z w')
    (hei : w.rangeAt b (o + i * 33) cx) (hej : w.rangeAt b (o + j * 33) cy) (lx : cx.length = 33) (ly : cy.length = 33)
    (hkx : ∀ z, Calls Tryz.prog 18 #[.agg cx.toArray] z fun x w' => x = .returned (.agg #[.string a.1, .int .i64 a.2]) ∧ Below z.heap.size z w')
    (hky : ∀ z, Calls Tryz.prog 18 #[.agg cy.toArray] z fun x w' => x = .returned (.agg #[.string k.1, .int .i64 k.2]) ∧ Below z.heap.size z w')
    (h19 : ∀ z, Below w.heap.size w z → Calls Tryz.prog 19 #[.slice (some ⟨b, o, none⟩) n c, .agg #[.string a.1, .int .i64 a.2]] z fun x w' => ∃ q' c', x = .returned (.tuple #[.slice q' KU.length c', .int .i64 0]) ∧ KsOk w' q' KU.length c' KU ∧ Below z.heap.size z w')
    (h20 : ∀ z, Below w.heap.size w z → Calls Tryz.prog 20 #[.slice (some ⟨b, o, none⟩) n c, .agg #[.string k.1, .int .i64 k.2]] z fun x w' => ∃ q' c', x = .returned (.tuple #[.slice q' KV.length c', .int .i64 0]) ∧ KsOk w' q' KV.length c' KV ∧ Below z.heap.size z w')
    (hA : ∀ z, Below w.heap.size w z → Calls Tryz.prog 14 #[] z fun e w' => e = .returned (.bool true) ∧ Below z.heap.size z w') :
    Calls Tryz.prog 5 #[.slice (some ⟨b, o, none⟩) n c, .int .u8 x, .int .u8 y] w fun e w' => e = .returned (.bool true) ∧ Below w.heap.size w w' := by
  have n0 : ¬ (n : Int) = 0 := by omega
  have n1 : ¬ (60 : Int) < (n : Int) := by omega
  have wx : IntKind.i64.wrap x = x := by simp [IntKind.wrap, IntKind.signed, IntKind.bits]; omega
  have wy : IntKind.i64.wrap y = y := by simp [IntKind.wrap, IntKind.signed, IntKind.bits]; omega
  have nb : ((n : Int) == 0) = false := by simp; omega
  have i0 : (0 : Int) ≤ (i : Int) := by omega
  have i1 : (i : Int) < (n : Int) := by omega
  have j0 : (0 : Int) ≤ (j : Int) := by omega
  have j1 : (j : Int) < (n : Int) := by omega
  obtain ⟨dd, hu, hd⟩ := en_row
  have hHu : Hid (Tryz.prog.underlying 55 = some dd) := hu
  obtain ⟨dk, hku, hkd⟩ := ky_row
  have hHk : Hid (Tryz.prog.underlying 24 = some dk) := hku
  clear hu hku
  go_enter Tryz.func5, Tryz.ntmps5
  go_upto_region 3 with (go_at_call 12; refine (h12 _ (Below.refl _ _)).mono ?_; rintro e w1 ⟨q1, c1, rfl, hb1⟩)
  have hW1 : Below w.heap.size w w1 := hb1
  have E1 : Hid (w1.rangeAt b (o + i * 33) cx) := rangeAt_below hei hW1 hb
  have F1 : Hid (w1.rangeAt b (o + j * 33) cy) := rangeAt_below hej hW1 hb
  have hb1' : b < w1.heap.size := Nat.lt_of_lt_of_le hb hW1.size
  clear h12 hei hej hb1
  go_cut [7, 8] from 30 to 47 (fun v7 v8 wx => ∃ p7 p8, v7 = .pointer (some ⟨p7, 0, none⟩) ∧ v8 = .pointer (some ⟨p8, 0, none⟩) ∧ w.heap.size ≤ p7 ∧ w.heap.size ≤ p8 ∧ p7 < wx.heap.size ∧ p8 < wx.heap.size ∧ Hid (wx.rangeAt p7 0 (kcells a)) ∧ Hid (wx.rangeAt p8 0 (kcells k)) ∧ Below w.heap.size w wx)
  case first =>
    try simp only [Act.put]
    have Gd : Below w1.heap.size w1 w1.drew := (Below.refl _ _).drew
    refine wp_region_held_drew (S := fun z => z.rangeAt b (o + i * 33) cx ∧ z.rangeAt b (o + j * 33) cy) (by kernel_rfl) (by exact ⟨E1.out, F1.out⟩) (fun hHeld => ?_)
    obtain ⟨z0, hz0⟩ : ∃ v, v = w1.drew := ⟨_, rfl⟩
    rw [← hz0] at hHeld Gd ⊢
    have Gz0 := Gd
    clear hz0 Gd
    refine wpAnyH_take (i := 0) (oi := ?op0) (v := .slice (some ⟨b, o, none⟩) n c) ?ta0 ?tb0 ?tc0 ?td0 ?tq0 ?ty0 hHeld ?_
    case ta0 => rfl
    case tb0 => kernel_rfl
    case tc0 => kernel_rfl
    case td0 => kernel_rfl
    case tq0 => exact fun _ _ _ h => h
    case ty0 => exact Or.inl ⟨by rfl, by intro z hSz; go_simp⟩
    simp only [Act.put, List.getElem_toArray, List.getElem_cons_zero, List.setIfInBounds_toArray, List.set_cons_zero, List.set_cons_succ]
    refine wpAnyH_take (i := 1) (oi := ?op1) (v := .int .u8 x) ?ta1 ?tb1 ?tc1 ?td1 ?tq1 ?ty1 hHeld ?_
    case ta1 => rfl
    case tb1 => kernel_rfl
    case tc1 => kernel_rfl
    case td1 => kernel_rfl
    case tq1 => exact fun _ _ _ h => h
    case ty1 => exact Or.inl ⟨by rfl, by intro z hSz; go_simp⟩
    simp only [Act.put, List.getElem_toArray, List.getElem_cons_succ, List.getElem_cons_zero, List.setIfInBounds_toArray, List.set_cons_zero, List.set_cons_succ]
    refine wpAnyH_take (i := 2) (oi := ?op2) (v := .int .i64 x) ?ta2 ?tb2 ?tc2 ?td2 ?tq2 ?ty2 hHeld ?_
    case ta2 => rfl
    case tb2 => kernel_rfl
    case tc2 => kernel_rfl
    case td2 => kernel_rfl
    case tq2 => exact fun _ _ _ h => h
    case ty2 => exact Or.inl ⟨by rfl, by intro z hSz; go_simp⟩
    simp only [Act.put, List.getElem_toArray, List.getElem_cons_succ, List.getElem_cons_zero, List.setIfInBounds_toArray, List.set_cons_zero, List.set_cons_succ]
    refine wpAnyH_take (i := 3) (oi := ?op3) (v := .slice (some ⟨b, o, none⟩) n c) ?ta3 ?tb3 ?tc3 ?td3 ?tq3 ?ty3 hHeld ?_
    case ta3 => rfl
    case tb3 => kernel_rfl
    case tc3 => kernel_rfl
    case td3 => kernel_rfl
    case tq3 => exact fun _ _ _ h => h
    case ty3 => exact Or.inl ⟨by rfl, by intro z hSz; go_simp⟩
    simp only [Act.put, List.getElem_toArray, List.getElem_cons_succ, List.getElem_cons_zero, List.setIfInBounds_toArray, List.set_cons_zero, List.set_cons_succ]
    refine wpAnyH_take (i := 4) (oi := ?op4) (v := .int .i64 n) ?ta4 ?tb4 ?tc4 ?td4 ?tq4 ?ty4 hHeld ?_
    case ta4 => rfl
    case tb4 => kernel_rfl
    case tc4 => kernel_rfl
    case td4 => kernel_rfl
    case tq4 => exact fun _ _ _ h => h
    case ty4 => exact Or.inl ⟨by rfl, by intro z hSz; go_simp⟩
    simp only [Act.put, List.getElem_toArray, List.getElem_cons_succ, List.getElem_cons_zero, List.setIfInBounds_toArray, List.set_cons_zero, List.set_cons_succ]
    refine wpAnyH_take (i := 5) (oi := ?op5) (v := .int .i64 i) ?ta5 ?tb5 ?tc5 ?td5 ?tq5 ?ty5 hHeld ?_
    case ta5 => rfl
    case tb5 => kernel_rfl
    case tc5 => kernel_rfl
    case td5 => kernel_rfl
    case tq5 => exact fun _ _ _ h => h
    case ty5 => exact Or.inl ⟨by rfl, by intro z hSz; go_simp; omega⟩
    simp only [Act.put, List.getElem_toArray, List.getElem_cons_succ, List.getElem_cons_zero, List.setIfInBounds_toArray, List.set_cons_zero, List.set_cons_succ]
    refine wpAnyH_take (i := 6) (oi := ?op6) (v := .pointer (some ⟨b, o + i * 33, none⟩)) ?ta6 ?tb6 ?tc6 ?td6 ?tq6 ?ty6 hHeld ?_
    case ta6 => rfl
    case tb6 => kernel_rfl
    case tc6 => kernel_rfl
    case td6 => kernel_rfl
    case tq6 => exact fun _ _ _ h => h
    case ty6 => exact Or.inl ⟨by rfl, by intro z hSz; go_simp⟩
    simp only [Act.put, List.getElem_toArray, List.getElem_cons_succ, List.getElem_cons_zero, List.setIfInBounds_toArray, List.set_cons_zero, List.set_cons_succ]
    refine wpAnyH_take (i := 7) (oi := ?op7) (v := .agg cx.toArray) ?ta7 ?tb7 ?tc7 ?td7 ?tq7 ?ty7 hHeld ?_
    case ta7 => rfl
    case tb7 => kernel_rfl
    case tc7 => kernel_rfl
    case td7 => kernel_rfl
    case tq7 => exact fun _ _ _ h => h
    case ty7 =>
      refine yieldsIf_load_mid ?tw7 55 (.tmp 36) ?to7 b (o + i * 33) ?tx7 cx dd (fun z hz => hz.1) hHu.out hd (by rw [lx]; exact en_size)
      case tw7 => kernel_rfl
      case to7 => rfl
      case tx7 => kernel_rfl
    simp only [Act.put, List.getElem_toArray, List.getElem_cons_succ, List.getElem_cons_zero, List.setIfInBounds_toArray, List.set_cons_zero, List.set_cons_succ]
    refine wpAnyH_take (i := 9) (oi := ?op9) (v := .slice (some ⟨b, o, none⟩) n c) ?ta9 ?tb9 ?tc9 ?td9 ?tq9 ?ty9 hHeld ?_
    case ta9 => rfl
    case tb9 => kernel_rfl
    case tc9 => kernel_rfl
    case td9 => kernel_rfl
    case tq9 => exact fun _ _ _ h => h
    case ty9 => exact Or.inl ⟨by rfl, by intro z hSz; go_simp⟩
    simp only [Act.put, List.getElem_toArray, List.getElem_cons_succ, List.getElem_cons_zero, List.setIfInBounds_toArray, List.set_cons_zero, List.set_cons_succ]
    refine wpAnyH_take (i := 10) (oi := ?op10) (v := .int .u8 y) ?ta10 ?tb10 ?tc10 ?td10 ?tq10 ?ty10 hHeld ?_
    case ta10 => rfl
    case tb10 => kernel_rfl
    case tc10 => kernel_rfl
    case td10 => kernel_rfl
    case tq10 => exact fun _ _ _ h => h
    case ty10 => exact Or.inl ⟨by rfl, by intro z hSz; go_simp⟩
    simp only [Act.put, List.getElem_toArray, List.getElem_cons_succ, List.getElem_cons_zero, List.setIfInBounds_toArray, List.set_cons_zero, List.set_cons_succ]
    refine wpAnyH_take (i := 11) (oi := ?op11) (v := .int .i64 y) ?ta11 ?tb11 ?tc11 ?td11 ?tq11 ?ty11 hHeld ?_
    case ta11 => rfl
    case tb11 => kernel_rfl
    case tc11 => kernel_rfl
    case td11 => kernel_rfl
    case tq11 => exact fun _ _ _ h => h
    case ty11 => exact Or.inl ⟨by rfl, by intro z hSz; go_simp⟩
    simp only [Act.put, List.getElem_toArray, List.getElem_cons_succ, List.getElem_cons_zero, List.setIfInBounds_toArray, List.set_cons_zero, List.set_cons_succ]
    refine wpAnyH_take (i := 12) (oi := ?op12) (v := .slice (some ⟨b, o, none⟩) n c) ?ta12 ?tb12 ?tc12 ?td12 ?tq12 ?ty12 hHeld ?_
    case ta12 => rfl
    case tb12 => kernel_rfl
    case tc12 => kernel_rfl
    case td12 => kernel_rfl
    case tq12 => exact fun _ _ _ h => h
    case ty12 => exact Or.inl ⟨by rfl, by intro z hSz; go_simp⟩
    simp only [Act.put, List.getElem_toArray, List.getElem_cons_succ, List.getElem_cons_zero, List.setIfInBounds_toArray, List.set_cons_zero, List.set_cons_succ]
    refine wpAnyH_take (i := 13) (oi := ?op13) (v := .int .i64 n) ?ta13 ?tb13 ?tc13 ?td13 ?tq13 ?ty13 hHeld ?_
    case ta13 => rfl
    case tb13 => kernel_rfl
    case tc13 => kernel_rfl
    case td13 => kernel_rfl
    case tq13 => exact fun _ _ _ h => h
    case ty13 => exact Or.inl ⟨by rfl, by intro z hSz; go_simp⟩
    simp only [Act.put, List.getElem_toArray, List.getElem_cons_succ, List.getElem_cons_zero, List.setIfInBounds_toArray, List.set_cons_zero, List.set_cons_succ]
    refine wpAnyH_take (i := 14) (oi := ?op14) (v := .int .i64 j) ?ta14 ?tb14 ?tc14 ?td14 ?tq14 ?ty14 hHeld ?_
    case ta14 => rfl
    case tb14 => kernel_rfl
    case tc14 => kernel_rfl
    case td14 => kernel_rfl
    case tq14 => exact fun _ _ _ h => h
    case ty14 => exact Or.inl ⟨by rfl, by intro z hSz; go_simp; omega⟩
    simp only [Act.put, List.getElem_toArray, List.getElem_cons_succ, List.getElem_cons_zero, List.setIfInBounds_toArray, List.set_cons_zero, List.set_cons_succ]
    refine wpAnyH_take (i := 15) (oi := ?op15) (v := .pointer (some ⟨b, o + j * 33, none⟩)) ?ta15 ?tb15 ?tc15 ?td15 ?tq15 ?ty15 hHeld ?_
    case ta15 => rfl
    case tb15 => kernel_rfl
    case tc15 => kernel_rfl
    case td15 => kernel_rfl
    case tq15 => exact fun _ _ _ h => h
    case ty15 => exact Or.inl ⟨by rfl, by intro z hSz; go_simp⟩
    simp only [Act.put, List.getElem_toArray, List.getElem_cons_succ, List.getElem_cons_zero, List.setIfInBounds_toArray, List.set_cons_zero, List.set_cons_succ]
    refine wpAnyH_take (i := 16) (oi := ?op16) (v := .agg cy.toArray) ?ta16 ?tb16 ?tc16 ?td16 ?tq16 ?ty16 hHeld ?_
    case ta16 => rfl
    case tb16 => kernel_rfl
    case tc16 => kernel_rfl
    case td16 => kernel_rfl
    case tq16 => exact fun _ _ _ h => h
    case ty16 =>
      refine yieldsIf_load_mid ?tw16 55 (.tmp 45) ?to16 b (o + j * 33) ?tx16 cy dd (fun z hz => hz.2) hHu.out hd (by rw [ly]; exact en_size)
      case tw16 => kernel_rfl
      case to16 => rfl
      case tx16 => kernel_rfl
    simp only [Act.put, List.getElem_toArray, List.getElem_cons_succ, List.getElem_cons_zero, List.setIfInBounds_toArray, List.set_cons_zero, List.set_cons_succ]
    refine wpAnyH_ready (rs := [8, 18, 19]) (by kernel_rfl) (by simp) ?_
    refine AllReadyH.cons rfl (fun K' hKK => ?_) (AllReadyH.cons rfl (fun K' hKK => ?_) (AllReadyH.cons rfl (fun K' hKK => ?_) AllReadyH.nil))
    · go_simp
      refine (hkx _).mono ?_
      rintro e z1 ⟨rfl, hbz1⟩
      have Gz1 : Below w1.heap.size w1 z1 := Gz0.trans (hbz1.mono Gz0.size)
      refine hKK.out _ _ ⟨rangeAt_below E1.out Gz1 hb1', rangeAt_below F1.out Gz1 hb1'⟩ (fun _ => ?_)
      clear hKK K'
      refine wpAnyH_ready (rs := [17, 18, 19]) (by kernel_rfl) (by simp) ?_
      refine AllReadyH.cons rfl (fun K' hKK => ?_) (AllReadyH.cons rfl (fun K' hKK => ?_) (AllReadyH.cons rfl (fun K' hKK => ?_) AllReadyH.nil))
      · go_simp
        refine (hky _).mono ?_
        rintro e z2 ⟨rfl, hbz2⟩
        have Gz2 : Below w1.heap.size w1 z2 := Gz1.trans (hbz2.mono Gz1.size)
        refine hKK.out _ _ ⟨rangeAt_below E1.out Gz2 hb1', rangeAt_below F1.out Gz2 hb1'⟩ (fun _ => ?_)
        clear hKK K'
        refine wpAnyH_ready (rs := [18, 19]) (by kernel_rfl) (by simp) ?_
        refine AllReadyH.cons rfl (fun K' hKK => ?_) (AllReadyH.cons rfl (fun K' hKK => ?_) AllReadyH.nil)
        · go_simp
          obtain ⟨z3, hz3⟩ : ∃ v, v = z2.alloc (.cells #[.string ⟨#[]⟩, .int .i64 0] 24) := ⟨_, rfl⟩
          rw [← hz3]
          have Gz3 : Below w1.heap.size w1 z3 := by rw [hz3]; exact Gz2.alloc Gz2.size _
          have N7z3 : Nk z3 z2.heap.size := by rw [hz3]; exact heap_alloc_last _ _
          have h7p : w1.heap.size ≤ z2.heap.size := Gz2.size
          clear hz3
          refine hKK.out _ _ ⟨rangeAt_below E1.out Gz3 hb1', rangeAt_below F1.out Gz3 hb1'⟩ (fun _ => ?_)
          clear hKK K'
          refine wpAnyH_ready (rs := [19]) (by kernel_rfl) (by simp) ?_
          refine AllReadyH.cons rfl (fun K' hKK => ?_) AllReadyH.nil
          · go_simp
            obtain ⟨z4, hz4⟩ : ∃ v, v = z3.alloc (.cells #[.string ⟨#[]⟩, .int .i64 0] 24) := ⟨_, rfl⟩
            rw [← hz4]
            have Gz4 : Below w1.heap.size w1 z4 := by rw [hz4]; exact Gz3.alloc Gz3.size _
            have N8z4 : Nk z4 z3.heap.size := by rw [hz4]; exact heap_alloc_last _ _
            have N7z4 : Nk z4 z2.heap.size := by rw [hz4]; exact N7z3.below (below_one z3 _)
            have hne : z2.heap.size < z3.heap.size := N7z3.lt
            have h8p : w1.heap.size ≤ z3.heap.size := Gz3.size
            clear hz4
            refine hKK.out _ _ ⟨rangeAt_below E1.out Gz4 hb1', rangeAt_below F1.out Gz4 hb1'⟩ (fun _ => ?_)
            clear hKK K'
            obtain ⟨T8, G1, G2, s7, s8, R7, R8⟩ := two_stores a k Gz4 h7p h8p N7z4 N8z4 (by omega)
            refine wpAnyH_ready (rs := [20]) (by kernel_rfl) (by simp) ?_
            refine AllReadyH.cons rfl (fun K' hKK => ?_) AllReadyH.nil
            rw [if_pos (by rfl)]
            refine wp_store_mid 24 (.tmp 7) (.tmp 38) rfl (z2.heap.size) 0 #[.string a.1, .int .i64 a.2] rfl rfl N7z4.there (by kernel_rfl) (kc_one _) ?_
            refine hKK.out _ _ ⟨rangeAt_below E1.out G1 hb1', rangeAt_below F1.out G1 hb1'⟩ (fun _ => ?_)
            clear hKK K'
            refine wpAnyH_ready (rs := [21]) (by kernel_rfl) (by simp) ?_
            refine AllReadyH.cons rfl (fun K' hKK => ?_) AllReadyH.nil
            rw [if_pos (by rfl)]
            refine wp_store_mid 24 (.tmp 8) (.tmp 47) rfl (z3.heap.size) 0 #[.string k.1, .int .i64 k.2] rfl rfl T8 (by kernel_rfl) (kc_one _) ?_
            refine hKK.out _ _ ⟨rangeAt_below E1.out G2 hb1', rangeAt_below F1.out G2 hb1'⟩ (fun _ => ?_)
            clear hKK K'
            refine wpAnyH_done (by kernel_rfl) ?_ _
            try simp only [Act.put, List.getElem_toArray, List.getElem_cons_succ, List.getElem_cons_zero]
            go_wp2_with fail
            go_meet
            case rel => exact ⟨z2.heap.size, z3.heap.size, rfl, rfl, Nat.le_trans hW1.size h7p, Nat.le_trans hW1.size h8p, s7, s8, R7, R8, hW1.trans (G2.mono hW1.size)⟩
        · go_simp
          obtain ⟨z5, hz5⟩ : ∃ v, v = z2.alloc (.cells #[.string ⟨#[]⟩, .int .i64 0] 24) := ⟨_, rfl⟩
          rw [← hz5]
          have Gz5 : Below w1.heap.size w1 z5 := by rw [hz5]; exact Gz2.alloc Gz2.size _
          have N8z5 : Nk z5 z2.heap.size := by rw [hz5]; exact heap_alloc_last _ _
          have h8p : w1.heap.size ≤ z2.heap.size := Gz2.size
          clear hz5
          refine hKK.out _ _ ⟨rangeAt_below E1.out Gz5 hb1', rangeAt_below F1.out Gz5 hb1'⟩ (fun _ => ?_)
          clear hKK K'
          refine wpAnyH_ready (rs := [18]) (by kernel_rfl) (by simp) ?_
          refine AllReadyH.cons rfl (fun K' hKK => ?_) AllReadyH.nil
          · go_simp
            obtain ⟨z6, hz6⟩ : ∃ v, v = z5.alloc (.cells #[.string ⟨#[]⟩, .int .i64 0] 24) := ⟨_, rfl⟩
            rw [← hz6]
            have Gz6 : Below w1.heap.size w1 z6 := by rw [hz6]; exact Gz5.alloc Gz5.size _
            have N7z6 : Nk z6 z5.heap.size := by rw [hz6]; exact heap_alloc_last _ _
            have N8z6 : Nk z6 z2.heap.size := by rw [hz6]; exact N8z5.below (below_one z5 _)
            have hne : z2.heap.size < z5.heap.size := N8z5.lt
            have h7p : w1.heap.size ≤ z5.heap.size := Gz5.size
            clear hz6
            refine hKK.out _ _ ⟨rangeAt_below E1.out Gz6 hb1', rangeAt_below F1.out Gz6 hb1'⟩ (fun _ => ?_)
            clear hKK K'
            obtain ⟨T8, G1, G2, s7, s8, R7, R8⟩ := two_stores a k Gz6 h7p h8p N7z6 N8z6 (by omega)
            refine wpAnyH_ready (rs := [20]) (by kernel_rfl) (by simp) ?_
            refine AllReadyH.cons rfl (fun K' hKK => ?_) AllReadyH.nil
            rw [if_pos (by rfl)]
            refine wp_store_mid 24 (.tmp 7) (.tmp 38) rfl (z5.heap.size) 0 #[.string a.1, .int .i64 a.2] rfl rfl N7z6.there (by kernel_rfl) (kc_one _) ?_
            refine hKK.out _ _ ⟨rangeAt_below E1.out G1 hb1', rangeAt_below F1.out G1 hb1'⟩ (fun _ => ?_)
            clear hKK K'
            refine wpAnyH_ready (rs := [21]) (by kernel_rfl) (by simp) ?_
            refine AllReadyH.cons rfl (fun K' hKK => ?_) AllReadyH.nil
            rw [if_pos (by rfl)]
            refine wp_store_mid 24 (.tmp 8) (.tmp 47) rfl (z2.heap.size) 0 #[.string k.1, .int .i64 k.2] rfl rfl T8 (by kernel_rfl) (kc_one _) ?_
            refine hKK.out _ _ ⟨rangeAt_below E1.out G2 hb1', rangeAt_below F1.out G2 hb1'⟩ (fun _ => ?_)
            clear hKK K'
            refine wpAnyH_done (by kernel_rfl) ?_ _
            try simp only [Act.put, List.getElem_toArray, List.getElem_cons_succ, List.getElem_cons_zero]
            go_wp2_with fail
            go_meet
            case rel => exact ⟨z5.heap.size, z2.heap.size, rfl, rfl, Nat.le_trans hW1.size h7p, Nat.le_trans hW1.size h8p, s7, s8, R7, R8, hW1.trans (G2.mono hW1.size)⟩
      · go_simp
        obtain ⟨z7, hz7⟩ : ∃ v, v = z1.alloc (.cells #[.string ⟨#[]⟩, .int .i64 0] 24) := ⟨_, rfl⟩
        rw [← hz7]
        have Gz7 : Below w1.heap.size w1 z7 := by rw [hz7]; exact Gz1.alloc Gz1.size _
        have N7z7 : Nk z7 z1.heap.size := by rw [hz7]; exact heap_alloc_last _ _
        have h7p : w1.heap.size ≤ z1.heap.size := Gz1.size
        clear hz7
        refine hKK.out _ _ ⟨rangeAt_below E1.out Gz7 hb1', rangeAt_below F1.out Gz7 hb1'⟩ (fun _ => ?_)
        clear hKK K'
        refine wpAnyH_ready (rs := [17, 19]) (by kernel_rfl) (by simp) ?_
        refine AllReadyH.cons rfl (fun K' hKK => ?_) (AllReadyH.cons rfl (fun K' hKK => ?_) AllReadyH.nil)
        · go_simp
          refine (hky _).mono ?_
          rintro e z8 ⟨rfl, hbz8⟩
          have Gz8 : Below w1.heap.size w1 z8 := Gz7.trans (hbz8.mono Gz7.size)
          have N7z8 := N7z7.below hbz8
          refine hKK.out _ _ ⟨rangeAt_below E1.out Gz8 hb1', rangeAt_below F1.out Gz8 hb1'⟩ (fun _ => ?_)
          clear hKK K'
          refine wpAnyH_ready (rs := [19]) (by kernel_rfl) (by simp) ?_
          refine AllReadyH.cons rfl (fun K' hKK => ?_) AllReadyH.nil
          · go_simp
            obtain ⟨z9, hz9⟩ : ∃ v, v = z8.alloc (.cells #[.string ⟨#[]⟩, .int .i64 0] 24) := ⟨_, rfl⟩
            rw [← hz9]
            have Gz9 : Below w1.heap.size w1 z9 := by rw [hz9]; exact Gz8.alloc Gz8.size _
            have N8z9 : Nk z9 z8.heap.size := by rw [hz9]; exact heap_alloc_last _ _
            have N7z9 : Nk z9 z1.heap.size := by rw [hz9]; exact N7z8.below (below_one z8 _)
            have hne : z1.heap.size < z8.heap.size := N7z8.lt
            have h8p : w1.heap.size ≤ z8.heap.size := Gz8.size
            clear hz9
            refine hKK.out _ _ ⟨rangeAt_below E1.out Gz9 hb1', rangeAt_below F1.out Gz9 hb1'⟩ (fun _ => ?_)
            clear hKK K'
            obtain ⟨T8, G1, G2, s7, s8, R7, R8⟩ := two_stores a k Gz9 h7p h8p N7z9 N8z9 (by omega)
            refine wpAnyH_ready (rs := [20]) (by kernel_rfl) (by simp) ?_
            refine AllReadyH.cons rfl (fun K' hKK => ?_) AllReadyH.nil
            rw [if_pos (by rfl)]
            refine wp_store_mid 24 (.tmp 7) (.tmp 38) rfl (z1.heap.size) 0 #[.string a.1, .int .i64 a.2] rfl rfl N7z9.there (by kernel_rfl) (kc_one _) ?_
            refine hKK.out _ _ ⟨rangeAt_below E1.out G1 hb1', rangeAt_below F1.out G1 hb1'⟩ (fun _ => ?_)
            clear hKK K'
            refine wpAnyH_ready (rs := [21]) (by kernel_rfl) (by simp) ?_
            refine AllReadyH.cons rfl (fun K' hKK => ?_) AllReadyH.nil
            rw [if_pos (by rfl)]
            refine wp_store_mid 24 (.tmp 8) (.tmp 47) rfl (z8.heap.size) 0 #[.string k.1, .int .i64 k.2] rfl rfl T8 (by kernel_rfl) (kc_one _) ?_
            refine hKK.out _ _ ⟨rangeAt_below E1.out G2 hb1', rangeAt_below F1.out G2 hb1'⟩ (fun _ => ?_)
            clear hKK K'
            refine wpAnyH_done (by kernel_rfl) ?_ _
            try simp only [Act.put, List.getElem_toArray, List.getElem_cons_succ, List.getElem_cons_zero]
            go_wp2_with fail
            go_meet
            case rel => exact ⟨z1.heap.size, z8.heap.size, rfl, rfl, Nat.le_trans hW1.size h7p, Nat.le_trans hW1.size h8p, s7, s8, R7, R8, hW1.trans (G2.mono hW1.size)⟩
        · go_simp
          obtain ⟨z10, hz10⟩ : ∃ v, v = z7.alloc (.cells #[.string ⟨#[]⟩, .int .i64 0] 24) := ⟨_, rfl⟩
          rw [← hz10]
          have Gz10 : Below w1.heap.size w1 z10 := by rw [hz10]; exact Gz7.alloc Gz7.size _
          have N8z10 : Nk z10 z7.heap.size := by rw [hz10]; exact heap_alloc_last _ _
          have N7z10 : Nk z10 z1.heap.size := by rw [hz10]; exact N7z7.below (below_one z7 _)
          have hne : z1.heap.size < z7.heap.size := N7z7.lt
          have h8p : w1.heap.size ≤ z7.heap.size := Gz7.size
          clear hz10
          refine hKK.out _ _ ⟨rangeAt_below E1.out Gz10 hb1', rangeAt_below F1.out Gz10 hb1'⟩ (fun _ => ?_)
          clear hKK K'
          refine wpAnyH_ready (rs := [17]) (by kernel_rfl) (by simp) ?_
          refine AllReadyH.cons rfl (fun K' hKK => ?_) AllReadyH.nil
          · go_simp
            refine (hky _).mono ?_
            rintro e z11 ⟨rfl, hbz11⟩
            have Gz11 : Below w1.heap.size w1 z11 := Gz10.trans (hbz11.mono Gz10.size)
            have N7z11 := N7z10.below hbz11
            have N8z11 := N8z10.below hbz11
            refine hKK.out _ _ ⟨rangeAt_below E1.out Gz11 hb1', rangeAt_below F1.out Gz11 hb1'⟩ (fun _ => ?_)
            clear hKK K'
            obtain ⟨T8, G1, G2, s7, s8, R7, R8⟩ := two_stores a k Gz11 h7p h8p N7z11 N8z11 (by omega)
            refine wpAnyH_ready (rs := [20]) (by kernel_rfl) (by simp) ?_
            refine AllReadyH.cons rfl (fun K' hKK => ?_) AllReadyH.nil
            rw [if_pos (by rfl)]
            refine wp_store_mid 24 (.tmp 7) (.tmp 38) rfl (z1.heap.size) 0 #[.string a.1, .int .i64 a.2] rfl rfl N7z11.there (by kernel_rfl) (kc_one _) ?_
            refine hKK.out _ _ ⟨rangeAt_below E1.out G1 hb1', rangeAt_below F1.out G1 hb1'⟩ (fun _ => ?_)
            clear hKK K'
            refine wpAnyH_ready (rs := [21]) (by kernel_rfl) (by simp) ?_
            refine AllReadyH.cons rfl (fun K' hKK => ?_) AllReadyH.nil
            rw [if_pos (by rfl)]
            refine wp_store_mid 24 (.tmp 8) (.tmp 47) rfl (z7.heap.size) 0 #[.string k.1, .int .i64 k.2] rfl rfl T8 (by kernel_rfl) (kc_one _) ?_
            refine hKK.out _ _ ⟨rangeAt_below E1.out G2 hb1', rangeAt_below F1.out G2 hb1'⟩ (fun _ => ?_)
            clear hKK K'
            refine wpAnyH_done (by kernel_rfl) ?_ _
            try simp only [Act.put, List.getElem_toArray, List.getElem_cons_succ, List.getElem_cons_zero]
            go_wp2_with fail
            go_meet
            case rel => exact ⟨z1.heap.size, z7.heap.size, rfl, rfl, Nat.le_trans hW1.size h7p, Nat.le_trans hW1.size h8p, s7, s8, R7, R8, hW1.trans (G2.mono hW1.size)⟩
      · go_simp
        obtain ⟨z12, hz12⟩ : ∃ v, v = z1.alloc (.cells #[.string ⟨#[]⟩, .int .i64 0] 24) := ⟨_, rfl⟩
        rw [← hz12]
        have Gz12 : Below w1.heap.size w1 z12 := by rw [hz12]; exact Gz1.alloc Gz1.size _
        have N8z12 : Nk z12 z1.heap.size := by rw [hz12]; exact heap_alloc_last _ _
        have h8p : w1.heap.size ≤ z1.heap.size := Gz1.size
        clear hz12
        refine hKK.out _ _ ⟨rangeAt_below E1.out Gz12 hb1', rangeAt_below F1.out Gz12 hb1'⟩ (fun _ => ?_)
        clear hKK K'
        refine wpAnyH_ready (rs := [17, 18]) (by kernel_rfl) (by simp) ?_
        refine AllReadyH.cons rfl (fun K' hKK => ?_) (AllReadyH.cons rfl (fun K' hKK => ?_) AllReadyH.nil)
        · go_simp
          refine (hky _).mono ?_
          rintro e z13 ⟨rfl, hbz13⟩
          have Gz13 : Below w1.heap.size w1 z13 := Gz12.trans (hbz13.mono Gz12.size)
          have N8z13 := N8z12.below hbz13
          refine hKK.out _ _ ⟨rangeAt_below E1.out Gz13 hb1', rangeAt_below F1.out Gz13 hb1'⟩ (fun _ => ?_)
          clear hKK K'
          refine wpAnyH_ready (rs := [18]) (by kernel_rfl) (by simp) ?_
          refine AllReadyH.cons rfl (fun K' hKK => ?_) AllReadyH.nil
          · go_simp
            obtain ⟨z14, hz14⟩ : ∃ v, v = z13.alloc (.cells #[.string ⟨#[]⟩, .int .i64 0] 24) := ⟨_, rfl⟩
            rw [← hz14]
            have Gz14 : Below w1.heap.size w1 z14 := by rw [hz14]; exact Gz13.alloc Gz13.size _
            have N7z14 : Nk z14 z13.heap.size := by rw [hz14]; exact heap_alloc_last _ _
            have N8z14 : Nk z14 z1.heap.size := by rw [hz14]; exact N8z13.below (below_one z13 _)
            have hne : z1.heap.size < z13.heap.size := N8z13.lt
            have h7p : w1.heap.size ≤ z13.heap.size := Gz13.size
            clear hz14
            refine hKK.out _ _ ⟨rangeAt_below E1.out Gz14 hb1', rangeAt_below F1.out Gz14 hb1'⟩ (fun _ => ?_)
            clear hKK K'
            obtain ⟨T8, G1, G2, s7, s8, R7, R8⟩ := two_stores a k Gz14 h7p h8p N7z14 N8z14 (by omega)
            refine wpAnyH_ready (rs := [20]) (by kernel_rfl) (by simp) ?_
            refine AllReadyH.cons rfl (fun K' hKK => ?_) AllReadyH.nil
            rw [if_pos (by rfl)]
            refine wp_store_mid 24 (.tmp 7) (.tmp 38) rfl (z13.heap.size) 0 #[.string a.1, .int .i64 a.2] rfl rfl N7z14.there (by kernel_rfl) (kc_one _) ?_
            refine hKK.out _ _ ⟨rangeAt_below E1.out G1 hb1', rangeAt_below F1.out G1 hb1'⟩ (fun _ => ?_)
            clear hKK K'
            refine wpAnyH_ready (rs := [21]) (by kernel_rfl) (by simp) ?_
            refine AllReadyH.cons rfl (fun K' hKK => ?_) AllReadyH.nil
            rw [if_pos (by rfl)]
            refine wp_store_mid 24 (.tmp 8) (.tmp 47) rfl (z1.heap.size) 0 #[.string k.1, .int .i64 k.2] rfl rfl T8 (by kernel_rfl) (kc_one _) ?_
            refine hKK.out _ _ ⟨rangeAt_below E1.out G2 hb1', rangeAt_below F1.out G2 hb1'⟩ (fun _ => ?_)
            clear hKK K'
            refine wpAnyH_done (by kernel_rfl) ?_ _
            try simp only [Act.put, List.getElem_toArray, List.getElem_cons_succ, List.getElem_cons_zero]
            go_wp2_with fail
            go_meet
            case rel => exact ⟨z13.heap.size, z1.heap.size, rfl, rfl, Nat.le_trans hW1.size h7p, Nat.le_trans hW1.size h8p, s7, s8, R7, R8, hW1.trans (G2.mono hW1.size)⟩
        · go_simp
          obtain ⟨z15, hz15⟩ : ∃ v, v = z12.alloc (.cells #[.string ⟨#[]⟩, .int .i64 0] 24) := ⟨_, rfl⟩
          rw [← hz15]
          have Gz15 : Below w1.heap.size w1 z15 := by rw [hz15]; exact Gz12.alloc Gz12.size _
          have N7z15 : Nk z15 z12.heap.size := by rw [hz15]; exact heap_alloc_last _ _
          have N8z15 : Nk z15 z1.heap.size := by rw [hz15]; exact N8z12.below (below_one z12 _)
          have hne : z1.heap.size < z12.heap.size := N8z12.lt
          have h7p : w1.heap.size ≤ z12.heap.size := Gz12.size
          clear hz15
          refine hKK.out _ _ ⟨rangeAt_below E1.out Gz15 hb1', rangeAt_below F1.out Gz15 hb1'⟩ (fun _ => ?_)
          clear hKK K'
          refine wpAnyH_ready (rs := [17]) (by kernel_rfl) (by simp) ?_
          refine AllReadyH.cons rfl (fun K' hKK => ?_) AllReadyH.nil
          · go_simp
            refine (hky _).mono ?_
            rintro e z16 ⟨rfl, hbz16⟩
            have Gz16 : Below w1.heap.size w1 z16 := Gz15.trans (hbz16.mono Gz15.size)
            have N7z16 := N7z15.below hbz16
            have N8z16 := N8z15.below hbz16
            refine hKK.out _ _ ⟨rangeAt_below E1.out Gz16 hb1', rangeAt_below F1.out Gz16 hb1'⟩ (fun _ => ?_)
            clear hKK K'
            obtain ⟨T8, G1, G2, s7, s8, R7, R8⟩ := two_stores a k Gz16 h7p h8p N7z16 N8z16 (by omega)
            refine wpAnyH_ready (rs := [20]) (by kernel_rfl) (by simp) ?_
            refine AllReadyH.cons rfl (fun K' hKK => ?_) AllReadyH.nil
            rw [if_pos (by rfl)]
            refine wp_store_mid 24 (.tmp 7) (.tmp 38) rfl (z12.heap.size) 0 #[.string a.1, .int .i64 a.2] rfl rfl N7z16.there (by kernel_rfl) (kc_one _) ?_
            refine hKK.out _ _ ⟨rangeAt_below E1.out G1 hb1', rangeAt_below F1.out G1 hb1'⟩ (fun _ => ?_)
            clear hKK K'
            refine wpAnyH_ready (rs := [21]) (by kernel_rfl) (by simp) ?_
            refine AllReadyH.cons rfl (fun K' hKK => ?_) AllReadyH.nil
            rw [if_pos (by rfl)]
            refine wp_store_mid 24 (.tmp 8) (.tmp 47) rfl (z1.heap.size) 0 #[.string k.1, .int .i64 k.2] rfl rfl T8 (by kernel_rfl) (kc_one _) ?_
            refine hKK.out _ _ ⟨rangeAt_below E1.out G2 hb1', rangeAt_below F1.out G2 hb1'⟩ (fun _ => ?_)
            clear hKK K'
            refine wpAnyH_done (by kernel_rfl) ?_ _
            try simp only [Act.put, List.getElem_toArray, List.getElem_cons_succ, List.getElem_cons_zero]
            go_wp2_with fail
            go_meet
            case rel => exact ⟨z12.heap.size, z1.heap.size, rfl, rfl, Nat.le_trans hW1.size h7p, Nat.le_trans hW1.size h8p, s7, s8, R7, R8, hW1.trans (G2.mono hW1.size)⟩
    · go_simp
      obtain ⟨z17, hz17⟩ : ∃ v, v = z0.alloc (.cells #[.string ⟨#[]⟩, .int .i64 0] 24) := ⟨_, rfl⟩
      rw [← hz17]
      have Gz17 : Below w1.heap.size w1 z17 := by rw [hz17]; exact Gz0.alloc Gz0.size _
      have N7z17 : Nk z17 z0.heap.size := by rw [hz17]; exact heap_alloc_last _ _
      have h7p : w1.heap.size ≤ z0.heap.size := Gz0.size
      clear hz17
      refine hKK.out _ _ ⟨rangeAt_below E1.out Gz17 hb1', rangeAt_below F1.out Gz17 hb1'⟩ (fun _ => ?_)
      clear hKK K'
      refine wpAnyH_ready (rs := [8, 19]) (by kernel_rfl) (by simp) ?_
      refine AllReadyH.cons rfl (fun K' hKK => ?_) (AllReadyH.cons rfl (fun K' hKK => ?_) AllReadyH.nil)
      · go_simp
        refine (hkx _).mono ?_
        rintro e z18 ⟨rfl, hbz18⟩
        have Gz18 : Below w1.heap.size w1 z18 := Gz17.trans (hbz18.mono Gz17.size)
        have N7z18 := N7z17.below hbz18
        refine hKK.out _ _ ⟨rangeAt_below E1.out Gz18 hb1', rangeAt_below F1.out Gz18 hb1'⟩ (fun _ => ?_)
        clear hKK K'
        refine wpAnyH_ready (rs := [17, 19]) (by kernel_rfl) (by simp) ?_
        refine AllReadyH.cons rfl (fun K' hKK => ?_) (AllReadyH.cons rfl (fun K' hKK => ?_) AllReadyH.nil)
        · go_simp
          refine (hky _).mono ?_
          rintro e z19 ⟨rfl, hbz19⟩
          have Gz19 : Below w1.heap.size w1 z19 := Gz18.trans (hbz19.mono Gz18.size)
          have N7z19 := N7z18.below hbz19
          refine hKK.out _ _ ⟨rangeAt_below E1.out Gz19 hb1', rangeAt_below F1.out Gz19 hb1'⟩ (fun _ => ?_)
          clear hKK K'
          refine wpAnyH_ready (rs := [19]) (by kernel_rfl) (by simp) ?_
          refine AllReadyH.cons rfl (fun K' hKK => ?_) AllReadyH.nil
          · go_simp
            obtain ⟨z20, hz20⟩ : ∃ v, v = z19.alloc (.cells #[.string ⟨#[]⟩, .int .i64 0] 24) := ⟨_, rfl⟩
            rw [← hz20]
            have Gz20 : Below w1.heap.size w1 z20 := by rw [hz20]; exact Gz19.alloc Gz19.size _
            have N8z20 : Nk z20 z19.heap.size := by rw [hz20]; exact heap_alloc_last _ _
            have N7z20 : Nk z20 z0.heap.size := by rw [hz20]; exact N7z19.below (below_one z19 _)
            have hne : z0.heap.size < z19.heap.size := N7z19.lt
            have h8p : w1.heap.size ≤ z19.heap.size := Gz19.size
            clear hz20
            refine hKK.out _ _ ⟨rangeAt_below E1.out Gz20 hb1', rangeAt_below F1.out Gz20 hb1'⟩ (fun _ => ?_)
            clear hKK K'
            obtain ⟨T8, G1, G2, s7, s8, R7, R8⟩ := two_stores a k Gz20 h7p h8p N7z20 N8z20 (by omega)
            refine wpAnyH_ready (rs := [20]) (by kernel_rfl) (by simp) ?_
            refine AllReadyH.cons rfl (fun K' hKK => ?_) AllReadyH.nil
            rw [if_pos (by rfl)]
            refine wp_store_mid 24 (.tmp 7) (.tmp 38) rfl (z0.heap.size) 0 #[.string a.1, .int .i64 a.2] rfl rfl N7z20.there (by kernel_rfl) (kc_one _) ?_
            refine hKK.out _ _ ⟨rangeAt_below E1.out G1 hb1', rangeAt_below F1.out G1 hb1'⟩ (fun _ => ?_)
            clear hKK K'
            refine wpAnyH_ready (rs := [21]) (by kernel_rfl) (by simp) ?_
            refine AllReadyH.cons rfl (fun K' hKK => ?_) AllReadyH.nil
            rw [if_pos (by rfl)]
            refine wp_store_mid 24 (.tmp 8) (.tmp 47) rfl (z19.heap.size) 0 #[.string k.1, .int .i64 k.2] rfl rfl T8 (by kernel_rfl) (kc_one _) ?_
            refine hKK.out _ _ ⟨rangeAt_below E1.out G2 hb1', rangeAt_below F1.out G2 hb1'⟩ (fun _ => ?_)
            clear hKK K'
            refine wpAnyH_done (by kernel_rfl) ?_ _
            try simp only [Act.put, List.getElem_toArray, List.getElem_cons_succ, List.getElem_cons_zero]
            go_wp2_with fail
            go_meet
            case rel => exact ⟨z0.heap.size, z19.heap.size, rfl, rfl, Nat.le_trans hW1.size h7p, Nat.le_trans hW1.size h8p, s7, s8, R7, R8, hW1.trans (G2.mono hW1.size)⟩
        · go_simp
          obtain ⟨z21, hz21⟩ : ∃ v, v = z18.alloc (.cells #[.string ⟨#[]⟩, .int .i64 0] 24) := ⟨_, rfl⟩
          rw [← hz21]
          have Gz21 : Below w1.heap.size w1 z21 := by rw [hz21]; exact Gz18.alloc Gz18.size _
          have N8z21 : Nk z21 z18.heap.size := by rw [hz21]; exact heap_alloc_last _ _
          have N7z21 : Nk z21 z0.heap.size := by rw [hz21]; exact N7z18.below (below_one z18 _)
          have hne : z0.heap.size < z18.heap.size := N7z18.lt
          have h8p : w1.heap.size ≤ z18.heap.size := Gz18.size
          clear hz21
          refine hKK.out _ _ ⟨rangeAt_below E1.out Gz21 hb1', rangeAt_below F1.out Gz21 hb1'⟩ (fun _ => ?_)
          clear hKK K'
          refine wpAnyH_ready (rs := [17]) (by kernel_rfl) (by simp) ?_
          refine AllReadyH.cons rfl (fun K' hKK => ?_) AllReadyH.nil
          · go_simp
            refine (hky _).mono ?_
            rintro e z22 ⟨rfl, hbz22⟩
            have Gz22 : Below w1.heap.size w1 z22 := Gz21.trans (hbz22.mono Gz21.size)
            have N7z22 := N7z21.below hbz22
            have N8z22 := N8z21.below hbz22
            refine hKK.out _ _ ⟨rangeAt_below E1.out Gz22 hb1', rangeAt_below F1.out Gz22 hb1'⟩ (fun _ => ?_)
            clear hKK K'
            obtain ⟨T8, G1, G2, s7, s8, R7, R8⟩ := two_stores a k Gz22 h7p h8p N7z22 N8z22 (by omega)
            refine wpAnyH_ready (rs := [20]) (by kernel_rfl) (by simp) ?_
            refine AllReadyH.cons rfl (fun K' hKK => ?_) AllReadyH.nil
            rw [if_pos (by rfl)]
            refine wp_store_mid 24 (.tmp 7) (.tmp 38) rfl (z0.heap.size) 0 #[.string a.1, .int .i64 a.2] rfl rfl N7z22.there (by kernel_rfl) (kc_one _) ?_
            refine hKK.out _ _ ⟨rangeAt_below E1.out G1 hb1', rangeAt_below F1.out G1 hb1'⟩ (fun _ => ?_)
            clear hKK K'
            refine wpAnyH_ready (rs := [21]) (by kernel_rfl) (by simp) ?_
            refine AllReadyH.cons rfl (fun K' hKK => ?_) AllReadyH.nil
            rw [if_pos (by rfl)]
            refine wp_store_mid 24 (.tmp 8) (.tmp 47) rfl (z18.heap.size) 0 #[.string k.1, .int .i64 k.2] rfl rfl T8 (by kernel_rfl) (kc_one _) ?_
            refine hKK.out _ _ ⟨rangeAt_below E1.out G2 hb1', rangeAt_below F1.out G2 hb1'⟩ (fun _ => ?_)
            clear hKK K'
            refine wpAnyH_done (by kernel_rfl) ?_ _
            try simp only [Act.put, List.getElem_toArray, List.getElem_cons_succ, List.getElem_cons_zero]
            go_wp2_with fail
            go_meet
            case rel => exact ⟨z0.heap.size, z18.heap.size, rfl, rfl, Nat.le_trans hW1.size h7p, Nat.le_trans hW1.size h8p, s7, s8, R7, R8, hW1.trans (G2.mono hW1.size)⟩
      · go_simp
        obtain ⟨z23, hz23⟩ : ∃ v, v = z17.alloc (.cells #[.string ⟨#[]⟩, .int .i64 0] 24) := ⟨_, rfl⟩
        rw [← hz23]
        have Gz23 : Below w1.heap.size w1 z23 := by rw [hz23]; exact Gz17.alloc Gz17.size _
        have N8z23 : Nk z23 z17.heap.size := by rw [hz23]; exact heap_alloc_last _ _
        have N7z23 : Nk z23 z0.heap.size := by rw [hz23]; exact N7z17.below (below_one z17 _)
        have hne : z0.heap.size < z17.heap.size := N7z17.lt
        have h8p : w1.heap.size ≤ z17.heap.size := Gz17.size
        clear hz23
        refine hKK.out _ _ ⟨rangeAt_below E1.out Gz23 hb1', rangeAt_below F1.out Gz23 hb1'⟩ (fun _ => ?_)
        clear hKK K'
        refine wpAnyH_ready (rs := [8]) (by kernel_rfl) (by simp) ?_
        refine AllReadyH.cons rfl (fun K' hKK => ?_) AllReadyH.nil
        · go_simp
          refine (hkx _).mono ?_
          rintro e z24 ⟨rfl, hbz24⟩
          have Gz24 : Below w1.heap.size w1 z24 := Gz23.trans (hbz24.mono Gz23.size)
          have N7z24 := N7z23.below hbz24
          have N8z24 := N8z23.below hbz24
          refine hKK.out _ _ ⟨rangeAt_below E1.out Gz24 hb1', rangeAt_below F1.out Gz24 hb1'⟩ (fun _ => ?_)
          clear hKK K'
          refine wpAnyH_ready (rs := [17]) (by kernel_rfl) (by simp) ?_
          refine AllReadyH.cons rfl (fun K' hKK => ?_) AllReadyH.nil
          · go_simp
            refine (hky _).mono ?_
            rintro e z25 ⟨rfl, hbz25⟩
            have Gz25 : Below w1.heap.size w1 z25 := Gz24.trans (hbz25.mono Gz24.size)
            have N7z25 := N7z24.below hbz25
            have N8z25 := N8z24.below hbz25
            refine hKK.out _ _ ⟨rangeAt_below E1.out Gz25 hb1', rangeAt_below F1.out Gz25 hb1'⟩ (fun _ => ?_)
            clear hKK K'
            obtain ⟨T8, G1, G2, s7, s8, R7, R8⟩ := two_stores a k Gz25 h7p h8p N7z25 N8z25 (by omega)
            refine wpAnyH_ready (rs := [20]) (by kernel_rfl) (by simp) ?_
            refine AllReadyH.cons rfl (fun K' hKK => ?_) AllReadyH.nil
            rw [if_pos (by rfl)]
            refine wp_store_mid 24 (.tmp 7) (.tmp 38) rfl (z0.heap.size) 0 #[.string a.1, .int .i64 a.2] rfl rfl N7z25.there (by kernel_rfl) (kc_one _) ?_
            refine hKK.out _ _ ⟨rangeAt_below E1.out G1 hb1', rangeAt_below F1.out G1 hb1'⟩ (fun _ => ?_)
            clear hKK K'
            refine wpAnyH_ready (rs := [21]) (by kernel_rfl) (by simp) ?_
            refine AllReadyH.cons rfl (fun K' hKK => ?_) AllReadyH.nil
            rw [if_pos (by rfl)]
            refine wp_store_mid 24 (.tmp 8) (.tmp 47) rfl (z17.heap.size) 0 #[.string k.1, .int .i64 k.2] rfl rfl T8 (by kernel_rfl) (kc_one _) ?_
            refine hKK.out _ _ ⟨rangeAt_below E1.out G2 hb1', rangeAt_below F1.out G2 hb1'⟩ (fun _ => ?_)
            clear hKK K'
            refine wpAnyH_done (by kernel_rfl) ?_ _
            try simp only [Act.put, List.getElem_toArray, List.getElem_cons_succ, List.getElem_cons_zero]
            go_wp2_with fail
            go_meet
            case rel => exact ⟨z0.heap.size, z17.heap.size, rfl, rfl, Nat.le_trans hW1.size h7p, Nat.le_trans hW1.size h8p, s7, s8, R7, R8, hW1.trans (G2.mono hW1.size)⟩
    · go_simp
      obtain ⟨z26, hz26⟩ : ∃ v, v = z0.alloc (.cells #[.string ⟨#[]⟩, .int .i64 0] 24) := ⟨_, rfl⟩
      rw [← hz26]
      have Gz26 : Below w1.heap.size w1 z26 := by rw [hz26]; exact Gz0.alloc Gz0.size _
      have N8z26 : Nk z26 z0.heap.size := by rw [hz26]; exact heap_alloc_last _ _
      have h8p : w1.heap.size ≤ z0.heap.size := Gz0.size
      clear hz26
      refine hKK.out _ _ ⟨rangeAt_below E1.out Gz26 hb1', rangeAt_below F1.out Gz26 hb1'⟩ (fun _ => ?_)
      clear hKK K'
      refine wpAnyH_ready (rs := [8, 18]) (by kernel_rfl) (by simp) ?_
      refine AllReadyH.cons rfl (fun K' hKK => ?_) (AllReadyH.cons rfl (fun K' hKK => ?_) AllReadyH.nil)
      · go_simp
        refine (hkx _).mono ?_
        rintro e z27 ⟨rfl, hbz27⟩
        have Gz27 : Below w1.heap.size w1 z27 := Gz26.trans (hbz27.mono Gz26.size)
        have N8z27 := N8z26.below hbz27
        refine hKK.out _ _ ⟨rangeAt_below E1.out Gz27 hb1', rangeAt_below F1.out Gz27 hb1'⟩ (fun _ => ?_)
        clear hKK K'
        refine wpAnyH_ready (rs := [17, 18]) (by kernel_rfl) (by simp) ?_
        refine AllReadyH.cons rfl (fun K' hKK => ?_) (AllReadyH.cons rfl (fun K' hKK => ?_) AllReadyH.nil)
        · go_simp
          refine (hky _).mono ?_
          rintro e z28 ⟨rfl, hbz28⟩
          have Gz28 : Below w1.heap.size w1 z28 := Gz27.trans (hbz28.mono Gz27.size)
          have N8z28 := N8z27.below hbz28
          refine hKK.out _ _ ⟨rangeAt_below E1.out Gz28 hb1', rangeAt_below F1.out Gz28 hb1'⟩ (fun _ => ?_)
          clear hKK K'
          refine wpAnyH_ready (rs := [18]) (by kernel_rfl) (by simp) ?_
          refine AllReadyH.cons rfl (fun K' hKK => ?_) AllReadyH.nil
          · go_simp
            obtain ⟨z29, hz29⟩ : ∃ v, v = z28.alloc (.cells #[.string ⟨#[]⟩, .int .i64 0] 24) := ⟨_, rfl⟩
            rw [← hz29]
            have Gz29 : Below w1.heap.size w1 z29 := by rw [hz29]; exact Gz28.alloc Gz28.size _
            have N7z29 : Nk z29 z28.heap.size := by rw [hz29]; exact heap_alloc_last _ _
            have N8z29 : Nk z29 z0.heap.size := by rw [hz29]; exact N8z28.below (below_one z28 _)
            have hne : z0.heap.size < z28.heap.size := N8z28.lt
            have h7p : w1.heap.size ≤ z28.heap.size := Gz28.size
            clear hz29
            refine hKK.out _ _ ⟨rangeAt_below E1.out Gz29 hb1', rangeAt_below F1.out Gz29 hb1'⟩ (fun _ => ?_)
            clear hKK K'
            obtain ⟨T8, G1, G2, s7, s8, R7, R8⟩ := two_stores a k Gz29 h7p h8p N7z29 N8z29 (by omega)
            refine wpAnyH_ready (rs := [20]) (by kernel_rfl) (by simp) ?_
            refine AllReadyH.cons rfl (fun K' hKK => ?_) AllReadyH.nil
            rw [if_pos (by rfl)]
            refine wp_store_mid 24 (.tmp 7) (.tmp 38) rfl (z28.heap.size) 0 #[.string a.1, .int .i64 a.2] rfl rfl N7z29.there (by kernel_rfl) (kc_one _) ?_
            refine hKK.out _ _ ⟨rangeAt_below E1.out G1 hb1', rangeAt_below F1.out G1 hb1'⟩ (fun _ => ?_)
            clear hKK K'
            refine wpAnyH_ready (rs := [21]) (by kernel_rfl) (by simp) ?_
            refine AllReadyH.cons rfl (fun K' hKK => ?_) AllReadyH.nil
            rw [if_pos (by rfl)]
            refine wp_store_mid 24 (.tmp 8) (.tmp 47) rfl (z0.heap.size) 0 #[.string k.1, .int .i64 k.2] rfl rfl T8 (by kernel_rfl) (kc_one _) ?_
            refine hKK.out _ _ ⟨rangeAt_below E1.out G2 hb1', rangeAt_below F1.out G2 hb1'⟩ (fun _ => ?_)
            clear hKK K'
            refine wpAnyH_done (by kernel_rfl) ?_ _
            try simp only [Act.put, List.getElem_toArray, List.getElem_cons_succ, List.getElem_cons_zero]
            go_wp2_with fail
            go_meet
            case rel => exact ⟨z28.heap.size, z0.heap.size, rfl, rfl, Nat.le_trans hW1.size h7p, Nat.le_trans hW1.size h8p, s7, s8, R7, R8, hW1.trans (G2.mono hW1.size)⟩
        · go_simp
          obtain ⟨z30, hz30⟩ : ∃ v, v = z27.alloc (.cells #[.string ⟨#[]⟩, .int .i64 0] 24) := ⟨_, rfl⟩
          rw [← hz30]
          have Gz30 : Below w1.heap.size w1 z30 := by rw [hz30]; exact Gz27.alloc Gz27.size _
          have N7z30 : Nk z30 z27.heap.size := by rw [hz30]; exact heap_alloc_last _ _
          have N8z30 : Nk z30 z0.heap.size := by rw [hz30]; exact N8z27.below (below_one z27 _)
          have hne : z0.heap.size < z27.heap.size := N8z27.lt
          have h7p : w1.heap.size ≤ z27.heap.size := Gz27.size
          clear hz30
          refine hKK.out _ _ ⟨rangeAt_below E1.out Gz30 hb1', rangeAt_below F1.out Gz30 hb1'⟩ (fun _ => ?_)
          clear hKK K'
          refine wpAnyH_ready (rs := [17]) (by kernel_rfl) (by simp) ?_
          refine AllReadyH.cons rfl (fun K' hKK => ?_) AllReadyH.nil
          · go_simp
            refine (hky _).mono ?_
            rintro e z31 ⟨rfl, hbz31⟩
            have Gz31 : Below w1.heap.size w1 z31 := Gz30.trans (hbz31.mono Gz30.size)
            have N7z31 := N7z30.below hbz31
            have N8z31 := N8z30.below hbz31
            refine hKK.out _ _ ⟨rangeAt_below E1.out Gz31 hb1', rangeAt_below F1.out Gz31 hb1'⟩ (fun _ => ?_)
            clear hKK K'
            obtain ⟨T8, G1, G2, s7, s8, R7, R8⟩ := two_stores a k Gz31 h7p h8p N7z31 N8z31 (by omega)
            refine wpAnyH_ready (rs := [20]) (by kernel_rfl) (by simp) ?_
            refine AllReadyH.cons rfl (fun K' hKK => ?_) AllReadyH.nil
            rw [if_pos (by rfl)]
            refine wp_store_mid 24 (.tmp 7) (.tmp 38) rfl (z27.heap.size) 0 #[.string a.1, .int .i64 a.2] rfl rfl N7z31.there (by kernel_rfl) (kc_one _) ?_
            refine hKK.out _ _ ⟨rangeAt_below E1.out G1 hb1', rangeAt_below F1.out G1 hb1'⟩ (fun _ => ?_)
            clear hKK K'
            refine wpAnyH_ready (rs := [21]) (by kernel_rfl) (by simp) ?_
            refine AllReadyH.cons rfl (fun K' hKK => ?_) AllReadyH.nil
            rw [if_pos (by rfl)]
            refine wp_store_mid 24 (.tmp 8) (.tmp 47) rfl (z0.heap.size) 0 #[.string k.1, .int .i64 k.2] rfl rfl T8 (by kernel_rfl) (kc_one _) ?_
            refine hKK.out _ _ ⟨rangeAt_below E1.out G2 hb1', rangeAt_below F1.out G2 hb1'⟩ (fun _ => ?_)
            clear hKK K'
            refine wpAnyH_done (by kernel_rfl) ?_ _
            try simp only [Act.put, List.getElem_toArray, List.getElem_cons_succ, List.getElem_cons_zero]
            go_wp2_with fail
            go_meet
            case rel => exact ⟨z27.heap.size, z0.heap.size, rfl, rfl, Nat.le_trans hW1.size h7p, Nat.le_trans hW1.size h8p, s7, s8, R7, R8, hW1.trans (G2.mono hW1.size)⟩
      · go_simp
        obtain ⟨z32, hz32⟩ : ∃ v, v = z26.alloc (.cells #[.string ⟨#[]⟩, .int .i64 0] 24) := ⟨_, rfl⟩
        rw [← hz32]
        have Gz32 : Below w1.heap.size w1 z32 := by rw [hz32]; exact Gz26.alloc Gz26.size _
        have N7z32 : Nk z32 z26.heap.size := by rw [hz32]; exact heap_alloc_last _ _
        have N8z32 : Nk z32 z0.heap.size := by rw [hz32]; exact N8z26.below (below_one z26 _)
        have hne : z0.heap.size < z26.heap.size := N8z26.lt
        have h7p : w1.heap.size ≤ z26.heap.size := Gz26.size
        clear hz32
        refine hKK.out _ _ ⟨rangeAt_below E1.out Gz32 hb1', rangeAt_below F1.out Gz32 hb1'⟩ (fun _ => ?_)
        clear hKK K'
        refine wpAnyH_ready (rs := [8]) (by kernel_rfl) (by simp) ?_
        refine AllReadyH.cons rfl (fun K' hKK => ?_) AllReadyH.nil
        · go_simp
          refine (hkx _).mono ?_
          rintro e z33 ⟨rfl, hbz33⟩
          have Gz33 : Below w1.heap.size w1 z33 := Gz32.trans (hbz33.mono Gz32.size)
          have N7z33 := N7z32.below hbz33
          have N8z33 := N8z32.below hbz33
          refine hKK.out _ _ ⟨rangeAt_below E1.out Gz33 hb1', rangeAt_below F1.out Gz33 hb1'⟩ (fun _ => ?_)
          clear hKK K'
          refine wpAnyH_ready (rs := [17]) (by kernel_rfl) (by simp) ?_
          refine AllReadyH.cons rfl (fun K' hKK => ?_) AllReadyH.nil
          · go_simp
            refine (hky _).mono ?_
            rintro e z34 ⟨rfl, hbz34⟩
            have Gz34 : Below w1.heap.size w1 z34 := Gz33.trans (hbz34.mono Gz33.size)
            have N7z34 := N7z33.below hbz34
            have N8z34 := N8z33.below hbz34
            refine hKK.out _ _ ⟨rangeAt_below E1.out Gz34 hb1', rangeAt_below F1.out Gz34 hb1'⟩ (fun _ => ?_)
            clear hKK K'
            obtain ⟨T8, G1, G2, s7, s8, R7, R8⟩ := two_stores a k Gz34 h7p h8p N7z34 N8z34 (by omega)
            refine wpAnyH_ready (rs := [20]) (by kernel_rfl) (by simp) ?_
            refine AllReadyH.cons rfl (fun K' hKK => ?_) AllReadyH.nil
            rw [if_pos (by rfl)]
            refine wp_store_mid 24 (.tmp 7) (.tmp 38) rfl (z26.heap.size) 0 #[.string a.1, .int .i64 a.2] rfl rfl N7z34.there (by kernel_rfl) (kc_one _) ?_
            refine hKK.out _ _ ⟨rangeAt_below E1.out G1 hb1', rangeAt_below F1.out G1 hb1'⟩ (fun _ => ?_)
            clear hKK K'
            refine wpAnyH_ready (rs := [21]) (by kernel_rfl) (by simp) ?_
            refine AllReadyH.cons rfl (fun K' hKK => ?_) AllReadyH.nil
            rw [if_pos (by rfl)]
            refine wp_store_mid 24 (.tmp 8) (.tmp 47) rfl (z0.heap.size) 0 #[.string k.1, .int .i64 k.2] rfl rfl T8 (by kernel_rfl) (kc_one _) ?_
            refine hKK.out _ _ ⟨rangeAt_below E1.out G2 hb1', rangeAt_below F1.out G2 hb1'⟩ (fun _ => ?_)
            clear hKK K'
            refine wpAnyH_done (by kernel_rfl) ?_ _
            try simp only [Act.put, List.getElem_toArray, List.getElem_cons_succ, List.getElem_cons_zero]
            go_wp2_with fail
            go_meet
            case rel => exact ⟨z26.heap.size, z0.heap.size, rfl, rfl, Nat.le_trans hW1.size h7p, Nat.le_trans hW1.size h8p, s7, s8, R7, R8, hW1.trans (G2.mono hW1.size)⟩
  case rest =>
    obtain ⟨p7, p8, rfl, rfl, g7, g8, s7, s8, R7, R8, Wc⟩ := hcut
    have c70 : wc.cell? ⟨p7, 0, none⟩ = some (.string a.1) := by have := R7.out 0 _ rfl; simpa using this
    have c71 : wc.cell? ⟨p7, 1, none⟩ = some (.int .i64 a.2) := by have := R7.out 1 _ rfl; simpa using this
    have c80 : wc.cell? ⟨p8, 0, none⟩ = some (.string k.1) := by have := R8.out 0 _ rfl; simpa using this
    have c81 : wc.cell? ⟨p8, 1, none⟩ = some (.int .i64 k.2) := by have := R8.out 1 _ rfl; simpa using this
    clear E1 F1 R7 R8 hkx hky hi hj hHu hHk hd hkd hW1 hb1'
    obtain ⟨t, ht⟩ : ∃ t, Hid (decide (k ∈ KU) = t) := ⟨_, rfl⟩
    have ht2 : Hid (decide (a ∈ KV) = t) := hKU.symm.trans ht.out
    clear hKU
    go_wp2_with (first
      | (go_at_call 19; refine (h19 _ Wc).mono ?_; rintro e w2 ⟨q2, c2, rfl, hk2, hb2⟩
         have W2 := Wc.trans (hb2.mono Wc.size)
         have d80 : w2.cell? ⟨p8, 0, none⟩ = some (.string k.1) := (hb2.cell s8).trans c80
         have d81 : w2.cell? ⟨p8, 1, none⟩ = some (.int .i64 k.2) := (hb2.cell s8).trans c81
         have d70 : w2.cell? ⟨p7, 0, none⟩ = some (.string a.1) := (hb2.cell s7).trans c70
         have d71 : w2.cell? ⟨p7, 1, none⟩ = some (.int .i64 a.2) := (hb2.cell s7).trans c71
         have z7 : p7 < w2.heap.size := Nat.lt_of_lt_of_le s7 hb2.size
         have z8 : p8 < w2.heap.size := Nat.lt_of_lt_of_le s8 hb2.size
         have hk2 := hid_of hk2
         clear h19 c70 c71 c80 c81 s7 s8)
      | (go_at_call 20; refine (h20 _ W2).mono ?_; rintro e w3 ⟨q3, c3, rfl, hk3, hb3⟩
         have W3 := W2.trans (hb3.mono W2.size)
         have e80 : w3.cell? ⟨p8, 0, none⟩ = some (.string k.1) := (hb3.cell z8).trans d80
         have e81 : w3.cell? ⟨p8, 1, none⟩ = some (.int .i64 k.2) := (hb3.cell z8).trans d81
         have e70 : w3.cell? ⟨p7, 0, none⟩ = some (.string a.1) := (hb3.cell z7).trans d70
         have e71 : w3.cell? ⟨p7, 1, none⟩ = some (.int .i64 a.2) := (hb3.cell z7).trans d71
         have y7 : p7 < w3.heap.size := Nat.lt_of_lt_of_le z7 hb3.size
         have y8 : p8 < w3.heap.size := Nat.lt_of_lt_of_le z8 hb3.size
         have hk3 := hid_of hk3
         clear h20 d70 d71 d80 d81 z7 z8))
    have am1 : ∀ z, Below w3.heap.size w3 z → Calls Tryz.prog 21 #[.slice q2 KU.length c2, .agg #[.string k.1, .int .i64 k.2]] z fun x w' => x = .returned (.bool t) ∧ Below z.heap.size z w' := fun z hz => ht.out ▸ among_ok ((hk2.out.below hb3).below hz) hU k
    have am2 : ∀ z, Below w3.heap.size w3 z → Calls Tryz.prog 21 #[.slice q3 KV.length c3, .agg #[.string a.1, .int .i64 a.2]] z fun x w' => x = .returned (.bool t) ∧ Below z.heap.size z w' := fun z hz => ht2.out ▸ among_ok (hk3.out.below hz) hV a
    have hSk : ∀ z, Below w3.heap.size w3 z → z.cell? ⟨p7, 0, none⟩ = some (.string a.1) ∧ z.cell? ⟨p7, 1, none⟩ = some (.int .i64 a.2) ∧ z.cell? ⟨p8, 0, none⟩ = some (.string k.1) ∧ z.cell? ⟨p8, 1, none⟩ = some (.int .i64 k.2) := fun z hz => ⟨(hz.cell y7).trans e70, (hz.cell y7).trans e71, (hz.cell y8).trans e80, (hz.cell y8).trans e81⟩
    have hS := hSk _ (Below.refl w3.heap.size w3).drew
    clear hk2 hk3 hb2 hb3 ht ht2 hU hV
    go_region_held3 (fun z => z.cell? ⟨p7, 0, none⟩ = some (.string a.1) ∧ z.cell? ⟨p7, 1, none⟩ = some (.int .i64 a.2) ∧ z.cell? ⟨p8, 0, none⟩ = some (.string k.1) ∧ z.cell? ⟨p8, 1, none⟩ = some (.int .i64 k.2)) (first | exact hS | exact hS4 | exact hS5 | exact hS6)
      (first
        | (go_at_call 21; with_reducible refine (am1 _ (Below.refl w3.heap.size w3).drew).mono ?_; rintro e w4 ⟨rfl, hb4⟩; have B4 : Below w3.heap.size w3 w4 := below_undrew hb4; have hS4 := hSk _ B4)
        | (go_at_call 21; with_reducible refine (am2 _ B4).mono ?_; rintro e w5 ⟨rfl, hb5⟩; have B5 : Below w3.heap.size w3 w5 := B4.trans (hb5.mono B4.size); have hS5 := hSk _ B5)
        | (go_at_call 14; with_reducible refine (hA _ (W3.trans (B5.mono W3.size))).mono ?_; rintro e w6 ⟨rfl, hb6⟩; have B6 : Below w3.heap.size w3 w6 := B5.trans (hb6.mono B5.size); have hS6 := hSk _ B6))
    go_wp2_with fail
    go_ret
    exact ⟨rfl, W3.trans (B6.mono W3.size)⟩
end Go.Proofs.YtfhjhnofkaiceaaGreatDoor

namespace Go.Proofs.YtfhjhnofkaiceaaGreatDoor
open Go Go.RowKit

set_option maxRecDepth 100000 in
theorem inv_zero {w : World} {q : Option Addr} {c : Nat} {x y : Int}
    (hA : ∀ z, Below w.heap.size w z → Calls Tryz.prog 14 #[] z fun e w' => e = .returned (.bool true) ∧ Below z.heap.size z w') :
    Calls Tryz.prog 5 #[.slice q 0 c, .int .u8 x, .int .u8 y] w fun e w' => e = .returned (.bool true) ∧ Below w.heap.size w w' := by
  go_enter Tryz.func5, Tryz.ntmps5
  go_wp2_with (go_at_call 14; refine (hA _ (Below.refl _ _)).mono ?_; rintro e w1 ⟨rfl, hb1⟩)
  go_ret
  exact ⟨rfl, hb1⟩

set_option maxRecDepth 100000 in
theorem inv_great {w : World} {q : Option Addr} {n c : Nat} {x y : Int} (hn : 60 < n)
    (hA : ∀ z, Below w.heap.size w z → Calls Tryz.prog 14 #[] z fun e w' => e = .returned (.bool true) ∧ Below z.heap.size z w') :
    Calls Tryz.prog 5 #[.slice q n c, .int .u8 x, .int .u8 y] w fun e w' => e = .returned (.bool true) ∧ Below w.heap.size w w' := by
  have n0 : ¬ (n : Int) = 0 := by omega
  have n1 : (60 : Int) < (n : Int) := by omega
  have nb : ((n : Int) == 0) = false := by simp; omega
  clear hn
  go_enter Tryz.func5, Tryz.ntmps5
  go_wp2_with (go_at_call 14; refine (hA _ (Below.refl _ _)).mono ?_; rintro e w1 ⟨rfl, hb1⟩)
  go_ret
  exact ⟨rfl, hb1⟩

set_option maxRecDepth 100000 in
theorem inv_twice {w : World} {q : Option Addr} {n c F : Nat} {x y : Int} (hn : ¬ 60 < n) (hn0 : 0 < n) (hF : F ≠ n)
    (h12 : ∀ z, Below w.heap.size w z → Calls Tryz.prog 12 #[.slice q n c] z fun x w' => ∃ q c, x = .returned (.slice q F c) ∧ Below z.heap.size z w')
    (hA : ∀ z, Below w.heap.size w z → Calls Tryz.prog 14 #[] z fun e w' => e = .returned (.bool true) ∧ Below z.heap.size z w') :
    Calls Tryz.prog 5 #[.slice q n c, .int .u8 x, .int .u8 y] w fun e w' => e = .returned (.bool true) ∧ Below w.heap.size w w' := by
  have n0 : ¬ (n : Int) = 0 := by omega
  have n1 : ¬ (60 : Int) < (n : Int) := by omega
  have nb : ((n : Int) == 0) = false := by simp; omega
  have nf : ((F : Int) == (n : Int)) = false := by simp; omega
  have nf' : ¬ (F : Int) = (n : Int) := by omega
  clear hn hF
  go_enter Tryz.func5, Tryz.ntmps5
  go_wp2_with (first
    | (go_at_call 12; refine (h12 _ (Below.refl _ _)).mono ?_; rintro e w1 ⟨q1, c1, rfl, hb1⟩)
    | (go_at_call 14; refine (hA _ hb1).mono ?_; rintro e w2 ⟨rfl, hb2⟩))
  go_ret
  exact ⟨rfl, hb1.trans (hb2.mono hb1.size)⟩

/-- LibraryInverse returns true. -/
theorem inverse_lib_ok {w : World} {q : Option Addr} {n : Nat} (c : Nat) {L : List En} {U : Lb} (h : LibOk w q n L) (hU : LibU w L U) {x y : Int} (hx0 : 0 ≤ x) (hx1 : x ≤ 255) (hy0 : 0 ≤ y) (hy1 : y ≤ 255)
    (hA : ∀ z, Below w.heap.size w z → Calls Tryz.prog 14 #[] z fun e w' => e = .returned (.bool true) ∧ Below z.heap.size z w') :
    Calls Tryz.prog 5 #[.slice q n c, .int .u8 x, .int .u8 y] w fun e w' => e = .returned (.bool true) ∧ Below w.heap.size w w' := by
  by_cases h0 : n = 0
  · subst h0
    exact inv_zero hA
  by_cases h60 : 60 < n
  · exact inv_great h60 hA
  by_cases hF : (foldK [] (L.map (·.k))).length = n
  · have hLn := h.1
    obtain ⟨hnd, _⟩ := foldK_nodup (L.map (·.k)) [] List.Pairwise.nil (by rw [hF, List.length_map, hLn]; simp)
    obtain ⟨b, o, rfl, hb, hx⟩ : ∃ b o, q = some ⟨b, o, none⟩ ∧ b < w.heap.size ∧ ∀ i e, L[i]? = some e → w.rangeAt b (o + i * 33) e.cells := by
      rcases h.2.2.2 with h4 | h4
      · omega
      · exact h4
    have tm : ∀ z : Int, 0 ≤ z → ∃ i : Nat, Int.tmod z n = (i : Int) ∧ i < n := fun z hz => by
      refine ⟨z.toNat % n, ?_, Nat.mod_lt _ (by omega)⟩
      obtain ⟨m, rfl⟩ := Int.eq_ofNat_of_zero_le hz
      first | (rw [Int.tmod_eq_emod_of_nonneg (by omega)]; simp) | (exact (Int.ofNat_tmod m n).symm)
    obtain ⟨i, hi, hin⟩ := tm x hx0
    obtain ⟨j, hj, hjn⟩ := tm y hy0
    obtain ⟨ei, hei⟩ : ∃ e, L[i]? = some e := ⟨_, List.getElem?_eq_getElem (by omega)⟩
    obtain ⟨ej, hej⟩ : ∃ e, L[j]? = some e := ⟨_, List.getElem?_eq_getElem (by omega)⟩
    have hoi := h.2.2.1 ei (List.mem_of_getElem? hei)
    have hoj := h.2.2.1 ej (List.mem_of_getElem? hej)
    obtain ⟨_, _, _, hUi⟩ := hU.2.2 i ei hei
    obtain ⟨_, _, _, hUj⟩ := hU.2.2 j ej hej
    have hnd' : (U.map (·.1)).Nodup := by rw [hU.keys]; exact hnd
    obtain ⟨r1, r2, r3, r4⟩ := inverse_eq hnd' hUi hUj
    simp only at r1 r2 r3 r4
    have hall : U.all.length ≤ 1048576 := by rw [Lb.all_len]; exact hU.2.1
    have hul : List.length U ≤ 1048576 := by
      have h1 : List.length U = List.length L := hU.1
      have h3 := h.2.1
      omega
    refine law_inv_some (_K := L.map (·.k)) (KU := U.at i) (KV := foldK [] (U.users ej.k)) (i := i) (j := j) (a := ei.k) (k := ej.k) (cx := ei.cells) (cy := ej.cells) hx0 hx1 hy0 hy1 (by omega) (by omega) hi hj hin hjn hb ?_ ?_ r4 ?_ (hx i ei hei) (hx j ej hej) hoi.len' hoj.len' (key18_ok ei hoi) (key18_ok ej hoj) ?_ ?_ hA
    · have := Lb.of_len U ei.k
      rw [Lb.of_eq, r1] at this
      simp only at this
      omega
    · have := U.us_len ej.k
      rw [r2] at this
      omega
    · intro z hz
      refine (keys_ok c (h.below hz)).mono ?_
      rintro x w' ⟨q', c', rfl, _, hb'⟩
      exact ⟨q', c', by rw [hF], hb'⟩
    · intro z hz
      have := puses_ok c (h.below hz) (hU.below hz) ei.k
      rwa [r1] at this
    · intro z hz
      have := users_ok c (h.below hz) (hU.below hz) ej.k
      rwa [r2, r3] at this
  · refine inv_twice h60 (by omega) hF (fun z hz => ?_) hA
    refine (keys_ok c (h.below hz)).mono ?_
    rintro x w' ⟨q', c', rfl, _, hb'⟩
    exact ⟨q', c', rfl, hb'⟩

set_option maxRecDepth 100000 in
theorem agg5 {W : World} {base : Nat} {cs : Array Value} (hv : Value.okWide Tryz.prog W .any base 5 (.agg cs)) : False := by
  simp [Value.okWide, Cell.okWide, Cell.ok] at hv
set_option maxRecDepth 100000 in
theorem cells_u8 {w : World} {base : Nat} {v : Value} {x : Int} (hv : Value.okWide Tryz.prog w .any base 5 v) (h : v.cells.toList = [.int .u8 x]) : v = .int .u8 x := by
  cases v with
  | agg cs => exact (agg5 hv).elim
  | _ => clear hv; simp_all [Value.cells]
theorem uByte5 : Tryz.prog.underlying 5 = some (.int .u8) := by kernel_rfl
/-- A byte, opened. -/
theorem open_byte {H : Type} {enc : TypeId × Value → H} {w : World} {spare : Nat → Bool} {held : Bool} {fuel : Nat} {cs : List Value} {x : DataW H × List MemPlace} (h : DataW.trod enc Tryz.prog w 0 spare held fuel 5 cs = some x) :
    ∃ v : Int, cs = [.int .u8 v] ∧ 0 ≤ v ∧ v ≤ 255 := by
  obtain ⟨v, e, _, hw⟩ := DataW.trod_int uByte5 h
  have := bounds_u8 hw
  exact ⟨v, e, this.1, this.2⟩
end Go.Proofs.YtfhjhnofkaiceaaGreatDoor
