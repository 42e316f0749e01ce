/-
  The reference's Pick; the zero step; the reference's Graft at an empty path and at a bad index.
-/
import Derived.Test.YtlmifjdbjhcceaaGreatDoorDvM
import Derived.Test.YtlmifjdbjhcceaaGreatDoorDvI
namespace Go.Proofs.YtlmifjdbjhcceaaGreatDoor
open Go Go.RowKit

set_option maxRecDepth 100000 in
set_option maxHeartbeats 4000000 in
/-- The reference's Pick. -/
theorem rpick_ok {w : World} {d : Sd} {X : St} {q : Option Addr} {n c : Nat} {p : List Int} (hX : StOk w X d) (hs : StSmall X) (hp : PaOk w q n p) :
    Calls Tryz.prog 13 #[.agg #[.int .i64 d.s.ru, .string d.s.nm, .string d.s.ot, .bool d.s.g, .slice d.aq d.an d.ac, .slice d.cq d.cn d.cc, .int .i64 d.s.kk, .int .i64 d.s.nn, .int .i64 d.s.pr, .int .i64 d.e.k, .int .i64 d.e.f, .bool d.e.neg, .slice d.e.aq d.e.an d.e.ac, .slice d.e.cq d.e.cn d.e.cc, .string d.e.m, .slice d.e.sq d.e.sn d.e.sc, .slice d.poq d.pon d.poc, .string d.s.en, .int .i64 d.s.ve, .slice d.arq d.arn d.arc, .slice d.kiq d.kin d.kic], .slice q n c] w fun e w' => (X.pick p = none ∧ e = .returned (.tuple #[.agg #[.int .i64 0, .string ⟨#[]⟩, .string ⟨#[]⟩, .bool false, .slice none 0 0, .slice none 0 0, .int .i64 0, .int .i64 0, .int .i64 0, .int .i64 0, .int .i64 0, .bool false, .slice none 0 0, .slice none 0 0, .string ⟨#[]⟩, .slice none 0 0, .slice none 0 0, .string ⟨#[]⟩, .int .i64 0, .slice none 0 0, .slice none 0 0], .bool false]) ∧ Below w.heap.size w w') ∨
      ∃ Y d', X.pick p = some Y ∧ e = .returned (.tuple #[Sd.val d', .bool true]) ∧ StSmall Y ∧ StA w' (· < w.heap.size) Y d' ∧ Below w.heap.size w w' := by
  have hp' : Hid (PaOk w q n p) := hp
  have hpl := hp.1
  have hpn := hp.2.1
  clear hp
  obtain ⟨dd, hu, hd⟩ := st_row
  have hHu : Hid (Tryz.prog.underlying 32 = some dd) := hu
  clear hu
  go_enter Tryz.func13, Tryz.ntmps13
  go_wp2_with fail
  generalize hw1 : (w.alloc _).alloc _ = w1
  have hz1 : w1.heap.size = w.heap.size + 2 := by rw [← hw1]; simp
  have hW1 : Below w.heap.size w w1 := by rw [← hw1]; exact below_two _ _ _
  have hr1 : w1.rangeAt w.heap.size 0 d.cells := by rw [← hw1]; exact World.rangeAt_alloc (range_new w d.cells 32) _
  have ht1 : w1.there w.heap.size 0 21 := by
    rw [← hw1]
    exact World.there_alloc (there_of_block (heap_alloc_last w _) rfl) _
  have ht2 : w1.there (w.heap.size + 1) 0 21 := by
    rw [← hw1]
    have h := there_of_block (heap_alloc_last (w.alloc (.cells #[.int .i64 d.s.ru, .string d.s.nm, .string d.s.ot, .bool d.s.g, .slice d.aq d.an d.ac, .slice d.cq d.cn d.cc, .int .i64 d.s.kk, .int .i64 d.s.nn, .int .i64 d.s.pr, .int .i64 d.e.k, .int .i64 d.e.f, .bool d.e.neg, .slice d.e.aq d.e.an d.e.ac, .slice d.e.cq d.e.cn d.e.cc, .string d.e.m, .slice d.e.sq d.e.sn d.e.sc, .slice d.poq d.pon d.poc, .string d.s.en, .int .i64 d.s.ve, .slice d.arq d.arn d.arc, .slice d.kiq d.kin d.kic] 32)) (.cells #[.int .i64 0, .string ⟨#[]⟩, .string ⟨#[]⟩, .bool false, .slice none 0 0, .slice none 0 0, .int .i64 0, .int .i64 0, .int .i64 0, .int .i64 0, .int .i64 0, .bool false, .slice none 0 0, .slice none 0 0, .string ⟨#[]⟩, .slice none 0 0, .slice none 0 0, .string ⟨#[]⟩, .int .i64 0, .slice none 0 0, .slice none 0 0] 32 (0, 0))) (n := 21) rfl
    rw [show (w.alloc (.cells #[.int .i64 d.s.ru, .string d.s.nm, .string d.s.ot, .bool d.s.g, .slice d.aq d.an d.ac, .slice d.cq d.cn d.cc, .int .i64 d.s.kk, .int .i64 d.s.nn, .int .i64 d.s.pr, .int .i64 d.e.k, .int .i64 d.e.f, .bool d.e.neg, .slice d.e.aq d.e.an d.e.ac, .slice d.e.cq d.e.cn d.e.cc, .string d.e.m, .slice d.e.sq d.e.sn d.e.sc, .slice d.poq d.pon d.poc, .string d.s.en, .int .i64 d.s.ve, .slice d.arq d.arn d.arc, .slice d.kiq d.kin d.kic] 32)).heap.size = w.heap.size + 1 by simp] at h
    exact h
  have hA1 : StA w1 (· < w.heap.size) X d := hX.toA.keep (keeps_below hW1) (fun b hb => hb)
  clear hw1
  go_loopw [10] (fun i wr => ∃ k : Nat, k ≤ n ∧ i = .int .i64 k ∧ ∃ (Y : St) (D : Sd), X.pick (p.take k) = some Y ∧ StSmall Y ∧ wr.rangeAt w.heap.size 0 D.cells ∧ wr.there w.heap.size 0 21 ∧ wr.there (w.heap.size + 1) 0 21 ∧ StA wr (· < w.heap.size) Y D ∧ Below w.heap.size w wr ∧ wr.heap.size = w.heap.size + 2) (fun i _ => n - (intOf i).toNat)
  case atStart => exact ⟨0, Nat.zero_le _, rfl, X, d, rfl, hs, hr1, ht1, ht2, hA1, hW1, hz1⟩
  case round =>
    clear hr1 ht1 ht2 hA1 hW1 hz1
    obtain ⟨k, hk, rfl, Y, D, hpk, hsY, hrD, hr1, hr2, hAD, hbw, hsz⟩ := hrel
    have hr1' : Hid (wr.there w.heap.size 0 21) := hr1
    have hr2' : Hid (wr.there (w.heap.size + 1) 0 21) := hr2
    have hrD' : Hid (wr.rangeAt w.heap.size 0 D.cells) := hrD
    have k20 : wr.cell? ⟨w.heap.size, 20, none⟩ = some (.slice D.kiq D.kin D.kic) := by have h := hrD 20 _ rfl; simpa using h
    clear hr1 hr2 hrD
    have hkn := kin_le hAD
    have hpk' : Hid (X.pick (p.take k) = some Y) := hpk
    clear hpk
    by_cases hlt : k < n
    · have hlt' : (k : Int) < (n : Int) := by omega
      rcases hp'.out.2.2 with h0 | ⟨b, o, hq, hbb, hcp⟩
      · omega
      have cp : wr.cell? ⟨b, o + k, none⟩ = some (.int .i64 (p.getD k 0)) := (hbw.cell (by exact hbb)).trans (hcp k hlt)
      have htk : p.take (k + 1) = p.take k ++ [p.getD k 0] := by
        rw [List.take_add_one]
        congr 1
        simp [List.getD, show k < p.length by omega]
      have hsplit : X.pick p = (Y.kid (p.getD k 0)).bind fun Z => Z.pick (p.drop (k + 1)) := by
        conv => lhs; rw [← List.take_append_drop (k + 1) p]
        rw [St.pick_append, htk, St.pick_append, hpk'.out]
        simp only [Option.bind_some, St.pick]
        cases Y.kid (p.getD k 0) <;> rfl
      have hsplit' : Hid (X.pick p = (Y.kid (p.getD k 0)).bind fun Z => Z.pick (p.drop (k + 1))) := hsplit
      clear hcp hsplit
      generalize p.getD k 0 = I at *
      rw [hq]
      by_cases hneg : I < 0
      · have hnone : Hid (X.pick p = none) := by show X.pick p = none; rw [hsplit'.out, kid_none hAD (.inl hneg)]; rfl
        go_wp2_with (with_reducible refine wpList_store_mid ?_ 32 (.tmp 4) (.tmp 23) ?_ (w.heap.size + 1) 0 #[.int .i64 0, .string ⟨#[]⟩, .string ⟨#[]⟩, .bool false, .slice none 0 0, .slice none 0 0, .int .i64 0, .int .i64 0, .int .i64 0, .int .i64 0, .int .i64 0, .bool false, .slice none 0 0, .slice none 0 0, .string ⟨#[]⟩, .slice none 0 0, .slice none 0 0, .string ⟨#[]⟩, .int .i64 0, .slice none 0 0, .slice none 0 0] ?_ ?_ ?_ ?_ ?_ ?_
                     rotate_left 1
                     · with_reducible rfl
                     · rfl
                     · rfl
                     · exact hr2'.out
                     · exact st_size
                     · exact all_oneCell_toArray (one_sd ⟨⟨0, ⟨#[]⟩, ⟨#[]⟩, false, 0, 0, 0, ⟨#[]⟩, 0⟩, none, 0, 0, none, 0, 0, ⟨0, 0, false, none, 0, 0, none, 0, 0, ⟨#[]⟩, none, 0, 0⟩, none, 0, 0, none, 0, 0, none, 0, 0⟩)
                     rotate_left 1
                     · rfl)
        obtain ⟨hW8, _, _⟩ := setCells_facts w.heap.size (w.heap.size + 1) (by omega) [.int .i64 0, .string ⟨#[]⟩, .string ⟨#[]⟩, .bool false, .slice none 0 0, .slice none 0 0, .int .i64 0, .int .i64 0, .int .i64 0, .int .i64 0, .int .i64 0, .bool false, .slice none 0 0, .slice none 0 0, .string ⟨#[]⟩, .slice none 0 0, .slice none 0 0, .string ⟨#[]⟩, .int .i64 0, .slice none 0 0, .slice none 0 0] 0 w wr hbw
        have hr8 := World.rangeAt_setCells_same wr (w.heap.size + 1) 0 [.int .i64 0, .string ⟨#[]⟩, .string ⟨#[]⟩, .bool false, .slice none 0 0, .slice none 0 0, .int .i64 0, .int .i64 0, .int .i64 0, .int .i64 0, .int .i64 0, .bool false, .slice none 0 0, .slice none 0 0, .string ⟨#[]⟩, .slice none 0 0, .slice none 0 0, .string ⟨#[]⟩, .int .i64 0, .slice none 0 0, .slice none 0 0] hr2'.out
        change bodyPost _ _ _ _ _ (wr.setCells (w.heap.size + 1) 0 [.int .i64 0, .string ⟨#[]⟩, .string ⟨#[]⟩, .bool false, .slice none 0 0, .slice none 0 0, .int .i64 0, .int .i64 0, .int .i64 0, .int .i64 0, .int .i64 0, .bool false, .slice none 0 0, .slice none 0 0, .string ⟨#[]⟩, .slice none 0 0, .slice none 0 0, .string ⟨#[]⟩, .int .i64 0, .slice none 0 0, .slice none 0 0])
        generalize wr.setCells (w.heap.size + 1) 0 [.int .i64 0, .string ⟨#[]⟩, .string ⟨#[]⟩, .bool false, .slice none 0 0, .slice none 0 0, .int .i64 0, .int .i64 0, .int .i64 0, .int .i64 0, .int .i64 0, .bool false, .slice none 0 0, .slice none 0 0, .string ⟨#[]⟩, .slice none 0 0, .slice none 0 0, .string ⟨#[]⟩, .int .i64 0, .slice none 0 0, .slice none 0 0] = w8 at *
        refine bodyPost_ret (results_cell_tmp_mid rfl _ _ (w.heap.size + 1) _ dd rfl hr8 hHu.out hd st_size) rfl ?_
        exact .inl ⟨hnone.out, rfl, hW8⟩
      · by_cases hge : (D.kin : Int) ≤ I
        · have hnone : Hid (X.pick p = none) := by show X.pick p = none; rw [hsplit'.out, kid_none hAD (.inr hge)]; rfl
          go_wp2_with (with_reducible refine wpList_store_mid ?_ 32 (.tmp 4) (.tmp 23) ?_ (w.heap.size + 1) 0 #[.int .i64 0, .string ⟨#[]⟩, .string ⟨#[]⟩, .bool false, .slice none 0 0, .slice none 0 0, .int .i64 0, .int .i64 0, .int .i64 0, .int .i64 0, .int .i64 0, .bool false, .slice none 0 0, .slice none 0 0, .string ⟨#[]⟩, .slice none 0 0, .slice none 0 0, .string ⟨#[]⟩, .int .i64 0, .slice none 0 0, .slice none 0 0] ?_ ?_ ?_ ?_ ?_ ?_
                       rotate_left 1
                       · with_reducible rfl
                       · rfl
                       · rfl
                       · exact hr2'.out
                       · exact st_size
                       · exact all_oneCell_toArray (one_sd ⟨⟨0, ⟨#[]⟩, ⟨#[]⟩, false, 0, 0, 0, ⟨#[]⟩, 0⟩, none, 0, 0, none, 0, 0, ⟨0, 0, false, none, 0, 0, none, 0, 0, ⟨#[]⟩, none, 0, 0⟩, none, 0, 0, none, 0, 0, none, 0, 0⟩)
                       rotate_left 1
                       · rfl)
          obtain ⟨hW8, _, _⟩ := setCells_facts w.heap.size (w.heap.size + 1) (by omega) [.int .i64 0, .string ⟨#[]⟩, .string ⟨#[]⟩, .bool false, .slice none 0 0, .slice none 0 0, .int .i64 0, .int .i64 0, .int .i64 0, .int .i64 0, .int .i64 0, .bool false, .slice none 0 0, .slice none 0 0, .string ⟨#[]⟩, .slice none 0 0, .slice none 0 0, .string ⟨#[]⟩, .int .i64 0, .slice none 0 0, .slice none 0 0] 0 w wr hbw
          have hr8 := World.rangeAt_setCells_same wr (w.heap.size + 1) 0 [.int .i64 0, .string ⟨#[]⟩, .string ⟨#[]⟩, .bool false, .slice none 0 0, .slice none 0 0, .int .i64 0, .int .i64 0, .int .i64 0, .int .i64 0, .int .i64 0, .bool false, .slice none 0 0, .slice none 0 0, .string ⟨#[]⟩, .slice none 0 0, .slice none 0 0, .string ⟨#[]⟩, .int .i64 0, .slice none 0 0, .slice none 0 0] hr2'.out
          change bodyPost _ _ _ _ _ (wr.setCells (w.heap.size + 1) 0 [.int .i64 0, .string ⟨#[]⟩, .string ⟨#[]⟩, .bool false, .slice none 0 0, .slice none 0 0, .int .i64 0, .int .i64 0, .int .i64 0, .int .i64 0, .int .i64 0, .bool false, .slice none 0 0, .slice none 0 0, .string ⟨#[]⟩, .slice none 0 0, .slice none 0 0, .string ⟨#[]⟩, .int .i64 0, .slice none 0 0, .slice none 0 0])
          generalize wr.setCells (w.heap.size + 1) 0 [.int .i64 0, .string ⟨#[]⟩, .string ⟨#[]⟩, .bool false, .slice none 0 0, .slice none 0 0, .int .i64 0, .int .i64 0, .int .i64 0, .int .i64 0, .int .i64 0, .bool false, .slice none 0 0, .slice none 0 0, .string ⟨#[]⟩, .slice none 0 0, .slice none 0 0, .string ⟨#[]⟩, .int .i64 0, .slice none 0 0, .slice none 0 0] = w8 at *
          refine bodyPost_ret (results_cell_tmp_mid rfl _ _ (w.heap.size + 1) _ dd rfl hr8 hHu.out hd st_size) rfl ?_
          exact .inl ⟨hnone.out, rfl, hW8⟩
        · obtain ⟨j, rfl⟩ := Int.eq_ofNat_of_zero_le (show 0 ≤ I by omega)
          have hj : j < D.kin := by omega
          obtain ⟨b2, o2, E, e1, e2, e3, Z, e4, e5⟩ := kid_at hAD hj
          rw [e1] at k20
          have hjl : (j : Int) < (D.kin : Int) := by omega
          have hE : Hid (wr.rangeAt b2 (o2 + j * 21) E.cells) := e3
          clear e3
          go_wp2_with (first
            | (with_reducible refine wpList_load_mid ?_ 32 (.tmp 27) ?_ b2 (o2 + j * 21) ?_ E.cells dd hE.out hHu.out hd ?_ ?_
               rotate_left 1
               · with_reducible rfl
               · rfl
               · exact st_size
               rotate_left 1
               · rfl)
            | (with_reducible refine wpList_store_mid ?_ 32 (.tmp 2) (.tmp 28) ?_ w.heap.size 0 E.cells.toArray ?_ ?_ ?_ ?_ ?_ ?_
               rotate_left 1
               · with_reducible rfl
               · rfl
               · rfl
               · exact hr1'.out
               · exact st_size
               · exact E.one
               rotate_left 1
               · rfl))
          obtain ⟨hW8, hs8, hb8⟩ := setCells_facts w.heap.size w.heap.size (by omega) E.cells 0 w wr hbw
          have hr8 := World.rangeAt_setCells_same wr w.heap.size 0 E.cells hr1'.out
          have ht8 := World.there_setCells hr1'.out w.heap.size 0 E.cells
          have ht9 := World.there_setCells hr2'.out w.heap.size 0 E.cells
          try simp only [Act.put]
          go_wp2_with fail
          go_roundw
          case rel =>
            refine ⟨k + 1, by omega, by go_num, Z, E, ?_, small_kid hsY e4, hr8, ht8, ht9, e5.keep (fun b hb => hb8 b (by omega)) (fun b hb => hb), hW8, by rw [← hsz]; exact hs8⟩
            rw [htk, St.pick_append, hpk'.out]
            simp only [Option.bind_some, St.pick]
            rw [e4]
          case measure => simp [intOf]; omega
    · have hk2 : n = k := by omega
      have hsome : Hid (X.pick p = some Y) := by show X.pick p = some Y; rw [← hpk'.out, List.take_of_length_le (by omega)]
      go_wp2_with (first
        | (with_reducible refine wpList_load_mid ?_ 32 (.tmp 2) ?_ w.heap.size 0 ?_ D.cells dd hrD'.out hHu.out hd ?_ ?_
           rotate_left 1
           · with_reducible rfl
           · rfl
           · exact st_size
           rotate_left 1
           · rfl)
        | (with_reducible refine wpList_store_mid ?_ 32 (.tmp 4) (.tmp 30) ?_ (w.heap.size + 1) 0 D.cells.toArray ?_ ?_ ?_ ?_ ?_ ?_
           rotate_left 1
           · with_reducible rfl
           · rfl
           · rfl
           · exact hr2'.out
           · exact st_size
           · exact D.one
           rotate_left 1
           · rfl))
      obtain ⟨hW8, hs8, hb8⟩ := setCells_facts w.heap.size (w.heap.size + 1) (by omega) D.cells 0 w wr hbw
      have hr8 := World.rangeAt_setCells_same wr (w.heap.size + 1) 0 D.cells hr2'.out
      change bodyPost _ _ _ _ _ (wr.setCells (w.heap.size + 1) 0 D.cells)
      generalize wr.setCells (w.heap.size + 1) 0 D.cells = w8 at *
      refine bodyPost_ret (results_cell_tmp_mid rfl _ _ (w.heap.size + 1) _ dd rfl hr8 hHu.out hd st_size) rfl ?_
      exact .inr ⟨Y, D, hsome.out, rfl, hsY, hAD.keep (fun b hb => hb8 b (by have : b < w.heap.size := hb; omega)) (fun b hb => hb), hW8⟩
end Go.Proofs.YtlmifjdbjhcceaaGreatDoor

namespace Go.Proofs.YtlmifjdbjhcceaaGreatDoor
open Go Go.RowKit

/-- The zero step: its cells and its data. -/
def zeroSd : Sd := ⟨⟨0, ⟨#[]⟩, ⟨#[]⟩, false, 0, 0, 0, ⟨#[]⟩, 0⟩, none, 0, 0, none, 0, 0, ⟨0, 0, false, none, 0, 0, none, 0, 0, ⟨#[]⟩, none, 0, 0⟩, none, 0, 0, none, 0, 0, none, 0, 0⟩
def zeroSt : St := .mk ⟨0, ⟨#[]⟩, ⟨#[]⟩, false, 0, 0, 0, ⟨#[]⟩, 0⟩ [] [] (.mk 0 0 false [] [] ⟨#[]⟩ 0 (fun _ => .non)) 0 default 0 default 0 (fun _ => .non)
theorem sl_nil (w : World) : Sl w (.slice none 0 0) [] := ⟨fun j => by simp, by simp, none, 0, rfl, Nat.le_refl _, .inl rfl⟩
theorem zero_ok (w : World) : StOk w zeroSt zeroSd :=
  ⟨⟨rfl, rfl, rfl, rfl⟩, sl_nil w, sl_nil w, by simp, by simp, ⟨⟨rfl, rfl, rfl, rfl, rfl⟩, sl_nil w, sl_nil w, by simp, by simp, by simp, .inl rfl⟩, ⟨by simp, .inl rfl⟩, ⟨by simp, .inl rfl⟩, by simp, .inl rfl⟩

set_option maxRecDepth 100000 in
theorem blank_step {w : World} {d : Sd} {b : Bool}
    (hE : ∀ z, Below w.heap.size w z → Calls Tryz.prog 10 #[.agg d.cells.toArray, .agg #[.int .i64 0, .string ⟨#[]⟩, .string ⟨#[]⟩, .bool false, .slice none 0 0, .slice none 0 0, .int .i64 0, .int .i64 0, .int .i64 0, .int .i64 0, .int .i64 0, .bool false, .slice none 0 0, .slice none 0 0, .string ⟨#[]⟩, .slice none 0 0, .slice none 0 0, .string ⟨#[]⟩, .int .i64 0, .slice none 0 0, .slice none 0 0]] z fun e w' => e = .returned (.bool b) ∧ Below z.heap.size z w')
    (hF : ∀ z, Below w.heap.size w z → Calls Tryz.prog 11 #[.agg d.cells.toArray, .agg #[.int .i64 0, .string ⟨#[]⟩, .string ⟨#[]⟩, .bool false, .slice none 0 0, .slice none 0 0, .int .i64 0, .int .i64 0, .int .i64 0, .int .i64 0, .int .i64 0, .bool false, .slice none 0 0, .slice none 0 0, .string ⟨#[]⟩, .slice none 0 0, .slice none 0 0, .string ⟨#[]⟩, .int .i64 0, .slice none 0 0, .slice none 0 0]] z fun e w' => e = .returned (.bool b) ∧ Below z.heap.size z w') :
    Calls Tryz.prog 16 #[.agg #[.int .i64 d.s.ru, .string d.s.nm, .string d.s.ot, .bool d.s.g, .slice d.aq d.an d.ac, .slice d.cq d.cn d.cc, .int .i64 d.s.kk, .int .i64 d.s.nn, .int .i64 d.s.pr, .int .i64 d.e.k, .int .i64 d.e.f, .bool d.e.neg, .slice d.e.aq d.e.an d.e.ac, .slice d.e.cq d.e.cn d.e.cc, .string d.e.m, .slice d.e.sq d.e.sn d.e.sc, .slice d.poq d.pon d.poc, .string d.s.en, .int .i64 d.s.ve, .slice d.arq d.arn d.arc, .slice d.kiq d.kin d.kic]] w fun e w' => e = .returned (.bool b) ∧ Below w.heap.size w w' := by
  obtain ⟨dd, hu, hd⟩ := st_row
  have hHu : Hid (Tryz.prog.underlying 32 = some dd) := hu
  clear hu
  have h0 : Below w.heap.size w (w.alloc (.cells #[.int .i64 d.s.ru, .string d.s.nm, .string d.s.ot, .bool d.s.g, .slice d.aq d.an d.ac, .slice d.cq d.cn d.cc, .int .i64 d.s.kk, .int .i64 d.s.nn, .int .i64 d.s.pr, .int .i64 d.e.k, .int .i64 d.e.f, .bool d.e.neg, .slice d.e.aq d.e.an d.e.ac, .slice d.e.cq d.e.cn d.e.cc, .string d.e.m, .slice d.e.sq d.e.sn d.e.sc, .slice d.poq d.pon d.poc, .string d.s.en, .int .i64 d.s.ve, .slice d.arq d.arn d.arc, .slice d.kiq d.kin d.kic] 32)) := below_one w _
  have s0 : (w.alloc (.cells #[.int .i64 d.s.ru, .string d.s.nm, .string d.s.ot, .bool d.s.g, .slice d.aq d.an d.ac, .slice d.cq d.cn d.cc, .int .i64 d.s.kk, .int .i64 d.s.nn, .int .i64 d.s.pr, .int .i64 d.e.k, .int .i64 d.e.f, .bool d.e.neg, .slice d.e.aq d.e.an d.e.ac, .slice d.e.cq d.e.cn d.e.cc, .string d.e.m, .slice d.e.sq d.e.sn d.e.sc, .slice d.poq d.pon d.poc, .string d.s.en, .int .i64 d.s.ve, .slice d.arq d.arn d.arc, .slice d.kiq d.kin d.kic] 32)).heap.size = w.heap.size + 1 := by simp
  have D0 : Hid ((w.alloc (.cells #[.int .i64 d.s.ru, .string d.s.nm, .string d.s.ot, .bool d.s.g, .slice d.aq d.an d.ac, .slice d.cq d.cn d.cc, .int .i64 d.s.kk, .int .i64 d.s.nn, .int .i64 d.s.pr, .int .i64 d.e.k, .int .i64 d.e.f, .bool d.e.neg, .slice d.e.aq d.e.an d.e.ac, .slice d.e.cq d.e.cn d.e.cc, .string d.e.m, .slice d.e.sq d.e.sn d.e.sc, .slice d.poq d.pon d.poc, .string d.s.en, .int .i64 d.s.ve, .slice d.arq d.arn d.arc, .slice d.kiq d.kin d.kic] 32)).rangeAt w.heap.size 0 d.cells) := range_new w d.cells 32
  cases b with
  | true =>
    go_enter Tryz.func16, Tryz.ntmps16
    go_wp2_with (first
      | (with_reducible refine wpList_load_mid (op := ⟨some 3, _, _, _, _, _⟩) ?_ 32 (.tmp 1) ?_ (w.heap.size) 0 ?_ d.cells dd ?_ hHu.out hd ?_ ?_
         rotate_left 1
         · with_reducible rfl
         · kernel_rfl
         · exact D0.out
         · exact st_size
         rotate_left 1
         · rfl)
      | (go_at_call 10; with_reducible refine (hE _ h0).mono ?_; rintro e w1 ⟨rfl, hb1⟩
         have s1 := hb1.size
         have D1 : Hid (w1.rangeAt w.heap.size 0 d.cells) := rangeAt_below D0.out hb1 (by omega)
         have W1 := h0.trans (hb1.mono h0.size))
      | (with_reducible refine wpList_load_mid_g (op := ⟨some 7, _, _, _, _, _⟩) ?_ 32 (.tmp 1) ?_ (w.heap.size) 0 ?_ d.cells dd ?_ hHu.out hd ?_ ?_
         rotate_left 1
         · with_reducible rfl
         · kernel_rfl
         · exact D1.out
         · exact st_size
         rotate_left 1
         · kernel_rfl)
      | (go_at_call 11; with_reducible refine (hF _ W1).mono ?_; rintro e w2 ⟨rfl, hb2⟩
         have W2 := W1.trans (hb2.mono W1.size)))
    go_ret
    exact ⟨rfl, W2⟩
  | false =>
    go_enter Tryz.func16, Tryz.ntmps16
    go_wp2_with (first
      | (with_reducible refine wpList_load_mid (op := ⟨some 3, _, _, _, _, _⟩) ?_ 32 (.tmp 1) ?_ (w.heap.size) 0 ?_ d.cells dd ?_ hHu.out hd ?_ ?_
         rotate_left 1
         · with_reducible rfl
         · kernel_rfl
         · exact D0.out
         · exact st_size
         rotate_left 1
         · rfl)
      | (go_at_call 10; with_reducible refine (hE _ h0).mono ?_; rintro e w1 ⟨rfl, hb1⟩
         have W1 := h0.trans (hb1.mono h0.size)))
    go_ret
    exact ⟨rfl, W1⟩

/-- The law's blank: whether a step equals the zero step. -/
theorem blank_ok {w : World} {X : St} {d : Sd} (hX : StOk w X d) : Calls Tryz.prog 16 #[d.val] w fun e w' => e = .returned (.bool (X.eq zeroSt)) ∧ Below w.heap.size w w' :=
  blank_step (fun z hz => equal_ok X zeroSt d zeroSd z (hX.below hz) (zero_ok z)) (fun z hz => refEq_ok X zeroSt d zeroSd z (hX.below hz) (zero_ok z))
end Go.Proofs.YtlmifjdbjhcceaaGreatDoor

namespace Go.Proofs.YtlmifjdbjhcceaaGreatDoor
open Go Go.RowKit

/-- Three blocks of 21 cells, just made. -/
theorem three_new (w : World) (L T Z : List Value) (hL : L.length = 21) (hZ : Z.length = 21) :
    Below w.heap.size w (((w.alloc (.cells L.toArray 32)).alloc (.cells T.toArray 32)).alloc (.cells Z.toArray 32)) ∧ (((w.alloc (.cells L.toArray 32)).alloc (.cells T.toArray 32)).alloc (.cells Z.toArray 32)).heap.size = w.heap.size + 3 ∧
    Hid ((((w.alloc (.cells L.toArray 32)).alloc (.cells T.toArray 32)).alloc (.cells Z.toArray 32)).rangeAt (w.heap.size) 0 L) ∧ Hid ((((w.alloc (.cells L.toArray 32)).alloc (.cells T.toArray 32)).alloc (.cells Z.toArray 32)).there (w.heap.size) 0 21) ∧
    Hid ((((w.alloc (.cells L.toArray 32)).alloc (.cells T.toArray 32)).alloc (.cells Z.toArray 32)).rangeAt (w.heap.size + 1) 0 T) ∧ Hid ((((w.alloc (.cells L.toArray 32)).alloc (.cells T.toArray 32)).alloc (.cells Z.toArray 32)).there (w.heap.size + 2) 0 21) := by
  refine ⟨(below_two w _ _).alloc (by simp; omega) _, by simp, World.rangeAt_alloc (World.rangeAt_alloc (range_new w L 32) _) _, World.there_alloc (World.there_alloc (there_of_block (heap_alloc_last w _) (by simpa using hL)) _) _, World.rangeAt_alloc (range_two w _ T 32) _, ?_⟩
  have h := there_of_block (heap_alloc_last ((w.alloc (.cells L.toArray 32)).alloc (.cells T.toArray 32)) (.cells Z.toArray 32 (0, 0))) (n := 21) (by simpa using hZ)
  rw [show ((w.alloc (.cells L.toArray 32)).alloc (.cells T.toArray 32)).heap.size = w.heap.size + 2 by simp] at h
  exact h

set_option maxRecDepth 100000 in
set_option maxHeartbeats 1000000 in
/-- The reference's Graft at an empty path. -/
theorem rgraft_zero {w : World} {d tt : Sd} (q : Option Addr) (c : Nat) :
    Calls Tryz.prog 15 #[.agg #[.int .i64 d.s.ru, .string d.s.nm, .string d.s.ot, .bool d.s.g, .slice d.aq d.an d.ac, .slice d.cq d.cn d.cc, .int .i64 d.s.kk, .int .i64 d.s.nn, .int .i64 d.s.pr, .int .i64 d.e.k, .int .i64 d.e.f, .bool d.e.neg, .slice d.e.aq d.e.an d.e.ac, .slice d.e.cq d.e.cn d.e.cc, .string d.e.m, .slice d.e.sq d.e.sn d.e.sc, .slice d.poq d.pon d.poc, .string d.s.en, .int .i64 d.s.ve, .slice d.arq d.arn d.arc, .slice d.kiq d.kin d.kic], .slice q 0 c, .agg #[.int .i64 tt.s.ru, .string tt.s.nm, .string tt.s.ot, .bool tt.s.g, .slice tt.aq tt.an tt.ac, .slice tt.cq tt.cn tt.cc, .int .i64 tt.s.kk, .int .i64 tt.s.nn, .int .i64 tt.s.pr, .int .i64 tt.e.k, .int .i64 tt.e.f, .bool tt.e.neg, .slice tt.e.aq tt.e.an tt.e.ac, .slice tt.e.cq tt.e.cn tt.e.cc, .string tt.e.m, .slice tt.e.sq tt.e.sn tt.e.sc, .slice tt.poq tt.pon tt.poc, .string tt.s.en, .int .i64 tt.s.ve, .slice tt.arq tt.arn tt.arc, .slice tt.kiq tt.kin tt.kic]] w fun e w' => e = .returned (.tuple #[.agg tt.cells.toArray, .bool true]) ∧ Below w.heap.size w w' := by
  obtain ⟨dd, hu, hd⟩ := st_row
  have hHu : Hid (Tryz.prog.underlying 32 = some dd) := hu
  clear hu
  obtain ⟨h3, s3, D3, E3, T3, R3⟩ := three_new w [.int .i64 d.s.ru, .string d.s.nm, .string d.s.ot, .bool d.s.g, .slice d.aq d.an d.ac, .slice d.cq d.cn d.cc, .int .i64 d.s.kk, .int .i64 d.s.nn, .int .i64 d.s.pr, .int .i64 d.e.k, .int .i64 d.e.f, .bool d.e.neg, .slice d.e.aq d.e.an d.e.ac, .slice d.e.cq d.e.cn d.e.cc, .string d.e.m, .slice d.e.sq d.e.sn d.e.sc, .slice d.poq d.pon d.poc, .string d.s.en, .int .i64 d.s.ve, .slice d.arq d.arn d.arc, .slice d.kiq d.kin d.kic] [.int .i64 tt.s.ru, .string tt.s.nm, .string tt.s.ot, .bool tt.s.g, .slice tt.aq tt.an tt.ac, .slice tt.cq tt.cn tt.cc, .int .i64 tt.s.kk, .int .i64 tt.s.nn, .int .i64 tt.s.pr, .int .i64 tt.e.k, .int .i64 tt.e.f, .bool tt.e.neg, .slice tt.e.aq tt.e.an tt.e.ac, .slice tt.e.cq tt.e.cn tt.e.cc, .string tt.e.m, .slice tt.e.sq tt.e.sn tt.e.sc, .slice tt.poq tt.pon tt.poc, .string tt.s.en, .int .i64 tt.s.ve, .slice tt.arq tt.arn tt.arc, .slice tt.kiq tt.kin tt.kic] [.int .i64 0, .string ⟨#[]⟩, .string ⟨#[]⟩, .bool false, .slice none 0 0, .slice none 0 0, .int .i64 0, .int .i64 0, .int .i64 0, .int .i64 0, .int .i64 0, .bool false, .slice none 0 0, .slice none 0 0, .string ⟨#[]⟩, .slice none 0 0, .slice none 0 0, .string ⟨#[]⟩, .int .i64 0, .slice none 0 0, .slice none 0 0] rfl rfl
  go_enter Tryz.func15, Tryz.ntmps15
  go_wp2_with (first
    | (with_reducible refine wpList_load_mid (op := ⟨some 15, _, _, _, _, _⟩) ?_ 32 (.tmp 5) ?_ (w.heap.size + 1) (0) ?_ [.int .i64 tt.s.ru, .string tt.s.nm, .string tt.s.ot, .bool tt.s.g, .slice tt.aq tt.an tt.ac, .slice tt.cq tt.cn tt.cc, .int .i64 tt.s.kk, .int .i64 tt.s.nn, .int .i64 tt.s.pr, .int .i64 tt.e.k, .int .i64 tt.e.f, .bool tt.e.neg, .slice tt.e.aq tt.e.an tt.e.ac, .slice tt.e.cq tt.e.cn tt.e.cc, .string tt.e.m, .slice tt.e.sq tt.e.sn tt.e.sc, .slice tt.poq tt.pon tt.poc, .string tt.s.en, .int .i64 tt.s.ve, .slice tt.arq tt.arn tt.arc, .slice tt.kiq tt.kin tt.kic] dd ?_ hHu.out hd ?_ ?_
       rotate_left 1
       · with_reducible rfl
       · kernel_rfl
       · exact T3.out
       · exact st_size
       rotate_left 1
       · rfl)
    | (with_reducible refine wpList_store_mid ?_ 32 (.tmp 6) (.tmp 15) ?_ (w.heap.size + 2) (0) #[.int .i64 tt.s.ru, .string tt.s.nm, .string tt.s.ot, .bool tt.s.g, .slice tt.aq tt.an tt.ac, .slice tt.cq tt.cn tt.cc, .int .i64 tt.s.kk, .int .i64 tt.s.nn, .int .i64 tt.s.pr, .int .i64 tt.e.k, .int .i64 tt.e.f, .bool tt.e.neg, .slice tt.e.aq tt.e.an tt.e.ac, .slice tt.e.cq tt.e.cn tt.e.cc, .string tt.e.m, .slice tt.e.sq tt.e.sn tt.e.sc, .slice tt.poq tt.pon tt.poc, .string tt.s.en, .int .i64 tt.s.ve, .slice tt.arq tt.arn tt.arc, .slice tt.kiq tt.kin tt.kic] ?_ ?_ ?_ ?_ ?_ ?_
       rotate_left 1
       · with_reducible rfl
       · kernel_rfl
       · kernel_rfl
       · exact R3.out
       · exact st_size
       · exact all_oneCell_toArray (one_sd ⟨tt.s, tt.aq, tt.an, tt.ac, tt.cq, tt.cn, tt.cc, tt.e, tt.poq, tt.pon, tt.poc, tt.arq, tt.arn, tt.arc, tt.kiq, tt.kin, tt.kic⟩)
       rotate_left 1
       · rfl))
  generalize hw3 : World.alloc (World.alloc (World.alloc w _) _) _ = w3 at *
  obtain ⟨hW8, hs8, hb8⟩ := setCells_facts w.heap.size (w.heap.size + 2) (by omega) [.int .i64 tt.s.ru, .string tt.s.nm, .string tt.s.ot, .bool tt.s.g, .slice tt.aq tt.an tt.ac, .slice tt.cq tt.cn tt.cc, .int .i64 tt.s.kk, .int .i64 tt.s.nn, .int .i64 tt.s.pr, .int .i64 tt.e.k, .int .i64 tt.e.f, .bool tt.e.neg, .slice tt.e.aq tt.e.an tt.e.ac, .slice tt.e.cq tt.e.cn tt.e.cc, .string tt.e.m, .slice tt.e.sq tt.e.sn tt.e.sc, .slice tt.poq tt.pon tt.poc, .string tt.s.en, .int .i64 tt.s.ve, .slice tt.arq tt.arn tt.arc, .slice tt.kiq tt.kin tt.kic] 0 w _ h3
  have hr8 := World.rangeAt_setCells_same _ (w.heap.size + 2) 0 [.int .i64 tt.s.ru, .string tt.s.nm, .string tt.s.ot, .bool tt.s.g, .slice tt.aq tt.an tt.ac, .slice tt.cq tt.cn tt.cc, .int .i64 tt.s.kk, .int .i64 tt.s.nn, .int .i64 tt.s.pr, .int .i64 tt.e.k, .int .i64 tt.e.f, .bool tt.e.neg, .slice tt.e.aq tt.e.an tt.e.ac, .slice tt.e.cq tt.e.cn tt.e.cc, .string tt.e.m, .slice tt.e.sq tt.e.sn tt.e.sc, .slice tt.poq tt.pon tt.poc, .string tt.s.en, .int .i64 tt.s.ve, .slice tt.arq tt.arn tt.arc, .slice tt.kiq tt.kin tt.kic] R3.out
  change bodyPost _ _ _ _ _ (w3.setCells (w.heap.size + 2) 0 [.int .i64 tt.s.ru, .string tt.s.nm, .string tt.s.ot, .bool tt.s.g, .slice tt.aq tt.an tt.ac, .slice tt.cq tt.cn tt.cc, .int .i64 tt.s.kk, .int .i64 tt.s.nn, .int .i64 tt.s.pr, .int .i64 tt.e.k, .int .i64 tt.e.f, .bool tt.e.neg, .slice tt.e.aq tt.e.an tt.e.ac, .slice tt.e.cq tt.e.cn tt.e.cc, .string tt.e.m, .slice tt.e.sq tt.e.sn tt.e.sc, .slice tt.poq tt.pon tt.poc, .string tt.s.en, .int .i64 tt.s.ve, .slice tt.arq tt.arn tt.arc, .slice tt.kiq tt.kin tt.kic])
  generalize w3.setCells (w.heap.size + 2) 0 [.int .i64 tt.s.ru, .string tt.s.nm, .string tt.s.ot, .bool tt.s.g, .slice tt.aq tt.an tt.ac, .slice tt.cq tt.cn tt.cc, .int .i64 tt.s.kk, .int .i64 tt.s.nn, .int .i64 tt.s.pr, .int .i64 tt.e.k, .int .i64 tt.e.f, .bool tt.e.neg, .slice tt.e.aq tt.e.an tt.e.ac, .slice tt.e.cq tt.e.cn tt.e.cc, .string tt.e.m, .slice tt.e.sq tt.e.sn tt.e.sc, .slice tt.poq tt.pon tt.poc, .string tt.s.en, .int .i64 tt.s.ve, .slice tt.arq tt.arn tt.arc, .slice tt.kiq tt.kin tt.kic] = w8 at *
  refine bodyPost_ret (results_cell_tmp_mid rfl _ _ (w.heap.size + 2) _ dd rfl hr8 hHu.out hd st_size) rfl ?_
  exact ⟨rfl, hW8⟩

set_option maxRecDepth 100000 in
set_option maxHeartbeats 1000000 in
/-- The reference's Graft at an index that is none. -/
theorem rgraft_out {w : World} {d tt : Sd} (pb po n c : Nat) (I : Int) (hn0 : 0 < n) (hpb : pb < w.heap.size) (hpi : w.cell? ⟨pb, po, none⟩ = some (.int .i64 I)) (hI : I < 0 ∨ (d.kin : Int) ≤ I) :
    Calls Tryz.prog 15 #[.agg #[.int .i64 d.s.ru, .string d.s.nm, .string d.s.ot, .bool d.s.g, .slice d.aq d.an d.ac, .slice d.cq d.cn d.cc, .int .i64 d.s.kk, .int .i64 d.s.nn, .int .i64 d.s.pr, .int .i64 d.e.k, .int .i64 d.e.f, .bool d.e.neg, .slice d.e.aq d.e.an d.e.ac, .slice d.e.cq d.e.cn d.e.cc, .string d.e.m, .slice d.e.sq d.e.sn d.e.sc, .slice d.poq d.pon d.poc, .string d.s.en, .int .i64 d.s.ve, .slice d.arq d.arn d.arc, .slice d.kiq d.kin d.kic], .slice (some ⟨pb, po, none⟩) n c, .agg #[.int .i64 tt.s.ru, .string tt.s.nm, .string tt.s.ot, .bool tt.s.g, .slice tt.aq tt.an tt.ac, .slice tt.cq tt.cn tt.cc, .int .i64 tt.s.kk, .int .i64 tt.s.nn, .int .i64 tt.s.pr, .int .i64 tt.e.k, .int .i64 tt.e.f, .bool tt.e.neg, .slice tt.e.aq tt.e.an tt.e.ac, .slice tt.e.cq tt.e.cn tt.e.cc, .string tt.e.m, .slice tt.e.sq tt.e.sn tt.e.sc, .slice tt.poq tt.pon tt.poc, .string tt.s.en, .int .i64 tt.s.ve, .slice tt.arq tt.arn tt.arc, .slice tt.kiq tt.kin tt.kic]] w fun e w' => e = .returned (.tuple #[.agg zeroSd.cells.toArray, .bool false]) ∧ Below w.heap.size w w' := by
  obtain ⟨dd, hu, hd⟩ := st_row
  have hHu : Hid (Tryz.prog.underlying 32 = some dd) := hu
  clear hu
  obtain ⟨h3, s3, D3, E3, T3, R3⟩ := three_new w [.int .i64 d.s.ru, .string d.s.nm, .string d.s.ot, .bool d.s.g, .slice d.aq d.an d.ac, .slice d.cq d.cn d.cc, .int .i64 d.s.kk, .int .i64 d.s.nn, .int .i64 d.s.pr, .int .i64 d.e.k, .int .i64 d.e.f, .bool d.e.neg, .slice d.e.aq d.e.an d.e.ac, .slice d.e.cq d.e.cn d.e.cc, .string d.e.m, .slice d.e.sq d.e.sn d.e.sc, .slice d.poq d.pon d.poc, .string d.s.en, .int .i64 d.s.ve, .slice d.arq d.arn d.arc, .slice d.kiq d.kin d.kic] [.int .i64 tt.s.ru, .string tt.s.nm, .string tt.s.ot, .bool tt.s.g, .slice tt.aq tt.an tt.ac, .slice tt.cq tt.cn tt.cc, .int .i64 tt.s.kk, .int .i64 tt.s.nn, .int .i64 tt.s.pr, .int .i64 tt.e.k, .int .i64 tt.e.f, .bool tt.e.neg, .slice tt.e.aq tt.e.an tt.e.ac, .slice tt.e.cq tt.e.cn tt.e.cc, .string tt.e.m, .slice tt.e.sq tt.e.sn tt.e.sc, .slice tt.poq tt.pon tt.poc, .string tt.s.en, .int .i64 tt.s.ve, .slice tt.arq tt.arn tt.arc, .slice tt.kiq tt.kin tt.kic] [.int .i64 0, .string ⟨#[]⟩, .string ⟨#[]⟩, .bool false, .slice none 0 0, .slice none 0 0, .int .i64 0, .int .i64 0, .int .i64 0, .int .i64 0, .int .i64 0, .bool false, .slice none 0 0, .slice none 0 0, .string ⟨#[]⟩, .slice none 0 0, .slice none 0 0, .string ⟨#[]⟩, .int .i64 0, .slice none 0 0, .slice none 0 0] rfl rfl
  have cpi : ∀ o1 o2 o3, (((w.alloc o1).alloc o2).alloc o3).cell? ⟨pb, po, none⟩ = some (.int .i64 I) := fun o1 o2 o3 => by
    rw [World.cell?_alloc_lt _ _ _ (by show pb < ((w.heap.push _).push _).size; simp only [Array.size_push]; omega), World.cell?_alloc_lt _ _ _ (by show pb < (w.heap.push _).size; simp only [Array.size_push]; omega), World.cell?_alloc_lt _ _ _ (by exact hpb)]
    exact hpi
  have k20 := D3.out 20 _ rfl
  rw [Nat.zero_add] at k20
  have hn0' : ¬ (n : Int) = 0 := by omega
  have hn1' : (0 : Int) < (n : Int) := by omega
  by_cases h1 : I < 0
  · clear hI
    go_enter Tryz.func15, Tryz.ntmps15
    go_wp2_with (first
      | (with_reducible refine wpList_store_mid ?_ 32 (.tmp 6) (.tmp 28) ?_ (w.heap.size + 2) (0) #[.int .i64 0, .string ⟨#[]⟩, .string ⟨#[]⟩, .bool false, .slice none 0 0, .slice none 0 0, .int .i64 0, .int .i64 0, .int .i64 0, .int .i64 0, .int .i64 0, .bool false, .slice none 0 0, .slice none 0 0, .string ⟨#[]⟩, .slice none 0 0, .slice none 0 0, .string ⟨#[]⟩, .int .i64 0, .slice none 0 0, .slice none 0 0] ?_ ?_ ?_ ?_ ?_ ?_
         rotate_left 1
         · with_reducible rfl
         · kernel_rfl
         · kernel_rfl
         · exact R3.out
         · exact st_size
         · exact all_oneCell_toArray (one_sd ⟨⟨0, ⟨#[]⟩, ⟨#[]⟩, false, 0, 0, 0, ⟨#[]⟩, 0⟩, none, 0, 0, none, 0, 0, ⟨0, 0, false, none, 0, 0, none, 0, 0, ⟨#[]⟩, none, 0, 0⟩, none, 0, 0, none, 0, 0, none, 0, 0⟩)
         rotate_left 1
         · rfl))
    generalize hw3 : World.alloc (World.alloc (World.alloc w _) _) _ = w3 at *
    obtain ⟨hW8, hs8, hb8⟩ := setCells_facts w.heap.size (w.heap.size + 2) (by omega) [.int .i64 0, .string ⟨#[]⟩, .string ⟨#[]⟩, .bool false, .slice none 0 0, .slice none 0 0, .int .i64 0, .int .i64 0, .int .i64 0, .int .i64 0, .int .i64 0, .bool false, .slice none 0 0, .slice none 0 0, .string ⟨#[]⟩, .slice none 0 0, .slice none 0 0, .string ⟨#[]⟩, .int .i64 0, .slice none 0 0, .slice none 0 0] 0 w _ h3
    have hr8 := World.rangeAt_setCells_same _ (w.heap.size + 2) 0 [.int .i64 0, .string ⟨#[]⟩, .string ⟨#[]⟩, .bool false, .slice none 0 0, .slice none 0 0, .int .i64 0, .int .i64 0, .int .i64 0, .int .i64 0, .int .i64 0, .bool false, .slice none 0 0, .slice none 0 0, .string ⟨#[]⟩, .slice none 0 0, .slice none 0 0, .string ⟨#[]⟩, .int .i64 0, .slice none 0 0, .slice none 0 0] R3.out
    change bodyPost _ _ _ _ _ (w3.setCells (w.heap.size + 2) 0 [.int .i64 0, .string ⟨#[]⟩, .string ⟨#[]⟩, .bool false, .slice none 0 0, .slice none 0 0, .int .i64 0, .int .i64 0, .int .i64 0, .int .i64 0, .int .i64 0, .bool false, .slice none 0 0, .slice none 0 0, .string ⟨#[]⟩, .slice none 0 0, .slice none 0 0, .string ⟨#[]⟩, .int .i64 0, .slice none 0 0, .slice none 0 0])
    generalize w3.setCells (w.heap.size + 2) 0 [.int .i64 0, .string ⟨#[]⟩, .string ⟨#[]⟩, .bool false, .slice none 0 0, .slice none 0 0, .int .i64 0, .int .i64 0, .int .i64 0, .int .i64 0, .int .i64 0, .bool false, .slice none 0 0, .slice none 0 0, .string ⟨#[]⟩, .slice none 0 0, .slice none 0 0, .string ⟨#[]⟩, .int .i64 0, .slice none 0 0, .slice none 0 0] = w8 at *
    refine bodyPost_ret (results_cell_tmp_mid rfl _ _ (w.heap.size + 2) _ dd rfl hr8 hHu.out hd st_size) rfl ?_
    exact ⟨rfl, hW8⟩
  · have h2 : (d.kin : Int) ≤ I := by omega
    clear hI
    go_enter Tryz.func15, Tryz.ntmps15
    go_wp2_with (first
      | (with_reducible refine wpList_store_mid ?_ 32 (.tmp 6) (.tmp 28) ?_ (w.heap.size + 2) (0) #[.int .i64 0, .string ⟨#[]⟩, .string ⟨#[]⟩, .bool false, .slice none 0 0, .slice none 0 0, .int .i64 0, .int .i64 0, .int .i64 0, .int .i64 0, .int .i64 0, .bool false, .slice none 0 0, .slice none 0 0, .string ⟨#[]⟩, .slice none 0 0, .slice none 0 0, .string ⟨#[]⟩, .int .i64 0, .slice none 0 0, .slice none 0 0] ?_ ?_ ?_ ?_ ?_ ?_
         rotate_left 1
         · with_reducible rfl
         · kernel_rfl
         · kernel_rfl
         · exact R3.out
         · exact st_size
         · exact all_oneCell_toArray (one_sd ⟨⟨0, ⟨#[]⟩, ⟨#[]⟩, false, 0, 0, 0, ⟨#[]⟩, 0⟩, none, 0, 0, none, 0, 0, ⟨0, 0, false, none, 0, 0, none, 0, 0, ⟨#[]⟩, none, 0, 0⟩, none, 0, 0, none, 0, 0, none, 0, 0⟩)
         rotate_left 1
         · rfl))
    generalize hw3 : World.alloc (World.alloc (World.alloc w _) _) _ = w3 at *
    obtain ⟨hW8, hs8, hb8⟩ := setCells_facts w.heap.size (w.heap.size + 2) (by omega) [.int .i64 0, .string ⟨#[]⟩, .string ⟨#[]⟩, .bool false, .slice none 0 0, .slice none 0 0, .int .i64 0, .int .i64 0, .int .i64 0, .int .i64 0, .int .i64 0, .bool false, .slice none 0 0, .slice none 0 0, .string ⟨#[]⟩, .slice none 0 0, .slice none 0 0, .string ⟨#[]⟩, .int .i64 0, .slice none 0 0, .slice none 0 0] 0 w _ h3
    have hr8 := World.rangeAt_setCells_same _ (w.heap.size + 2) 0 [.int .i64 0, .string ⟨#[]⟩, .string ⟨#[]⟩, .bool false, .slice none 0 0, .slice none 0 0, .int .i64 0, .int .i64 0, .int .i64 0, .int .i64 0, .int .i64 0, .bool false, .slice none 0 0, .slice none 0 0, .string ⟨#[]⟩, .slice none 0 0, .slice none 0 0, .string ⟨#[]⟩, .int .i64 0, .slice none 0 0, .slice none 0 0] R3.out
    change bodyPost _ _ _ _ _ (w3.setCells (w.heap.size + 2) 0 [.int .i64 0, .string ⟨#[]⟩, .string ⟨#[]⟩, .bool false, .slice none 0 0, .slice none 0 0, .int .i64 0, .int .i64 0, .int .i64 0, .int .i64 0, .int .i64 0, .bool false, .slice none 0 0, .slice none 0 0, .string ⟨#[]⟩, .slice none 0 0, .slice none 0 0, .string ⟨#[]⟩, .int .i64 0, .slice none 0 0, .slice none 0 0])
    generalize w3.setCells (w.heap.size + 2) 0 [.int .i64 0, .string ⟨#[]⟩, .string ⟨#[]⟩, .bool false, .slice none 0 0, .slice none 0 0, .int .i64 0, .int .i64 0, .int .i64 0, .int .i64 0, .int .i64 0, .bool false, .slice none 0 0, .slice none 0 0, .string ⟨#[]⟩, .slice none 0 0, .slice none 0 0, .string ⟨#[]⟩, .int .i64 0, .slice none 0 0, .slice none 0 0] = w8 at *
    refine bodyPost_ret (results_cell_tmp_mid rfl _ _ (w.heap.size + 2) _ dd rfl hr8 hHu.out hd st_size) rfl ?_
    exact ⟨rfl, hW8⟩

theorem range_set {w : World} {b : Nat} {cs : List Value} {j : Nat} (h : w.rangeAt b 0 cs) (hj : j < cs.length) (v : Value) : (w.setCell ⟨b, j, none⟩ v).rangeAt b 0 (cs.set j v) := by
  intro i u hu
  by_cases he : i = j
  · subst he
    rw [List.getElem?_set_self hj] at hu
    cases hu
    rw [Nat.zero_add]
    have hc := h i _ (List.getElem?_eq_getElem hj)
    rw [Nat.zero_add] at hc
    exact World.cell?_setCell_same _ _ _ hc
  · rw [List.getElem?_set_ne (fun e => he e.symm)] at hu
    have hc := h i u hu
    rw [Nat.zero_add] at hc ⊢
    rw [World.cell?_setCell_other _ _ _ _ (fun e => by simp only [Addr.mk.injEq] at e; omega)]
    exact hc
theorem there_set {w : World} {b n : Nat} (h : w.there b 0 n) (g j : Nat) (v : Value) : (w.setCell ⟨g, j, none⟩ v).there b 0 n := World.there_setCells h g j [v]

/-- What stands behind the store of the kid's result. -/
theorem graft_stored {w z w5 wq : World} {N G : Nat} {Y : St} {k : Sd} {L : List Value} (ks : List Value) (hks : ks = k.cells) (hN : N ≤ w.heap.size) (hz : Below w.heap.size w z) (s3 : w.heap.size + 3 ≤ z.heap.size) (hb5 : Below z.heap.size z w5)
    (kA : StA w5 (fun b => b < N ∨ Fresh z w5 b) Y k) (hD : z.rangeAt w.heap.size 0 L) (hE : z.there w.heap.size 0 21) (hR : z.there (w.heap.size + 2) 0 21)
    (hq : wq = w5 ∧ w.heap.size + 3 ≤ G ∧ G < z.heap.size ∨ ∃ ob, wq = w5.alloc ob ∧ G = w5.heap.size) (hG : wq.there G 0 21) :
    (wq.setCells G 0 ks).rangeAt G 0 ks ∧ (wq.setCells G 0 ks).rangeAt w.heap.size 0 L ∧ (wq.setCells G 0 ks).there w.heap.size 0 21 ∧ (wq.setCells G 0 ks).there (w.heap.size + 2) 0 21 ∧
    Below w.heap.size w (wq.setCells G 0 ks) ∧ StA (wq.setCells G 0 ks) (fun b => b < N ∨ w.heap.size + 3 ≤ b ∧ b < (wq.setCells G 0 ks).heap.size ∧ b ≠ G) Y k ∧ w.heap.size + 3 ≤ G ∧ G < (wq.setCells G 0 ks).heap.size := by
  have s5 := hb5.size
  have hl : ks.length = 21 := by rw [hks]; rfl
  have hbq : Below w.heap.size w wq ∧ w.heap.size + 3 ≤ G ∧ G < wq.heap.size ∧ wq.rangeAt w.heap.size 0 L ∧ wq.there w.heap.size 0 21 ∧ wq.there (w.heap.size + 2) 0 21 ∧ StA wq (fun b => b < N ∨ w.heap.size + 3 ≤ b ∧ b < wq.heap.size ∧ b ≠ G) Y k := by
    have hw5 : Below w.heap.size w w5 := hz.trans (hb5.mono (by omega))
    have d5 : w5.rangeAt w.heap.size 0 L := rangeAt_below hD hb5 (by omega)
    have e5 : w5.there w.heap.size 0 21 := there_below hE hb5 (by omega)
    have r5 : w5.there (w.heap.size + 2) 0 21 := there_below hR hb5 (by omega)
    rcases hq with ⟨rfl, h1, h2⟩ | ⟨ob, rfl, rfl⟩
    · refine ⟨hw5, h1, by omega, d5, e5, r5, kA.keep (Keeps.refl _ _) (fun b hb => hb.imp id fun hf => ?_)⟩
      have f1 := hf.1
      have f2 := hf.2
      exact ⟨by omega, f2, by omega⟩
    · have sq : (w5.alloc ob).heap.size = w5.heap.size + 1 := by simp
      refine ⟨hw5.alloc (by omega) _, by omega, by omega, World.rangeAt_alloc d5 _, World.there_alloc e5 _, World.there_alloc r5 _, kA.keep ((keeps_below (below_one w5 ob)).mono fun b hb => ?_) (fun b hb => hb.imp id fun hf => ?_)⟩
      · rcases hb with h | h
        · show b < _; omega
        · exact h.2
      · have f1 := hf.1
        have f2 := hf.2
        exact ⟨by omega, by omega, by omega⟩
  obtain ⟨q1, q2, q3, q4, q5, q6, q7⟩ := hbq
  obtain ⟨hW, hs, hb⟩ := setCells_facts w.heap.size G (by omega) ks 0 w wq q1
  refine ⟨World.rangeAt_setCells_same wq G 0 ks (by rw [hl]; exact hG), World.rangeAt_setCells_apart q4 G 0 ks (.inl (by omega)), World.there_setCells q5 _ _ _, World.there_setCells q6 _ _ _, hW, ?_, q2, by rw [hs]; exact q3⟩
  rw [hs]
  refine q7.keep (fun b hb' => hb b ?_) (fun b hb => hb)
  rcases hb' with h | h
  · omega
  · exact h.2.2

theorem flat_len {α : Type} {s : Nat} {f : α → List Value} (hs : ∀ a, (f a).length = s) : ∀ (L : List α), (L.flatMap f).length = L.length * s
  | [] => by simp
  | a :: L => by rw [List.flatMap_cons, List.length_append, hs, flat_len hs L, List.length_cons, Nat.add_mul]; omega

/-- The cells of elements that lie one behind the other. -/
theorem flat_cells {w : World} {b o n : Nat} {ds : Nat → Sd} (h : ∀ j, j < n → w.rangeAt b (o + j * 21) (ds j).cells) :
    ∀ j u, (((List.range n).map ds).flatMap Sd.cells)[j]? = some u → w.cell? ((⟨b, o, none⟩ : Addr).add j) = some u := by
  intro j u hu
  have hl : j < n * 21 := by
    have := (List.getElem?_eq_some_iff.1 hu).1
    rw [flat_len (s := 21) Sd.len] at this
    simpa using this
  have hq : j / 21 < n := by omega
  have hm : j % 21 < 21 := by omega
  have he : j = j / 21 * 21 + j % 21 := by omega
  rw [he, flat_get (s := 21) Sd.len ((List.range n).map ds) (j / 21) (j % 21) (ds (j / 21)) (by simp [hq]) hm] at hu
  rw [Addr.add_mid, he, ← Nat.add_assoc]
  exact h (j / 21) hq (j % 21) u hu

theorem one_flat (n : Nat) (ds : Nat → Sd) : ∀ u ∈ ((List.range n).map ds).flatMap Sd.cells, u.oneCell' = true := by
  intro u hu
  obtain ⟨x, _, hx⟩ := List.mem_flatMap.1 hu
  exact one_sd x u hx

theorem owns_there {w : World} {base : Nat} {e : TypeId} {g n c i : Nat} {ds : Nat → Sd} (h : w.ownsRow base e 21 (.slice (some ⟨g, 0, none⟩) n c) n (((List.range n).map ds).flatMap Sd.cells)) (hi : i < n) : w.there g (i * 21) 21 := by
  intro j hj
  have hr := owns_range (s := 21) Sd.len h (i := i) (a := ds i) (by simp [hi])
  have hc : ∃ v, (ds i).cells[j]? = some v := ⟨_, List.getElem?_eq_getElem (by rw [Sd.len]; exact hj)⟩
  obtain ⟨v, hv⟩ := hc
  have := hr j v hv
  rw [Nat.zero_add] at this
  exact ⟨by rw [this]; rfl, h.frozenAt _⟩

theorem graft_row {w : World} {base : Nat} {e : TypeId} {g n c i : Nat} {ds : Nat → Sd} (k : Sd) (ks : List Value) (hks : ks = k.cells) (h : w.ownsRow base e 21 (.slice (some ⟨g, 0, none⟩) n c) n (((List.range n).map ds).flatMap Sd.cells)) (hi : i < n) :
    ∀ j, j < n → (w.setCells g (i * 21) ks).rangeAt g (0 + j * 21) (if j = i then k else ds j).cells := by
  intro j hj
  by_cases he : j = i
  · subst he
    rw [if_pos rfl, Nat.zero_add]
    exact (hks ▸ World.rangeAt_setCells_same w g (j * 21) ks (by rw [hks]; exact owns_there h hi))
  · rw [if_neg he]
    refine World.rangeAt_setCells_apart (owns_range (s := 21) Sd.len h (by simp [hj])) g (i * 21) ks (.inr ?_)
    have l1 : (ds j).cells.length = 21 := rfl
    have l2 : ks.length = 21 := by rw [hks]; rfl
    omega
end Go.Proofs.YtlmifjdbjhcceaaGreatDoor
