/-
  The reference's Graft whole; CheckPicks out of its parts.
-/
import Derived.Test.YtlmifjdbjhcceaaGreatDoorDvP
import Derived.Test.YtlmifjdbjhcceaaGreatDoorDvN
namespace Go.Proofs.YtlmifjdbjhcceaaGreatDoor
open Go Go.RowKit

/-- The reference's Graft: what it returns lies where its arguments lie, or in new memory. -/
theorem rgraft_ok {T : St} {tt : Sd} : ∀ (p : List Int) (X : St) (d : Sd) (w : World) (q : Option Addr) (c N : Nat), N ≤ w.heap.size → StA w (· < N) X d → StSmall X → StA w (· < N) T tt → PaOk w q p.length p → p.length ≤ c → c ≤ maxLen →
    Calls Tryz.prog 15 #[d.val, .slice q p.length c, tt.val] w fun e w' =>
      (X.pick p = none ∧ e = .returned (.tuple #[.agg zeroSd.cells.toArray, .bool false]) ∧ Below w.heap.size w w') ∨
      ∃ Y d', X.pick p = some Y ∧ e = .returned (.tuple #[Sd.val d', .bool true]) ∧ StA w' (fun b => b < N ∨ Fresh w w' b) (St.graft p X T) d' ∧ Below w.heap.size w w'
  | [], X, d, w, q, c, N, hN, hX, hs, hT, _, _, _ => by
    refine (rgraft_zero (d := d) (tt := tt) q c).mono ?_
    rintro e w' ⟨rfl, hb⟩
    exact .inr ⟨X, tt, rfl, rfl, hT.keep ((keeps_below hb).mono fun b h => Nat.lt_of_lt_of_le h hN) (fun b h => .inl h), hb⟩
  | I :: r, .non, d, w, q, c, N, hN, hX, hs, hT, hp, hc, hm => hX.elim
  | I :: r, .mk s nu de x pn ps bn bs n ki, d, w, q, c, N, hN, hX, hs, hT, hp, hc, hm => by
    have hX' := hX
    obtain ⟨_, hpl, hpc⟩ := hp
    rcases hpc with h0 | ⟨pb, po, rfl, hpb, hpi⟩
    · simp at h0
    have hl : (I :: r).length - 1 = r.length := by simp
    have hp0 : w.cell? ⟨pb, po, none⟩ = some (.int .i64 I) := by have h := hpi 0 (by simp); simpa using h
    by_cases hI : I < 0 ∨ (d.kin : Int) ≤ I
    · refine (rgraft_out (d := d) (tt := tt) pb po (I :: r).length c I (by simp) hpb hp0 hI).mono ?_
      rintro e w' ⟨rfl, hb⟩
      refine .inl ⟨?_, rfl, hb⟩
      simp only [St.pick]
      rw [kid_none hX' hI]
    · obtain ⟨i, rfl⟩ := Int.eq_ofNat_of_zero_le (show 0 ≤ I by omega)
      have hi : i < d.kin := by omega
      unfold StA at hX
      obtain ⟨⟨rfl, rfl, rfl, rfl⟩, h2, h3, h4, h5, h6, h7, h8, h9, h10⟩ := hX
      rcases h10 with h0 | ⟨b, o, hq, hb, ds, hds⟩
      · omega
      unfold StSmall at hs
      obtain ⟨_, _, _, _, s5, s6⟩ := hs
      have hpick : ∀ T', (St.mk d.s nu de x d.pon ps d.arn bs d.kin ki).pick ((i : Int) :: r) = T' ↔ (ki i).pick r = T' := by
        intro T'
        simp only [St.pick, St.kid]
        rw [if_pos (by omega)]
        simp
      have hpa : ∀ z, Below w.heap.size w z → PaOk z (if c = 1 then some (⟨pb, po, none⟩ : Addr) else some ⟨pb, po + 1, none⟩) r.length r := by
        intro z hz
        refine ⟨rfl, by simp at hpl; omega, ?_⟩
        by_cases hr : r.length = 0
        · exact .inl hr
        · refine .inr ⟨pb, po + 1, ?_, Nat.lt_of_lt_of_le hpb hz.size, fun j hj => ?_⟩
          · rw [if_neg (by simp at hc; omega)]
          · have h := hpi (j + 1) (by simp; omega)
            rw [hz.cell (by exact hpb), show po + 1 + j = po + (j + 1) by omega, h]
            simp
      have hR : ∀ z, Below w.heap.size w z → _ := fun z hz => rgraft_ok (T := T) (tt := tt) r (ki i) (ds i) z _ (c - 1) N (Nat.le_trans hN hz.size) ((hds i hi).2.keep ((keeps_below hz).mono fun b h => Nat.lt_of_lt_of_le h hN) (fun b h => h)) (s6 i hi)
        (hT.keep ((keeps_below hz).mono fun b h => Nat.lt_of_lt_of_le h hN) (fun b h => h)) (hpa z hz) (by simp at hc; omega) (by omega)
      cases d with
      | mk ss aq an ac cq cn cc ee poq pon poc arq arn arc kiq kin kic =>
      simp only at hq
      subst hq
      cases hk : (ki i).pick r with
      | none =>
        refine (rgraft_in_none (tt := tt) (d := ⟨ss, aq, an, ac, cq, cn, cc, ee, poq, pon, poc, arq, arn, arc, some ⟨b, o, none⟩, kin, kic⟩) (ki i) N hN ds b o pb po (((i : Int) :: r).length) c i hi s5 hb (fun j hj => (hds j hj).1) (by simp) hc hm hpl hpb hp0 _ rfl (fun z hz => ?_)).mono ?_
        · rw [hl]
          refine (hR z hz).mono ?_
          rintro e w' (⟨_, rfl, hb'⟩ | ⟨Y, d', h, _⟩)
          · exact ⟨rfl, hb'⟩
          · rw [hk] at h; cases h
        · rintro e w' ⟨rfl, hb'⟩
          exact .inl ⟨(hpick _).2 hk, rfl, hb'⟩
      | some Y =>
        refine (rgraft_in_some (tt := tt) (d := ⟨ss, aq, an, ac, cq, cn, cc, ee, poq, pon, poc, arq, arn, arc, some ⟨b, o, none⟩, kin, kic⟩) (St.graft r (ki i) T) N hN ds b o pb po (((i : Int) :: r).length) c i hi s5 hb (fun j hj => (hds j hj).1) (by simp) hc hm hpl hpb hp0 _ rfl (fun z hz => ?_)).mono ?_
        · rw [hl]
          refine (hR z hz).mono ?_
          rintro e w' (⟨h, _⟩ | ⟨Y', d', _, rfl, hA, hb'⟩)
          · rw [hk] at h; cases h
          · exact ⟨d', rfl, hA, hb'⟩
        · rintro e w' ⟨g, cap, k, rfl, hg1, hg2, hrow, hA, hb'⟩
          have kp : Keeps (· < N) w w' := (keeps_below hb').mono fun b h => Nat.lt_of_lt_of_le h hN
          refine .inr ⟨Y, ⟨ss, aq, an, ac, cq, cn, cc, ee, poq, pon, poc, arq, arn, arc, some ⟨g, 0, none⟩, kin, cap⟩, (hpick _).2 hk, rfl, ?_, hb'⟩
          simp only [St.graft]
          unfold StA
          refine ⟨⟨rfl, rfl, rfl, rfl⟩, h2.keep kp (fun b h => .inl h), h3.keep kp (fun b h => .inl h), h4, h5, h6.keep kp (fun b h => .inl h), h7.keep kp (fun b h => .inl h), h8.keep kp (fun b h => .inl h), h9,
            .inr ⟨g, 0, rfl, .inr ⟨hg1, hg2⟩, fun j => if j = i then k else ds j, fun j hj => ⟨hrow j hj, ?_⟩⟩⟩
          by_cases hj' : j = i
          · subst hj'
            simp only [if_true]
            exact hA
          · simp only [if_neg hj']
            rw [if_neg (by omega)]
            exact (hds j hj).2.keep kp (fun b h => .inl h)
end Go.Proofs.YtlmifjdbjhcceaaGreatDoor

namespace Go.Proofs.YtlmifjdbjhcceaaGreatDoor
open Go Go.RowKit

set_option maxRecDepth 100000 in
set_option maxHeartbeats 2000000 in
/-- CheckPicks where the path leads to a step. -/
theorem picks_true {w : World} {d tt : Sd} {q : Option Addr} {n c0 : Nat} {Y G : St}
    (hP : ∀ z, Below w.heap.size w z → Calls Tryz.prog 12 #[.agg d.cells.toArray, .slice q n c0] z fun e w' => ∃ a : Sd, e = .returned (.tuple #[.agg a.cells.toArray, .bool true]) ∧ StOk w' Y a ∧ Below z.heap.size z w')
    (hQ : ∀ z, Below w.heap.size w z → Calls Tryz.prog 13 #[.agg d.cells.toArray, .slice q n c0] z fun e w' => ∃ a : Sd, e = .returned (.tuple #[.agg a.cells.toArray, .bool true]) ∧ StOk w' Y a ∧ Below z.heap.size z w')
    (hG : ∀ z, Below w.heap.size w z → Calls Tryz.prog 14 #[.agg d.cells.toArray, .slice q n c0, .agg tt.cells.toArray] z fun e w' => ∃ a : Sd, e = .returned (.tuple #[.agg a.cells.toArray, .bool true]) ∧ StOk w' G a ∧ Below z.heap.size z w')
    (hR : ∀ z, Below w.heap.size w z → Calls Tryz.prog 15 #[.agg d.cells.toArray, .slice q n c0, .agg tt.cells.toArray] z fun e w' => ∃ a : Sd, e = .returned (.tuple #[.agg a.cells.toArray, .bool true]) ∧ StOk w' G a ∧ Below z.heap.size z w')
    (hE1 : ∀ (z : World) (y y' : Sd), Below w.heap.size w z → StOk z Y y → StOk z Y y' → Calls Tryz.prog 11 #[.agg y.cells.toArray, .agg y'.cells.toArray] z fun e w' => e = .returned (.bool true) ∧ Below z.heap.size z w')
    (hE2 : ∀ (z : World) (y y' : Sd), Below w.heap.size w z → StOk z G y → StOk z G y' → Calls Tryz.prog 11 #[.agg y.cells.toArray, .agg y'.cells.toArray] z fun e w' => e = .returned (.bool true) ∧ Below z.heap.size z w')
    (hA : ∀ z, Below w.heap.size w z → Calls Tryz.prog 9 #[] z fun e w' => e = .returned (.bool true) ∧ Below z.heap.size z w') :
    Calls Tryz.prog 5 #[.agg #[.int .i64 d.s.ru, .string d.s.nm, .string d.s.ot, .bool d.s.g, .slice d.aq d.an d.ac, .slice d.cq d.cn d.cc, .int .i64 d.s.kk, .int .i64 d.s.nn, .int .i64 d.s.pr, .int .i64 d.e.k, .int .i64 d.e.f, .bool d.e.neg, .slice d.e.aq d.e.an d.e.ac, .slice d.e.cq d.e.cn d.e.cc, .string d.e.m, .slice d.e.sq d.e.sn d.e.sc, .slice d.poq d.pon d.poc, .string d.s.en, .int .i64 d.s.ve, .slice d.arq d.arn d.arc, .slice d.kiq d.kin d.kic], .agg #[.int .i64 tt.s.ru, .string tt.s.nm, .string tt.s.ot, .bool tt.s.g, .slice tt.aq tt.an tt.ac, .slice tt.cq tt.cn tt.cc, .int .i64 tt.s.kk, .int .i64 tt.s.nn, .int .i64 tt.s.pr, .int .i64 tt.e.k, .int .i64 tt.e.f, .bool tt.e.neg, .slice tt.e.aq tt.e.an tt.e.ac, .slice tt.e.cq tt.e.cn tt.e.cc, .string tt.e.m, .slice tt.e.sq tt.e.sn tt.e.sc, .slice tt.poq tt.pon tt.poc, .string tt.s.en, .int .i64 tt.s.ve, .slice tt.arq tt.arn tt.arc, .slice tt.kiq tt.kin tt.kic], .slice q n c0] w fun e w' => e = .returned (.bool true) ∧ Below w.heap.size w w' := by
  obtain ⟨dd, hu, hd⟩ := st_row
  have hHu : Hid (Tryz.prog.underlying 32 = some dd) := hu
  clear hu
  have h0 : Below w.heap.size w ((w.alloc (.cells #[.int .i64 d.s.ru, .string d.s.nm, .string d.s.ot, .bool d.s.g, .slice d.aq d.an d.ac, .slice d.cq d.cn d.cc, .int .i64 d.s.kk, .int .i64 d.s.nn, .int .i64 d.s.pr, .int .i64 d.e.k, .int .i64 d.e.f, .bool d.e.neg, .slice d.e.aq d.e.an d.e.ac, .slice d.e.cq d.e.cn d.e.cc, .string d.e.m, .slice d.e.sq d.e.sn d.e.sc, .slice d.poq d.pon d.poc, .string d.s.en, .int .i64 d.s.ve, .slice d.arq d.arn d.arc, .slice d.kiq d.kin d.kic] 32)).alloc (.cells #[.int .i64 tt.s.ru, .string tt.s.nm, .string tt.s.ot, .bool tt.s.g, .slice tt.aq tt.an tt.ac, .slice tt.cq tt.cn tt.cc, .int .i64 tt.s.kk, .int .i64 tt.s.nn, .int .i64 tt.s.pr, .int .i64 tt.e.k, .int .i64 tt.e.f, .bool tt.e.neg, .slice tt.e.aq tt.e.an tt.e.ac, .slice tt.e.cq tt.e.cn tt.e.cc, .string tt.e.m, .slice tt.e.sq tt.e.sn tt.e.sc, .slice tt.poq tt.pon tt.poc, .string tt.s.en, .int .i64 tt.s.ve, .slice tt.arq tt.arn tt.arc, .slice tt.kiq tt.kin tt.kic] 32)) := below_two w _ _
  have s0 : ((w.alloc (.cells #[.int .i64 d.s.ru, .string d.s.nm, .string d.s.ot, .bool d.s.g, .slice d.aq d.an d.ac, .slice d.cq d.cn d.cc, .int .i64 d.s.kk, .int .i64 d.s.nn, .int .i64 d.s.pr, .int .i64 d.e.k, .int .i64 d.e.f, .bool d.e.neg, .slice d.e.aq d.e.an d.e.ac, .slice d.e.cq d.e.cn d.e.cc, .string d.e.m, .slice d.e.sq d.e.sn d.e.sc, .slice d.poq d.pon d.poc, .string d.s.en, .int .i64 d.s.ve, .slice d.arq d.arn d.arc, .slice d.kiq d.kin d.kic] 32)).alloc (.cells #[.int .i64 tt.s.ru, .string tt.s.nm, .string tt.s.ot, .bool tt.s.g, .slice tt.aq tt.an tt.ac, .slice tt.cq tt.cn tt.cc, .int .i64 tt.s.kk, .int .i64 tt.s.nn, .int .i64 tt.s.pr, .int .i64 tt.e.k, .int .i64 tt.e.f, .bool tt.e.neg, .slice tt.e.aq tt.e.an tt.e.ac, .slice tt.e.cq tt.e.cn tt.e.cc, .string tt.e.m, .slice tt.e.sq tt.e.sn tt.e.sc, .slice tt.poq tt.pon tt.poc, .string tt.s.en, .int .i64 tt.s.ve, .slice tt.arq tt.arn tt.arc, .slice tt.kiq tt.kin tt.kic] 32)).heap.size = w.heap.size + 2 := by simp
  have D0 : Hid (((w.alloc (.cells #[.int .i64 d.s.ru, .string d.s.nm, .string d.s.ot, .bool d.s.g, .slice d.aq d.an d.ac, .slice d.cq d.cn d.cc, .int .i64 d.s.kk, .int .i64 d.s.nn, .int .i64 d.s.pr, .int .i64 d.e.k, .int .i64 d.e.f, .bool d.e.neg, .slice d.e.aq d.e.an d.e.ac, .slice d.e.cq d.e.cn d.e.cc, .string d.e.m, .slice d.e.sq d.e.sn d.e.sc, .slice d.poq d.pon d.poc, .string d.s.en, .int .i64 d.s.ve, .slice d.arq d.arn d.arc, .slice d.kiq d.kin d.kic] 32)).alloc (.cells #[.int .i64 tt.s.ru, .string tt.s.nm, .string tt.s.ot, .bool tt.s.g, .slice tt.aq tt.an tt.ac, .slice tt.cq tt.cn tt.cc, .int .i64 tt.s.kk, .int .i64 tt.s.nn, .int .i64 tt.s.pr, .int .i64 tt.e.k, .int .i64 tt.e.f, .bool tt.e.neg, .slice tt.e.aq tt.e.an tt.e.ac, .slice tt.e.cq tt.e.cn tt.e.cc, .string tt.e.m, .slice tt.e.sq tt.e.sn tt.e.sc, .slice tt.poq tt.pon tt.poc, .string tt.s.en, .int .i64 tt.s.ve, .slice tt.arq tt.arn tt.arc, .slice tt.kiq tt.kin tt.kic] 32)).rangeAt w.heap.size 0 d.cells) := World.rangeAt_alloc (range_new w d.cells 32) _
  have T0 : Hid (((w.alloc (.cells #[.int .i64 d.s.ru, .string d.s.nm, .string d.s.ot, .bool d.s.g, .slice d.aq d.an d.ac, .slice d.cq d.cn d.cc, .int .i64 d.s.kk, .int .i64 d.s.nn, .int .i64 d.s.pr, .int .i64 d.e.k, .int .i64 d.e.f, .bool d.e.neg, .slice d.e.aq d.e.an d.e.ac, .slice d.e.cq d.e.cn d.e.cc, .string d.e.m, .slice d.e.sq d.e.sn d.e.sc, .slice d.poq d.pon d.poc, .string d.s.en, .int .i64 d.s.ve, .slice d.arq d.arn d.arc, .slice d.kiq d.kin d.kic] 32)).alloc (.cells #[.int .i64 tt.s.ru, .string tt.s.nm, .string tt.s.ot, .bool tt.s.g, .slice tt.aq tt.an tt.ac, .slice tt.cq tt.cn tt.cc, .int .i64 tt.s.kk, .int .i64 tt.s.nn, .int .i64 tt.s.pr, .int .i64 tt.e.k, .int .i64 tt.e.f, .bool tt.e.neg, .slice tt.e.aq tt.e.an tt.e.ac, .slice tt.e.cq tt.e.cn tt.e.cc, .string tt.e.m, .slice tt.e.sq tt.e.sn tt.e.sc, .slice tt.poq tt.pon tt.poc, .string tt.s.en, .int .i64 tt.s.ve, .slice tt.arq tt.arn tt.arc, .slice tt.kiq tt.kin tt.kic] 32)).rangeAt (w.heap.size + 1) 0 tt.cells) := range_two w _ tt.cells 32
  go_enter Tryz.func5, Tryz.ntmps5
  go_wp2_with (first
    | (with_reducible refine wpList_load_mid (op := ⟨some 16, _, _, _, _, _⟩) ?_ 32 (.tmp 3) ?_ (w.heap.size) 0 ?_ d.cells dd ?_ hHu.out hd ?_ ?_
       rotate_left 1
       · with_reducible rfl
       · kernel_rfl
       · exact D0.out
       · exact st_size
       rotate_left 1
       · rfl)
    | (go_at_call 12; with_reducible refine (hP _ h0).mono ?_; rintro e w1 ⟨a, rfl, R1, hb1⟩
       have s1 := hb1.size
       have W1 := h0.trans (hb1.mono h0.size)
       have D1 : Hid (w1.rangeAt (w.heap.size) 0 d.cells) := rangeAt_below (D0.out) hb1 (by omega)
       have T1 : Hid (w1.rangeAt (w.heap.size + 1) 0 tt.cells) := rangeAt_below (T0.out) hb1 (by omega)
       have z1 : (w1.alloc (.cells a.cells.toArray 32)).heap.size = w1.heap.size + 1 := by simp
       have V1 : Below w.heap.size w (w1.alloc (.cells a.cells.toArray 32)) := W1.alloc (by omega) _
       have a1 : Hid ((w1.alloc (.cells a.cells.toArray 32)).rangeAt w1.heap.size 0 a.cells) := range_new _ _ _)
    | (with_reducible refine wpList_store_new ?_ 32 (.tmp 7) (.tmp 19) ?_ a.cells.toArray (w1.heap.size) rfl ?_ ?_ ?_ ?_ ?_ ?_
       rotate_left 1
       · with_reducible rfl
       · rfl
       · rfl
       · rfl
       · exact st_size
       · exact a.one
       rotate_left 1
       · rfl)
    | (with_reducible refine wpList_load_mid (op := ⟨some 22, _, _, _, _, _⟩) ?_ 32 (.tmp 3) ?_ (w.heap.size) 0 ?_ d.cells dd ?_ hHu.out hd ?_ ?_
       rotate_left 1
       · with_reducible rfl
       · kernel_rfl
       · exact World.rangeAt_alloc D1.out _
       · exact st_size
       rotate_left 1
       · rfl)
    | (go_at_call 13; with_reducible refine (hQ _ V1).mono ?_; rintro e w2 ⟨b, rfl, R2, hb2⟩
       have s2 := hb2.size
       have W2 := V1.trans (hb2.mono V1.size)
       have D2 : Hid (w2.rangeAt (w.heap.size) 0 d.cells) := rangeAt_below (World.rangeAt_alloc D1.out _) hb2 (by omega)
       have T2 : Hid (w2.rangeAt (w.heap.size + 1) 0 tt.cells) := rangeAt_below (World.rangeAt_alloc T1.out _) hb2 (by omega)
       have a2 : Hid (w2.rangeAt (w1.heap.size) 0 a.cells) := rangeAt_below (a1.out) hb2 (by omega)
       have Sa2 := (R1.below (below_one w1 _)).below hb2
       have z2 : (w2.alloc (.cells b.cells.toArray 32)).heap.size = w2.heap.size + 1 := by simp
       have V2 : Below w.heap.size w (w2.alloc (.cells b.cells.toArray 32)) := W2.alloc (by omega) _
       have b2 : Hid ((w2.alloc (.cells b.cells.toArray 32)).rangeAt w2.heap.size 0 b.cells) := range_new _ _ _)
    | (with_reducible refine wpList_store_new ?_ 32 (.tmp 9) (.tmp 25) ?_ b.cells.toArray (w2.heap.size) rfl ?_ ?_ ?_ ?_ ?_ ?_
       rotate_left 1
       · with_reducible rfl
       · rfl
       · rfl
       · rfl
       · exact st_size
       · exact b.one
       rotate_left 1
       · rfl)
    | (with_reducible refine wpList_load_mid (op := ⟨some 28, _, _, _, _, _⟩) ?_ 32 (.tmp 3) ?_ (w.heap.size) 0 ?_ d.cells dd ?_ hHu.out hd ?_ ?_
       rotate_left 1
       · with_reducible rfl
       · kernel_rfl
       · exact World.rangeAt_alloc D2.out _
       · exact st_size
       rotate_left 1
       · rfl)
    | (with_reducible refine wpList_load_mid (op := ⟨some 30, _, _, _, _, _⟩) ?_ 32 (.tmp 4) ?_ (w.heap.size + 1) 0 ?_ tt.cells dd ?_ hHu.out hd ?_ ?_
       rotate_left 1
       · with_reducible rfl
       · kernel_rfl
       · exact World.rangeAt_alloc T2.out _
       · exact st_size
       rotate_left 1
       · rfl)
    | (go_at_call 14; with_reducible refine (hG _ V2).mono ?_; rintro e w3 ⟨c, rfl, R3, hb3⟩
       have s3 := hb3.size
       have W3 := V2.trans (hb3.mono V2.size)
       have D3 : Hid (w3.rangeAt (w.heap.size) 0 d.cells) := rangeAt_below (World.rangeAt_alloc D2.out _) hb3 (by omega)
       have T3 : Hid (w3.rangeAt (w.heap.size + 1) 0 tt.cells) := rangeAt_below (World.rangeAt_alloc T2.out _) hb3 (by omega)
       have a3 : Hid (w3.rangeAt (w1.heap.size) 0 a.cells) := rangeAt_below (World.rangeAt_alloc a2.out _) hb3 (by omega)
       have b3 : Hid (w3.rangeAt (w2.heap.size) 0 b.cells) := rangeAt_below (b2.out) hb3 (by omega)
       have Sa3 := (Sa2.below (below_one w2 _)).below hb3
       have Sb3 := (R2.below (below_one w2 _)).below hb3
       have z3 : (w3.alloc (.cells c.cells.toArray 32)).heap.size = w3.heap.size + 1 := by simp
       have V3 : Below w.heap.size w (w3.alloc (.cells c.cells.toArray 32)) := W3.alloc (by omega) _
       have c3 : Hid ((w3.alloc (.cells c.cells.toArray 32)).rangeAt w3.heap.size 0 c.cells) := range_new _ _ _)
    | (with_reducible refine wpList_store_new ?_ 32 (.tmp 11) (.tmp 32) ?_ c.cells.toArray (w3.heap.size) rfl ?_ ?_ ?_ ?_ ?_ ?_
       rotate_left 1
       · with_reducible rfl
       · rfl
       · rfl
       · rfl
       · exact st_size
       · exact c.one
       rotate_left 1
       · rfl)
    | (with_reducible refine wpList_load_mid (op := ⟨some 35, _, _, _, _, _⟩) ?_ 32 (.tmp 3) ?_ (w.heap.size) 0 ?_ d.cells dd ?_ hHu.out hd ?_ ?_
       rotate_left 1
       · with_reducible rfl
       · kernel_rfl
       · exact World.rangeAt_alloc D3.out _
       · exact st_size
       rotate_left 1
       · rfl)
    | (with_reducible refine wpList_load_mid (op := ⟨some 37, _, _, _, _, _⟩) ?_ 32 (.tmp 4) ?_ (w.heap.size + 1) 0 ?_ tt.cells dd ?_ hHu.out hd ?_ ?_
       rotate_left 1
       · with_reducible rfl
       · kernel_rfl
       · exact World.rangeAt_alloc T3.out _
       · exact st_size
       rotate_left 1
       · rfl)
    | (go_at_call 15; with_reducible refine (hR _ V3).mono ?_; rintro e w4 ⟨f, rfl, R4, hb4⟩
       have s4 := hb4.size
       have W4 := V3.trans (hb4.mono V3.size)
       have a4 : Hid (w4.rangeAt (w1.heap.size) 0 a.cells) := rangeAt_below (World.rangeAt_alloc a3.out _) hb4 (by omega)
       have b4 : Hid (w4.rangeAt (w2.heap.size) 0 b.cells) := rangeAt_below (World.rangeAt_alloc b3.out _) hb4 (by omega)
       have c4 : Hid (w4.rangeAt (w3.heap.size) 0 c.cells) := rangeAt_below (c3.out) hb4 (by omega)
       have Sa4 := (Sa3.below (below_one w3 _)).below hb4
       have Sb4 := (Sb3.below (below_one w3 _)).below hb4
       have Sc4 := (R3.below (below_one w3 _)).below hb4
       have z4 : (w4.alloc (.cells f.cells.toArray 32)).heap.size = w4.heap.size + 1 := by simp
       have V4 : Below w.heap.size w (w4.alloc (.cells f.cells.toArray 32)) := W4.alloc (by omega) _
       have f4 : Hid ((w4.alloc (.cells f.cells.toArray 32)).rangeAt w4.heap.size 0 f.cells) := range_new _ _ _)
    | (with_reducible refine wpList_store_new ?_ 32 (.tmp 13) (.tmp 39) ?_ f.cells.toArray (w4.heap.size) rfl ?_ ?_ ?_ ?_ ?_ ?_
       rotate_left 1
       · with_reducible rfl
       · rfl
       · rfl
       · rfl
       · exact st_size
       · exact f.one
       rotate_left 1
       · rfl)
    | (with_reducible refine wpList_load_mid (op := ⟨some 67, _, _, _, _, _⟩) ?_ 32 (.tmp 7) ?_ (w1.heap.size) 0 ?_ a.cells dd ?_ hHu.out hd ?_ ?_
       rotate_left 1
       · with_reducible rfl
       · kernel_rfl
       · exact World.rangeAt_alloc a4.out _
       · exact st_size
       rotate_left 1
       · rfl)
    | (with_reducible refine wpList_load_mid (op := ⟨some 68, _, _, _, _, _⟩) ?_ 32 (.tmp 9) ?_ (w2.heap.size) 0 ?_ b.cells dd ?_ hHu.out hd ?_ ?_
       rotate_left 1
       · with_reducible rfl
       · kernel_rfl
       · exact World.rangeAt_alloc b4.out _
       · exact st_size
       rotate_left 1
       · rfl)
    | (go_at_call 11; with_reducible refine (hE1 _ a b V4 (Sa4.below (below_one w4 _)) (Sb4.below (below_one w4 _))).mono ?_; rintro e w5 ⟨rfl, hb5⟩
       have s5 := hb5.size
       have W5 := V4.trans (hb5.mono V4.size)
       have c5 : Hid (w5.rangeAt (w3.heap.size) 0 c.cells) := rangeAt_below (World.rangeAt_alloc c4.out _) hb5 (by omega)
       have f5 : Hid (w5.rangeAt (w4.heap.size) 0 f.cells) := rangeAt_below (f4.out) hb5 (by omega)
       have Sc5 := (Sc4.below (below_one w4 _)).below hb5
       have Sf5 := (R4.below (below_one w4 _)).below hb5)
    | (with_reducible refine wpList_load_mid_g (op := ⟨some 71, _, _, _, _, _⟩) ?_ 32 (.tmp 11) ?_ (w3.heap.size) 0 ?_ c.cells dd ?_ hHu.out hd ?_ ?_
       rotate_left 1
       · with_reducible rfl
       · kernel_rfl
       · exact c5.out
       · exact st_size
       rotate_left 1
       · kernel_rfl)
    | (with_reducible refine wpList_load_mid_g (op := ⟨some 72, _, _, _, _, _⟩) ?_ 32 (.tmp 13) ?_ (w4.heap.size) 0 ?_ f.cells dd ?_ hHu.out hd ?_ ?_
       rotate_left 1
       · with_reducible rfl
       · kernel_rfl
       · exact f5.out
       · exact st_size
       rotate_left 1
       · kernel_rfl)
    | (go_at_call 11; with_reducible refine (hE2 _ c f W5 (Sc5) (Sf5)).mono ?_; rintro e w6 ⟨rfl, hb6⟩
       have s6 := hb6.size
       have W6 := W5.trans (hb6.mono W5.size))
    | (go_at_call 9; with_reducible refine (hA _ W6).mono ?_; rintro e w7 ⟨rfl, hb7⟩
       have s7 := hb7.size
       have W7 := W6.trans (hb7.mono W6.size)))
  go_ret
  exact ⟨rfl, W7⟩

set_option maxRecDepth 100000 in
set_option maxHeartbeats 2000000 in
/-- CheckPicks where the path leads nowhere. -/
theorem picks_false {w : World} {d tt : Sd} {q : Option Addr} {n c0 : Nat} {Y G : St}
    (hP : ∀ z, Below w.heap.size w z → Calls Tryz.prog 12 #[.agg d.cells.toArray, .slice q n c0] z fun e w' => ∃ a : Sd, e = .returned (.tuple #[.agg a.cells.toArray, .bool false]) ∧ StOk w' Y a ∧ Below z.heap.size z w')
    (hQ : ∀ z, Below w.heap.size w z → Calls Tryz.prog 13 #[.agg d.cells.toArray, .slice q n c0] z fun e w' => ∃ a : Sd, e = .returned (.tuple #[.agg a.cells.toArray, .bool false]) ∧ StOk w' Y a ∧ Below z.heap.size z w')
    (hG : ∀ z, Below w.heap.size w z → Calls Tryz.prog 14 #[.agg d.cells.toArray, .slice q n c0, .agg tt.cells.toArray] z fun e w' => ∃ a : Sd, e = .returned (.tuple #[.agg a.cells.toArray, .bool false]) ∧ StOk w' G a ∧ Below z.heap.size z w')
    (hR : ∀ z, Below w.heap.size w z → Calls Tryz.prog 15 #[.agg d.cells.toArray, .slice q n c0, .agg tt.cells.toArray] z fun e w' => ∃ a : Sd, e = .returned (.tuple #[.agg a.cells.toArray, .bool false]) ∧ StOk w' G a ∧ Below z.heap.size z w')
    (hE1 : ∀ (z : World) (y y' : Sd), Below w.heap.size w z → StOk z Y y → StOk z Y y' → Calls Tryz.prog 11 #[.agg y.cells.toArray, .agg y'.cells.toArray] z fun e w' => e = .returned (.bool true) ∧ Below z.heap.size z w')
    (hE2 : ∀ (z : World) (y y' : Sd), Below w.heap.size w z → StOk z G y → StOk z G y' → Calls Tryz.prog 11 #[.agg y.cells.toArray, .agg y'.cells.toArray] z fun e w' => e = .returned (.bool true) ∧ Below z.heap.size z w')
    (hB1 : ∀ (z : World) (y : Sd), Below w.heap.size w z → StOk z Y y → Calls Tryz.prog 16 #[.agg y.cells.toArray] z fun e w' => e = .returned (.bool true) ∧ Below z.heap.size z w')
    (hB2 : ∀ (z : World) (y : Sd), Below w.heap.size w z → StOk z G y → Calls Tryz.prog 16 #[.agg y.cells.toArray] z fun e w' => e = .returned (.bool true) ∧ Below z.heap.size z w')
    (hA : ∀ z, Below w.heap.size w z → Calls Tryz.prog 9 #[] z fun e w' => e = .returned (.bool true) ∧ Below z.heap.size z w') :
    Calls Tryz.prog 5 #[.agg #[.int .i64 d.s.ru, .string d.s.nm, .string d.s.ot, .bool d.s.g, .slice d.aq d.an d.ac, .slice d.cq d.cn d.cc, .int .i64 d.s.kk, .int .i64 d.s.nn, .int .i64 d.s.pr, .int .i64 d.e.k, .int .i64 d.e.f, .bool d.e.neg, .slice d.e.aq d.e.an d.e.ac, .slice d.e.cq d.e.cn d.e.cc, .string d.e.m, .slice d.e.sq d.e.sn d.e.sc, .slice d.poq d.pon d.poc, .string d.s.en, .int .i64 d.s.ve, .slice d.arq d.arn d.arc, .slice d.kiq d.kin d.kic], .agg #[.int .i64 tt.s.ru, .string tt.s.nm, .string tt.s.ot, .bool tt.s.g, .slice tt.aq tt.an tt.ac, .slice tt.cq tt.cn tt.cc, .int .i64 tt.s.kk, .int .i64 tt.s.nn, .int .i64 tt.s.pr, .int .i64 tt.e.k, .int .i64 tt.e.f, .bool tt.e.neg, .slice tt.e.aq tt.e.an tt.e.ac, .slice tt.e.cq tt.e.cn tt.e.cc, .string tt.e.m, .slice tt.e.sq tt.e.sn tt.e.sc, .slice tt.poq tt.pon tt.poc, .string tt.s.en, .int .i64 tt.s.ve, .slice tt.arq tt.arn tt.arc, .slice tt.kiq tt.kin tt.kic], .slice q n c0] w fun e w' => e = .returned (.bool true) ∧ Below w.heap.size w w' := by
  obtain ⟨dd, hu, hd⟩ := st_row
  have hHu : Hid (Tryz.prog.underlying 32 = some dd) := hu
  clear hu
  have h0 : Below w.heap.size w ((w.alloc (.cells #[.int .i64 d.s.ru, .string d.s.nm, .string d.s.ot, .bool d.s.g, .slice d.aq d.an d.ac, .slice d.cq d.cn d.cc, .int .i64 d.s.kk, .int .i64 d.s.nn, .int .i64 d.s.pr, .int .i64 d.e.k, .int .i64 d.e.f, .bool d.e.neg, .slice d.e.aq d.e.an d.e.ac, .slice d.e.cq d.e.cn d.e.cc, .string d.e.m, .slice d.e.sq d.e.sn d.e.sc, .slice d.poq d.pon d.poc, .string d.s.en, .int .i64 d.s.ve, .slice d.arq d.arn d.arc, .slice d.kiq d.kin d.kic] 32)).alloc (.cells #[.int .i64 tt.s.ru, .string tt.s.nm, .string tt.s.ot, .bool tt.s.g, .slice tt.aq tt.an tt.ac, .slice tt.cq tt.cn tt.cc, .int .i64 tt.s.kk, .int .i64 tt.s.nn, .int .i64 tt.s.pr, .int .i64 tt.e.k, .int .i64 tt.e.f, .bool tt.e.neg, .slice tt.e.aq tt.e.an tt.e.ac, .slice tt.e.cq tt.e.cn tt.e.cc, .string tt.e.m, .slice tt.e.sq tt.e.sn tt.e.sc, .slice tt.poq tt.pon tt.poc, .string tt.s.en, .int .i64 tt.s.ve, .slice tt.arq tt.arn tt.arc, .slice tt.kiq tt.kin tt.kic] 32)) := below_two w _ _
  have s0 : ((w.alloc (.cells #[.int .i64 d.s.ru, .string d.s.nm, .string d.s.ot, .bool d.s.g, .slice d.aq d.an d.ac, .slice d.cq d.cn d.cc, .int .i64 d.s.kk, .int .i64 d.s.nn, .int .i64 d.s.pr, .int .i64 d.e.k, .int .i64 d.e.f, .bool d.e.neg, .slice d.e.aq d.e.an d.e.ac, .slice d.e.cq d.e.cn d.e.cc, .string d.e.m, .slice d.e.sq d.e.sn d.e.sc, .slice d.poq d.pon d.poc, .string d.s.en, .int .i64 d.s.ve, .slice d.arq d.arn d.arc, .slice d.kiq d.kin d.kic] 32)).alloc (.cells #[.int .i64 tt.s.ru, .string tt.s.nm, .string tt.s.ot, .bool tt.s.g, .slice tt.aq tt.an tt.ac, .slice tt.cq tt.cn tt.cc, .int .i64 tt.s.kk, .int .i64 tt.s.nn, .int .i64 tt.s.pr, .int .i64 tt.e.k, .int .i64 tt.e.f, .bool tt.e.neg, .slice tt.e.aq tt.e.an tt.e.ac, .slice tt.e.cq tt.e.cn tt.e.cc, .string tt.e.m, .slice tt.e.sq tt.e.sn tt.e.sc, .slice tt.poq tt.pon tt.poc, .string tt.s.en, .int .i64 tt.s.ve, .slice tt.arq tt.arn tt.arc, .slice tt.kiq tt.kin tt.kic] 32)).heap.size = w.heap.size + 2 := by simp
  have D0 : Hid (((w.alloc (.cells #[.int .i64 d.s.ru, .string d.s.nm, .string d.s.ot, .bool d.s.g, .slice d.aq d.an d.ac, .slice d.cq d.cn d.cc, .int .i64 d.s.kk, .int .i64 d.s.nn, .int .i64 d.s.pr, .int .i64 d.e.k, .int .i64 d.e.f, .bool d.e.neg, .slice d.e.aq d.e.an d.e.ac, .slice d.e.cq d.e.cn d.e.cc, .string d.e.m, .slice d.e.sq d.e.sn d.e.sc, .slice d.poq d.pon d.poc, .string d.s.en, .int .i64 d.s.ve, .slice d.arq d.arn d.arc, .slice d.kiq d.kin d.kic] 32)).alloc (.cells #[.int .i64 tt.s.ru, .string tt.s.nm, .string tt.s.ot, .bool tt.s.g, .slice tt.aq tt.an tt.ac, .slice tt.cq tt.cn tt.cc, .int .i64 tt.s.kk, .int .i64 tt.s.nn, .int .i64 tt.s.pr, .int .i64 tt.e.k, .int .i64 tt.e.f, .bool tt.e.neg, .slice tt.e.aq tt.e.an tt.e.ac, .slice tt.e.cq tt.e.cn tt.e.cc, .string tt.e.m, .slice tt.e.sq tt.e.sn tt.e.sc, .slice tt.poq tt.pon tt.poc, .string tt.s.en, .int .i64 tt.s.ve, .slice tt.arq tt.arn tt.arc, .slice tt.kiq tt.kin tt.kic] 32)).rangeAt w.heap.size 0 d.cells) := World.rangeAt_alloc (range_new w d.cells 32) _
  have T0 : Hid (((w.alloc (.cells #[.int .i64 d.s.ru, .string d.s.nm, .string d.s.ot, .bool d.s.g, .slice d.aq d.an d.ac, .slice d.cq d.cn d.cc, .int .i64 d.s.kk, .int .i64 d.s.nn, .int .i64 d.s.pr, .int .i64 d.e.k, .int .i64 d.e.f, .bool d.e.neg, .slice d.e.aq d.e.an d.e.ac, .slice d.e.cq d.e.cn d.e.cc, .string d.e.m, .slice d.e.sq d.e.sn d.e.sc, .slice d.poq d.pon d.poc, .string d.s.en, .int .i64 d.s.ve, .slice d.arq d.arn d.arc, .slice d.kiq d.kin d.kic] 32)).alloc (.cells #[.int .i64 tt.s.ru, .string tt.s.nm, .string tt.s.ot, .bool tt.s.g, .slice tt.aq tt.an tt.ac, .slice tt.cq tt.cn tt.cc, .int .i64 tt.s.kk, .int .i64 tt.s.nn, .int .i64 tt.s.pr, .int .i64 tt.e.k, .int .i64 tt.e.f, .bool tt.e.neg, .slice tt.e.aq tt.e.an tt.e.ac, .slice tt.e.cq tt.e.cn tt.e.cc, .string tt.e.m, .slice tt.e.sq tt.e.sn tt.e.sc, .slice tt.poq tt.pon tt.poc, .string tt.s.en, .int .i64 tt.s.ve, .slice tt.arq tt.arn tt.arc, .slice tt.kiq tt.kin tt.kic] 32)).rangeAt (w.heap.size + 1) 0 tt.cells) := range_two w _ tt.cells 32
  go_enter Tryz.func5, Tryz.ntmps5
  go_wp2_with (first
    | (with_reducible refine wpList_load_mid (op := ⟨some 16, _, _, _, _, _⟩) ?_ 32 (.tmp 3) ?_ (w.heap.size) 0 ?_ d.cells dd ?_ hHu.out hd ?_ ?_
       rotate_left 1
       · with_reducible rfl
       · kernel_rfl
       · exact D0.out
       · exact st_size
       rotate_left 1
       · rfl)
    | (go_at_call 12; with_reducible refine (hP _ h0).mono ?_; rintro e w1 ⟨a, rfl, R1, hb1⟩
       have s1 := hb1.size
       have W1 := h0.trans (hb1.mono h0.size)
       have D1 : Hid (w1.rangeAt (w.heap.size) 0 d.cells) := rangeAt_below (D0.out) hb1 (by omega)
       have T1 : Hid (w1.rangeAt (w.heap.size + 1) 0 tt.cells) := rangeAt_below (T0.out) hb1 (by omega)
       have z1 : (w1.alloc (.cells a.cells.toArray 32)).heap.size = w1.heap.size + 1 := by simp
       have V1 : Below w.heap.size w (w1.alloc (.cells a.cells.toArray 32)) := W1.alloc (by omega) _
       have a1 : Hid ((w1.alloc (.cells a.cells.toArray 32)).rangeAt w1.heap.size 0 a.cells) := range_new _ _ _)
    | (with_reducible refine wpList_store_new ?_ 32 (.tmp 7) (.tmp 19) ?_ a.cells.toArray (w1.heap.size) rfl ?_ ?_ ?_ ?_ ?_ ?_
       rotate_left 1
       · with_reducible rfl
       · rfl
       · rfl
       · rfl
       · exact st_size
       · exact a.one
       rotate_left 1
       · rfl)
    | (with_reducible refine wpList_load_mid (op := ⟨some 22, _, _, _, _, _⟩) ?_ 32 (.tmp 3) ?_ (w.heap.size) 0 ?_ d.cells dd ?_ hHu.out hd ?_ ?_
       rotate_left 1
       · with_reducible rfl
       · kernel_rfl
       · exact World.rangeAt_alloc D1.out _
       · exact st_size
       rotate_left 1
       · rfl)
    | (go_at_call 13; with_reducible refine (hQ _ V1).mono ?_; rintro e w2 ⟨b, rfl, R2, hb2⟩
       have s2 := hb2.size
       have W2 := V1.trans (hb2.mono V1.size)
       have D2 : Hid (w2.rangeAt (w.heap.size) 0 d.cells) := rangeAt_below (World.rangeAt_alloc D1.out _) hb2 (by omega)
       have T2 : Hid (w2.rangeAt (w.heap.size + 1) 0 tt.cells) := rangeAt_below (World.rangeAt_alloc T1.out _) hb2 (by omega)
       have a2 : Hid (w2.rangeAt (w1.heap.size) 0 a.cells) := rangeAt_below (a1.out) hb2 (by omega)
       have Sa2 := (R1.below (below_one w1 _)).below hb2
       have z2 : (w2.alloc (.cells b.cells.toArray 32)).heap.size = w2.heap.size + 1 := by simp
       have V2 : Below w.heap.size w (w2.alloc (.cells b.cells.toArray 32)) := W2.alloc (by omega) _
       have b2 : Hid ((w2.alloc (.cells b.cells.toArray 32)).rangeAt w2.heap.size 0 b.cells) := range_new _ _ _)
    | (with_reducible refine wpList_store_new ?_ 32 (.tmp 9) (.tmp 25) ?_ b.cells.toArray (w2.heap.size) rfl ?_ ?_ ?_ ?_ ?_ ?_
       rotate_left 1
       · with_reducible rfl
       · rfl
       · rfl
       · rfl
       · exact st_size
       · exact b.one
       rotate_left 1
       · rfl)
    | (with_reducible refine wpList_load_mid (op := ⟨some 28, _, _, _, _, _⟩) ?_ 32 (.tmp 3) ?_ (w.heap.size) 0 ?_ d.cells dd ?_ hHu.out hd ?_ ?_
       rotate_left 1
       · with_reducible rfl
       · kernel_rfl
       · exact World.rangeAt_alloc D2.out _
       · exact st_size
       rotate_left 1
       · rfl)
    | (with_reducible refine wpList_load_mid (op := ⟨some 30, _, _, _, _, _⟩) ?_ 32 (.tmp 4) ?_ (w.heap.size + 1) 0 ?_ tt.cells dd ?_ hHu.out hd ?_ ?_
       rotate_left 1
       · with_reducible rfl
       · kernel_rfl
       · exact World.rangeAt_alloc T2.out _
       · exact st_size
       rotate_left 1
       · rfl)
    | (go_at_call 14; with_reducible refine (hG _ V2).mono ?_; rintro e w3 ⟨c, rfl, R3, hb3⟩
       have s3 := hb3.size
       have W3 := V2.trans (hb3.mono V2.size)
       have D3 : Hid (w3.rangeAt (w.heap.size) 0 d.cells) := rangeAt_below (World.rangeAt_alloc D2.out _) hb3 (by omega)
       have T3 : Hid (w3.rangeAt (w.heap.size + 1) 0 tt.cells) := rangeAt_below (World.rangeAt_alloc T2.out _) hb3 (by omega)
       have a3 : Hid (w3.rangeAt (w1.heap.size) 0 a.cells) := rangeAt_below (World.rangeAt_alloc a2.out _) hb3 (by omega)
       have b3 : Hid (w3.rangeAt (w2.heap.size) 0 b.cells) := rangeAt_below (b2.out) hb3 (by omega)
       have Sa3 := (Sa2.below (below_one w2 _)).below hb3
       have Sb3 := (R2.below (below_one w2 _)).below hb3
       have z3 : (w3.alloc (.cells c.cells.toArray 32)).heap.size = w3.heap.size + 1 := by simp
       have V3 : Below w.heap.size w (w3.alloc (.cells c.cells.toArray 32)) := W3.alloc (by omega) _
       have c3 : Hid ((w3.alloc (.cells c.cells.toArray 32)).rangeAt w3.heap.size 0 c.cells) := range_new _ _ _)
    | (with_reducible refine wpList_store_new ?_ 32 (.tmp 11) (.tmp 32) ?_ c.cells.toArray (w3.heap.size) rfl ?_ ?_ ?_ ?_ ?_ ?_
       rotate_left 1
       · with_reducible rfl
       · rfl
       · rfl
       · rfl
       · exact st_size
       · exact c.one
       rotate_left 1
       · rfl)
    | (with_reducible refine wpList_load_mid (op := ⟨some 35, _, _, _, _, _⟩) ?_ 32 (.tmp 3) ?_ (w.heap.size) 0 ?_ d.cells dd ?_ hHu.out hd ?_ ?_
       rotate_left 1
       · with_reducible rfl
       · kernel_rfl
       · exact World.rangeAt_alloc D3.out _
       · exact st_size
       rotate_left 1
       · rfl)
    | (with_reducible refine wpList_load_mid (op := ⟨some 37, _, _, _, _, _⟩) ?_ 32 (.tmp 4) ?_ (w.heap.size + 1) 0 ?_ tt.cells dd ?_ hHu.out hd ?_ ?_
       rotate_left 1
       · with_reducible rfl
       · kernel_rfl
       · exact World.rangeAt_alloc T3.out _
       · exact st_size
       rotate_left 1
       · rfl)
    | (go_at_call 15; with_reducible refine (hR _ V3).mono ?_; rintro e w4 ⟨f, rfl, R4, hb4⟩
       have s4 := hb4.size
       have W4 := V3.trans (hb4.mono V3.size)
       have a4 : Hid (w4.rangeAt (w1.heap.size) 0 a.cells) := rangeAt_below (World.rangeAt_alloc a3.out _) hb4 (by omega)
       have b4 : Hid (w4.rangeAt (w2.heap.size) 0 b.cells) := rangeAt_below (World.rangeAt_alloc b3.out _) hb4 (by omega)
       have c4 : Hid (w4.rangeAt (w3.heap.size) 0 c.cells) := rangeAt_below (c3.out) hb4 (by omega)
       have Sa4 := (Sa3.below (below_one w3 _)).below hb4
       have Sb4 := (Sb3.below (below_one w3 _)).below hb4
       have Sc4 := (R3.below (below_one w3 _)).below hb4
       have z4 : (w4.alloc (.cells f.cells.toArray 32)).heap.size = w4.heap.size + 1 := by simp
       have V4 : Below w.heap.size w (w4.alloc (.cells f.cells.toArray 32)) := W4.alloc (by omega) _
       have f4 : Hid ((w4.alloc (.cells f.cells.toArray 32)).rangeAt w4.heap.size 0 f.cells) := range_new _ _ _)
    | (with_reducible refine wpList_store_new ?_ 32 (.tmp 13) (.tmp 39) ?_ f.cells.toArray (w4.heap.size) rfl ?_ ?_ ?_ ?_ ?_ ?_
       rotate_left 1
       · with_reducible rfl
       · rfl
       · rfl
       · rfl
       · exact st_size
       · exact f.one
       rotate_left 1
       · rfl)
    | (with_reducible refine wpList_load_mid_g (op := ⟨some 53, _, _, _, _, _⟩) ?_ 32 (.tmp 7) ?_ (w1.heap.size) 0 ?_ a.cells dd ?_ hHu.out hd ?_ ?_
       rotate_left 1
       · with_reducible rfl
       · kernel_rfl
       · exact World.rangeAt_alloc a4.out _
       · exact st_size
       rotate_left 1
       · kernel_rfl)
    | (go_at_call 16; with_reducible refine (hB1 _ a V4 (Sa4.below (below_one w4 _))).mono ?_; rintro e w5 ⟨rfl, hb5⟩
       have s5 := hb5.size
       have W5 := V4.trans (hb5.mono V4.size)
       have a5 : Hid (w5.rangeAt (w1.heap.size) 0 a.cells) := rangeAt_below (World.rangeAt_alloc a4.out _) hb5 (by omega)
       have b5 : Hid (w5.rangeAt (w2.heap.size) 0 b.cells) := rangeAt_below (World.rangeAt_alloc b4.out _) hb5 (by omega)
       have c5 : Hid (w5.rangeAt (w3.heap.size) 0 c.cells) := rangeAt_below (World.rangeAt_alloc c4.out _) hb5 (by omega)
       have f5 : Hid (w5.rangeAt (w4.heap.size) 0 f.cells) := rangeAt_below (f4.out) hb5 (by omega)
       have Sa5 := (Sa4.below (below_one w4 _)).below hb5
       have Sb5 := (Sb4.below (below_one w4 _)).below hb5
       have Sc5 := (Sc4.below (below_one w4 _)).below hb5
       have Sf5 := (R4.below (below_one w4 _)).below hb5)
    | (with_reducible refine wpList_load_mid_g (op := ⟨some 62, _, _, _, _, _⟩) ?_ 32 (.tmp 11) ?_ (w3.heap.size) 0 ?_ c.cells dd ?_ hHu.out hd ?_ ?_
       rotate_left 1
       · with_reducible rfl
       · kernel_rfl
       · exact c5.out
       · exact st_size
       rotate_left 1
       · kernel_rfl)
    | (go_at_call 16; with_reducible refine (hB2 _ c W5 (Sc5)).mono ?_; rintro e w6 ⟨rfl, hb6⟩
       have s6 := hb6.size
       have W6 := W5.trans (hb6.mono W5.size)
       have a6 : Hid (w6.rangeAt (w1.heap.size) 0 a.cells) := rangeAt_below (a5.out) hb6 (by omega)
       have b6 : Hid (w6.rangeAt (w2.heap.size) 0 b.cells) := rangeAt_below (b5.out) hb6 (by omega)
       have c6 : Hid (w6.rangeAt (w3.heap.size) 0 c.cells) := rangeAt_below (c5.out) hb6 (by omega)
       have f6 : Hid (w6.rangeAt (w4.heap.size) 0 f.cells) := rangeAt_below (f5.out) hb6 (by omega)
       have Sa6 := (Sa5).below hb6
       have Sb6 := (Sb5).below hb6
       have Sc6 := (Sc5).below hb6
       have Sf6 := (Sf5).below hb6)
    | (with_reducible refine wpList_load_mid (op := ⟨some 67, _, _, _, _, _⟩) ?_ 32 (.tmp 7) ?_ (w1.heap.size) 0 ?_ a.cells dd ?_ hHu.out hd ?_ ?_
       rotate_left 1
       · with_reducible rfl
       · kernel_rfl
       · exact a6.out
       · exact st_size
       rotate_left 1
       · rfl)
    | (with_reducible refine wpList_load_mid (op := ⟨some 68, _, _, _, _, _⟩) ?_ 32 (.tmp 9) ?_ (w2.heap.size) 0 ?_ b.cells dd ?_ hHu.out hd ?_ ?_
       rotate_left 1
       · with_reducible rfl
       · kernel_rfl
       · exact b6.out
       · exact st_size
       rotate_left 1
       · rfl)
    | (go_at_call 11; with_reducible refine (hE1 _ a b W6 (Sa6) (Sb6)).mono ?_; rintro e w7 ⟨rfl, hb7⟩
       have s7 := hb7.size
       have W7 := W6.trans (hb7.mono W6.size)
       have c7 : Hid (w7.rangeAt (w3.heap.size) 0 c.cells) := rangeAt_below (c6.out) hb7 (by omega)
       have f7 : Hid (w7.rangeAt (w4.heap.size) 0 f.cells) := rangeAt_below (f6.out) hb7 (by omega)
       have Sc7 := (Sc6).below hb7
       have Sf7 := (Sf6).below hb7)
    | (with_reducible refine wpList_load_mid_g (op := ⟨some 71, _, _, _, _, _⟩) ?_ 32 (.tmp 11) ?_ (w3.heap.size) 0 ?_ c.cells dd ?_ hHu.out hd ?_ ?_
       rotate_left 1
       · with_reducible rfl
       · kernel_rfl
       · exact c7.out
       · exact st_size
       rotate_left 1
       · kernel_rfl)
    | (with_reducible refine wpList_load_mid_g (op := ⟨some 72, _, _, _, _, _⟩) ?_ 32 (.tmp 13) ?_ (w4.heap.size) 0 ?_ f.cells dd ?_ hHu.out hd ?_ ?_
       rotate_left 1
       · with_reducible rfl
       · kernel_rfl
       · exact f7.out
       · exact st_size
       rotate_left 1
       · kernel_rfl)
    | (go_at_call 11; with_reducible refine (hE2 _ c f W7 (Sc7) (Sf7)).mono ?_; rintro e w8 ⟨rfl, hb8⟩
       have s8 := hb8.size
       have W8 := W7.trans (hb8.mono W7.size))
    | (go_at_call 9; with_reducible refine (hA _ W8).mono ?_; rintro e w9 ⟨rfl, hb9⟩
       have s9 := hb9.size
       have W9 := W8.trans (hb9.mono W8.size)))
  go_ret
  exact ⟨rfl, W9⟩

end Go.Proofs.YtlmifjdbjhcceaaGreatDoor

namespace Go.Proofs.YtlmifjdbjhcceaaGreatDoor
open Go Go.RowKit

/-- CheckPicks returns true. -/
theorem picks_ok {w : World} {X T : St} {d tt : Sd} {q : Option Addr} {c : Nat} {p : List Int} (hX : StOk w X d) (hs : StSmall X) (hT : StOk w T tt) (hsT : StSmall T) (hp : PaOk w q p.length p) (hc : p.length ≤ c) (hm : c ≤ maxLen)
    (hA : ∀ z, Below w.heap.size w z → Calls Tryz.prog 9 #[] z fun e w' => e = .returned (.bool true) ∧ Below z.heap.size z w') :
    Calls Tryz.prog 5 #[d.val, tt.val, .slice q p.length c] w fun e w' => e = .returned (.bool true) ∧ Below w.heap.size w w' := by
  cases hy : X.pick p with
  | none =>
    have hPn : ∀ z, Below w.heap.size w z → Calls Tryz.prog 12 #[.agg d.cells.toArray, .slice q p.length c] z fun e w' => e = .returned (.tuple #[.agg #[.int .i64 0, .string ⟨#[]⟩, .string ⟨#[]⟩, .bool false, .slice none 0 0, .slice none 0 0, .int .i64 0, .int .i64 0, .int .i64 0, .int .i64 0, .int .i64 0, .bool false, .slice none 0 0, .slice none 0 0, .string ⟨#[]⟩, .slice none 0 0, .slice none 0 0, .string ⟨#[]⟩, .int .i64 0, .slice none 0 0, .slice none 0 0], .bool false]) ∧ Below z.heap.size z w' := by
      intro z hz
      refine (pick_ok (c := c) (hX.below hz) hs (hp.below hz)).mono ?_
      rintro e w' (⟨_, rfl, hb⟩ | ⟨Z, y, h, _⟩)
      · exact ⟨rfl, hb⟩
      · rw [hy] at h; cases h
    refine picks_false (Y := zeroSt) (G := zeroSt) (fun z hz => (hPn z hz).mono ?_) (fun z hz => (rpick_ok (c := c) (hX.below hz) hs (hp.below hz)).mono ?_) (fun z hz => (Graft_none (w := z) (d := d) (tt := tt) (fun z' hz' => hPn z' (hz.trans (hz'.mono hz.size)))).mono ?_)
      (fun z hz => (rgraft_ok (T := T) (tt := tt) p X d z q c z.heap.size (Nat.le_refl _) (hX.below hz).toA hs (hT.below hz).toA (hp.below hz) hc hm).mono ?_)
      (fun z y y' _ h h' => St.eq_refl zeroSt ▸ refEq_ok zeroSt zeroSt y y' z h h') (fun z y y' _ h h' => St.eq_refl zeroSt ▸ refEq_ok zeroSt zeroSt y y' z h h')
      (fun z y _ h => St.eq_refl zeroSt ▸ blank_ok h) (fun z y _ h => St.eq_refl zeroSt ▸ blank_ok h) hA
    · rintro e w' ⟨rfl, hb⟩
      exact ⟨zeroSd, rfl, zero_ok w', hb⟩
    · rintro e w' (⟨_, rfl, hb⟩ | ⟨Z, y, h, _⟩)
      · exact ⟨zeroSd, rfl, zero_ok w', hb⟩
      · rw [hy] at h; cases h
    · rintro e w' ⟨rfl, hb⟩
      exact ⟨zeroSd, rfl, zero_ok w', hb⟩
    · rintro e w' (⟨_, rfl, hb⟩ | ⟨Z, y, h, _⟩)
      · exact ⟨zeroSd, rfl, zero_ok w', hb⟩
      · rw [hy] at h; cases h
  | some Y =>
    refine picks_true (Y := Y) (G := St.graft p X T) (fun z hz => Pick_ok (hX.below hz) hs (hp.below hz) hy) (fun z hz => (rpick_ok (c := c) (hX.below hz) hs (hp.below hz)).mono ?_) (fun z hz => Graft_ok (hX.below hz) hs (hT.below hz) hsT (hp.below hz) hc hm hy)
      (fun z hz => (rgraft_ok (T := T) (tt := tt) p X d z q c z.heap.size (Nat.le_refl _) (hX.below hz).toA hs (hT.below hz).toA (hp.below hz) hc hm).mono ?_)
      (fun z y y' _ h h' => St.eq_refl Y ▸ refEq_ok Y Y y y' z h h') (fun z y y' _ h h' => St.eq_refl (St.graft p X T) ▸ refEq_ok (St.graft p X T) (St.graft p X T) y y' z h h') hA
    · rintro e w' (⟨h, _⟩ | ⟨Z, y, h, rfl, _, hA', hb⟩)
      · rw [hy] at h; cases h
      · rw [hy] at h
        cases h
        exact ⟨y, rfl, hA'.ok (fun b hb' => Nat.lt_of_lt_of_le hb' hb.size), hb⟩
    · rintro e w' (⟨h, _⟩ | ⟨Z, y, h, rfl, hA', hb⟩)
      · rw [hy] at h; cases h
      · refine ⟨y, rfl, hA'.ok (fun b hb' => ?_), hb⟩
        have := hb.size
        rcases hb' with h1 | h1
        · omega
        · exact h1.2
end Go.Proofs.YtlmifjdbjhcceaaGreatDoor
