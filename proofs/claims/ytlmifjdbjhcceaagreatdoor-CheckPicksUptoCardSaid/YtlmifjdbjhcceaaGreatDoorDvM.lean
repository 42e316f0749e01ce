/-
  check.own whole; check.Pick.
-/
import Derived.Test.YtlmifjdbjhcceaaGreatDoorDvL
import Derived.Test.YtlmifjdbjhcceaaGreatDoorDvH
import Derived.Laws.ResultCell
namespace Go.Proofs.YtlmifjdbjhcceaaGreatDoor
open Go Go.RowKit

/-- All lists are of the statement's size. -/
def StSmall : St → Prop
  | .non => True
  | .mk _ _ _ x pn _ bn bs n ki => ExSmall x ∧ pn ≤ 1048576 ∧ bn ≤ 1048576 ∧ (∀ i, i < bn → ExSmall (bs i).x) ∧ n ≤ 1048576 ∧ ∀ i, i < n → StSmall (ki i)

/-- A step without its kids. -/
def St.bare : St → St
  | .non => .non
  | .mk s nu de x pn ps bn bs _ _ => .mk s nu de x pn ps bn bs 0 (fun _ => .non)

theorem range_of_vaAt {w : World} {b o : Nat} {d : Va} (h : VaAt w b o d) : w.rangeAt b o d.cells := by
  intro j v hv
  match j, hv with
  | 0, hv => cases hv; exact h.h0
  | 1, hv => cases hv; exact h.h1
  | 2, hv => cases hv; exact h.h2
  | 3, hv => cases hv; exact h.h3
theorem range_of_biAt {w : World} {b o : Nat} {d : Bi} (h : BiAt w b o d) : w.rangeAt b o d.cells := by
  intro j v hv
  match j, hv with
  | 0, hv => cases hv; exact h.h0
  | 1, hv => cases hv; exact h.h1
  | 2, hv => cases hv; exact h.h2
  | 3, hv => cases hv; exact h.h3
  | 4, hv => cases hv; exact h.h4
  | 5, hv => cases hv; exact h.h5
  | 6, hv => cases hv; exact h.h6
  | 7, hv => cases hv; exact h.h7

/-- check.fields: a copy without kids. -/
theorem fields_ok {w : World} {X : St} {d : Sd} (h : StOk w X d) (hs : StSmall X) :
    Calls Tryz.prog 54 #[d.val] w fun e w' => ∃ D : Sd, e = .returned (.agg #[.int .i64 D.s.ru, .string D.s.nm, .string D.s.ot, .bool D.s.g, .slice D.aq D.an D.ac, .slice D.cq D.cn D.cc, .int .i64 D.s.kk, .int .i64 D.s.nn, .int .i64 D.s.pr, .int .i64 D.e.k, .int .i64 D.e.f, .bool D.e.neg, .slice D.e.aq D.e.an D.e.ac, .slice D.e.cq D.e.cn D.e.cc, .string D.e.m, .slice D.e.sq D.e.sn D.e.sc, .slice D.poq D.pon D.poc, .string D.s.en, .int .i64 D.s.ve, .slice D.arq D.arn D.arc, .slice none 0 0]) ∧ StA w' (Fresh w w') X.bare D ∧ Below w.heap.size w w' := by
  cases X with
  | non => exact h.elim
  | mk s nu de x pn ps bn bs n ki =>
    unfold StOk at h
    unfold StSmall at hs
    obtain ⟨⟨rfl, rfl, rfl, rfl⟩, h2, h3, h4, h5, h6, h7, h8, h9, h10⟩ := h
    obtain ⟨s1, s2, s3, s4, _, _⟩ := hs
    obtain ⟨xs, x1, x2⟩ := ptsAt h7
    obtain ⟨ys, y1, y2⟩ := bdsAt h8
    refine (fields_walk ps bs xs ys s2 s3 (fun z hz => ownRat_ok (h2.below hz) (h3.below hz)) (fun z hz => ownExpr_ok x d.e z (h6.below hz) s1)
      (x1.imp id fun ⟨b, o, e1, e2, e3⟩ => ⟨b, o, e1, e2, fun i hi => range_of_vaAt (e3 i hi)⟩) (fun i hi => ⟨(x2 i hi).1, (x2 i hi).2.1, (x2 i hi).2.2.2.2.1, (x2 i hi).2.2.2.2.2⟩)
      (fun i hi z hz => ownRat_ok ((x2 i hi).2.2.1.below hz) ((x2 i hi).2.2.2.1.below hz))
      (y1.imp id fun ⟨b, o, e1, e2, e3⟩ => ⟨b, o, e1, e2, fun i hi => range_of_biAt (e3 i hi)⟩) (fun i hi => (y2 i hi).1)
      (fun i hi z hz => ownExpr_ok (bs i).x (ys i).nd z ((y2 i hi).2.below hz) (s4 i hi))).mono ?_
    rintro e w' ⟨q1, c1, q2, c2, e', q3, c3, q4, c4, rfl, a1, a2, a3, a4, a5, hb⟩
    exact ⟨⟨d.s, q1, d.an, c1, q2, d.cn, c2, e', q3, d.pon, c3, q4, d.arn, c4, none, 0, 0⟩, rfl, ⟨⟨rfl, rfl, rfl, rfl⟩, a1, a2, h4, h5, a3, a4, a5, Nat.zero_le _, .inl rfl⟩, hb⟩

theorem kids_join {w : World} {A : Nat → Prop} {X : St} {D : Sd} {q : Option Addr} {n c : Nat} {ki : Nat → St} (h : StA w A X.bare D) (hn : n ≤ 1099511627776)
    (hk : n = 0 ∨ ∃ b, q = some ⟨b, 0, none⟩ ∧ A b ∧ ∃ es : Nat → Sd, ∀ i, i < n → w.rangeAt b (0 + i * 21) (es i).cells ∧ StA w A (ki i) (es i)) :
    ∀ s nu de x pn ps bn bs m kj, X = .mk s nu de x pn ps bn bs m kj → StA w A (.mk s nu de x pn ps bn bs n ki) ⟨D.s, D.aq, D.an, D.ac, D.cq, D.cn, D.cc, D.e, D.poq, D.pon, D.poc, D.arq, D.arn, D.arc, q, n, c⟩ := by
  rintro s nu de x pn ps bn bs m kj rfl
  unfold St.bare StA at h
  obtain ⟨⟨e1, e2, e3, _⟩, h2, h3, h4, h5, h6, h7, h8, _, _⟩ := h
  exact ⟨⟨e1, e2, e3, rfl⟩, h2, h3, h4, h5, h6, h7, h8, hn, hk.imp id fun ⟨b, f1, f2, es, f3⟩ => ⟨b, 0, f1, f2, es, f3⟩⟩

/-- check.own: a copy in new memory. -/
theorem own_ok : ∀ (X : St) (d : Sd) (w : World), StOk w X d → StSmall X → Calls Tryz.prog 35 #[d.val] w fun e w' => ∃ d' : Sd, e = .returned d'.val ∧ StA w' (Fresh w w') X d' ∧ Below w.heap.size w w' := by
  intro X
  induction X with
  | non => exact fun d w h => h.elim
  | mk s nu de x pn ps bn bs n ki ih =>
    intro d w h hs
    have h' := h
    unfold StOk at h
    obtain ⟨⟨rfl, rfl, rfl, rfl⟩, h2, h3, h4, h5, h6, h7, h8, h9, h10⟩ := h
    have hs' := hs
    unfold StSmall at hs'
    obtain ⟨_, _, _, _, s5, s6⟩ := hs'
    obtain ⟨ds, k1, k2⟩ := kidsAt h10
    refine (own_walk (St.bare (.mk d.s nu de x d.pon ps d.arn bs d.kin ki)) ds ki s5 (fun z hz => fields_ok (h'.below hz) hs) k1 (fun i hi z hz => ih i (ds i) z ((k2 i hi).below hz) (s6 i hi))).mono ?_
    rintro e w' ⟨D, q3, c3, rfl, a0, a1, hb⟩
    exact ⟨⟨D.s, D.aq, D.an, D.ac, D.cq, D.cn, D.cc, D.e, D.poq, D.pon, D.poc, D.arq, D.arn, D.arc, q3, d.kin, c3⟩, rfl, kids_join a0 h9 a1 _ _ _ _ _ _ _ _ _ _ rfl, hb⟩
end Go.Proofs.YtlmifjdbjhcceaaGreatDoor

namespace Go.Proofs.YtlmifjdbjhcceaaGreatDoor
open Go Go.RowKit

/-- A kid by its index. -/
def St.kid : St → Int → Option St
  | .non, _ => none
  | .mk _ _ _ _ _ _ _ _ n ki, i => if 0 ≤ i ∧ i < n then some (ki i.toNat) else none
/-- The step at a path. -/
def St.pick (X : St) : List Int → Option St
  | [] => some X
  | i :: r => match X.kid i with
    | none => none
    | some Y => Y.pick r
theorem St.pick_append (l r : List Int) : ∀ X : St, X.pick (l ++ r) = (X.pick l).bind fun Y => Y.pick r := by
  induction l with
  | nil => intro X; rfl
  | cons i l ih =>
    intro X
    simp only [List.cons_append, St.pick]
    cases X.kid i with
    | none => rfl
    | some Y => exact ih Y
theorem small_kid {X Y : St} {i : Int} (h : StSmall X) (hk : X.kid i = some Y) : StSmall Y := by
  cases X with
  | non => cases hk
  | mk s nu de x pn ps bn bs n ki =>
    simp only [St.kid] at hk
    split at hk
    · rename_i hi
      simp only [Option.some.injEq] at hk
      subst hk
      unfold StSmall at h
      exact h.2.2.2.2.2 _ (by omega)
    · cases hk
theorem kid_at {w : World} {A : Nat → Prop} {X : St} {D : Sd} (h : StA w A X D) {j : Nat} (hj : j < D.kin) : ∃ b o E, D.kiq = some ⟨b, o, none⟩ ∧ A b ∧ w.rangeAt b (o + j * 21) (Sd.cells E) ∧ ∃ Y, X.kid j = some Y ∧ StA w A Y E := by
  cases X with
  | non => exact h.elim
  | mk s nu de x pn ps bn bs n ki =>
    unfold StA at h
    obtain ⟨⟨_, _, _, rfl⟩, _, _, _, _, _, _, _, _, h10⟩ := h
    rcases h10 with h0 | ⟨b, o, e1, e2, es, hes⟩
    · omega
    · refine ⟨b, o, es j, e1, e2, (hes j hj).1, ki j, ?_, (hes j hj).2⟩
      simp only [St.kid]
      rw [if_pos ⟨by omega, by omega⟩]
      rfl
theorem kid_none {w : World} {A : Nat → Prop} {X : St} {D : Sd} (h : StA w A X D) {i : Int} (hi : i < 0 ∨ (D.kin : Int) ≤ i) : X.kid i = none := by
  cases X with
  | non => exact h.elim
  | mk s nu de x pn ps bn bs n ki =>
    unfold StA at h
    obtain ⟨⟨_, _, _, rfl⟩, _⟩ := h
    simp only [St.kid]
    rw [if_neg (by omega)]
theorem kin_le {w : World} {A : Nat → Prop} {X : St} {D : Sd} (h : StA w A X D) : D.kin ≤ 1099511627776 := by
  cases X with
  | non => exact h.elim
  | mk s nu de x pn ps bn bs n ki =>
    unfold StA at h
    obtain ⟨⟨_, _, _, rfl⟩, _, _, _, _, _, _, _, h9, _⟩ := h
    exact h9

/-- A path in memory. -/
def PaOk (w : World) (q : Option Addr) (n : Nat) (p : List Int) : Prop :=
  p.length = n ∧ n ≤ 1099511627776 ∧ (n = 0 ∨ ∃ b o, q = some ⟨b, o, none⟩ ∧ b < w.heap.size ∧ ∀ i, i < n → w.cell? ⟨b, o + i, none⟩ = some (.int .i64 (p.getD i 0)))
theorem PaOk.below {w w' : World} (hb : Below w.heap.size w w') {q : Option Addr} {n : Nat} {p : List Int} (h : PaOk w q n p) : PaOk w' q n p := by
  refine ⟨h.1, h.2.1, h.2.2.imp id ?_⟩
  rintro ⟨b, o, e, hlt, hc⟩
  exact ⟨b, o, e, Nat.lt_of_lt_of_le hlt hb.size, fun i hi => (hb.cell (by exact hlt)).trans (hc i hi)⟩

theorem results_cell_tmp_mid {P : Program} {fn : Func} {p u : Tmp} {ty : TypeId} (h : fn.results = #[.cell p ty, .tmp u]) (tmps : Array Value) (w : World) (b : Nat) (cs : List Value) (d : TypeDesc)
    (hp : tmps.getD p undef = .pointer (some ⟨b, 0, none⟩)) (hc : w.rangeAt b 0 cs) (hu : P.underlying ty = some d) (hd : d.isRow = true) (hi : (P.info? ty).map (·.size) = some cs.length) :
    (results fn tmps).run P w = .ok (.tuple #[.agg cs.toArray, tmps.getD u undef]) w := by
  rw [results_cell_tmp h, hp]
  simp [asAddr, run_loadVar_mid w b 0 ty cs d hc hu hd hi]

theorem there_below {w w' : World} {B b n : Nat} (h : w.there b 0 n) (hb : Below B w w') (hB : b < B) : w'.there b 0 n := fun j hj =>
  ⟨by rw [hb.cell (by exact hB)]; exact (h j hj).1, by rw [hb.frozen (by exact hB)]; exact (h j hj).2⟩

set_option maxRecDepth 100000 in
set_option maxHeartbeats 4000000 in
/-- check.Pick. -/
theorem pick_ok {w : World} {d : Sd} {X : St} {q : Option Addr} {n c : Nat} {p : List Int} (hX : StOk w X d) (hs : StSmall X) (hp : PaOk w q n p) :
    Calls Tryz.prog 12 #[.agg #[.int .i64 d.s.ru, .string d.s.nm, .string d.s.ot, .bool d.s.g, .slice d.aq d.an d.ac, .slice d.cq d.cn d.cc, .int .i64 d.s.kk, .int .i64 d.s.nn, .int .i64 d.s.pr, .int .i64 d.e.k, .int .i64 d.e.f, .bool d.e.neg, .slice d.e.aq d.e.an d.e.ac, .slice d.e.cq d.e.cn d.e.cc, .string d.e.m, .slice d.e.sq d.e.sn d.e.sc, .slice d.poq d.pon d.poc, .string d.s.en, .int .i64 d.s.ve, .slice d.arq d.arn d.arc, .slice d.kiq d.kin d.kic], .slice q n c] w fun e w' => (X.pick p = none ∧ e = .returned (.tuple #[.agg #[.int .i64 0, .string ⟨#[]⟩, .string ⟨#[]⟩, .bool false, .slice none 0 0, .slice none 0 0, .int .i64 0, .int .i64 0, .int .i64 0, .int .i64 0, .int .i64 0, .bool false, .slice none 0 0, .slice none 0 0, .string ⟨#[]⟩, .slice none 0 0, .slice none 0 0, .string ⟨#[]⟩, .int .i64 0, .slice none 0 0, .slice none 0 0], .bool false]) ∧ Below w.heap.size w w') ∨
      ∃ Y d', X.pick p = some Y ∧ e = .returned (.tuple #[Sd.val d', .bool true]) ∧ StSmall Y ∧ StA w' (Fresh w w') Y d' ∧ Below w.heap.size w w' := by
  have hp' : Hid (PaOk w q n p) := hp
  have hpl := hp.1
  have hpn := hp.2.1
  clear hp
  obtain ⟨dd, hu, hd⟩ := st_row
  have hHu : Hid (Tryz.prog.underlying 32 = some dd) := hu
  clear hu
  go_enter Tryz.func12, Tryz.ntmps12
  go_wp2_with fail
  generalize hw1 : (w.alloc _).alloc _ = w1
  have hz1 : w1.heap.size = w.heap.size + 2 := by rw [← hw1]; simp
  have hW1 : Below w.heap.size w w1 := by rw [← hw1]; exact below_two _ _ _
  have hr1 : w1.rangeAt w.heap.size 0 d.cells := by rw [← hw1]; exact World.rangeAt_alloc (range_new w d.cells 32) _
  have ht1 : w1.there w.heap.size 0 21 := by
    rw [← hw1]
    exact World.there_alloc (there_of_block (heap_alloc_last w _) rfl) _
  have ht2 : w1.there (w.heap.size + 1) 0 21 := by
    rw [← hw1]
    have h := there_of_block (heap_alloc_last (w.alloc (.cells #[.int .i64 d.s.ru, .string d.s.nm, .string d.s.ot, .bool d.s.g, .slice d.aq d.an d.ac, .slice d.cq d.cn d.cc, .int .i64 d.s.kk, .int .i64 d.s.nn, .int .i64 d.s.pr, .int .i64 d.e.k, .int .i64 d.e.f, .bool d.e.neg, .slice d.e.aq d.e.an d.e.ac, .slice d.e.cq d.e.cn d.e.cc, .string d.e.m, .slice d.e.sq d.e.sn d.e.sc, .slice d.poq d.pon d.poc, .string d.s.en, .int .i64 d.s.ve, .slice d.arq d.arn d.arc, .slice d.kiq d.kin d.kic] 32)) (.cells #[.int .i64 0, .string ⟨#[]⟩, .string ⟨#[]⟩, .bool false, .slice none 0 0, .slice none 0 0, .int .i64 0, .int .i64 0, .int .i64 0, .int .i64 0, .int .i64 0, .bool false, .slice none 0 0, .slice none 0 0, .string ⟨#[]⟩, .slice none 0 0, .slice none 0 0, .string ⟨#[]⟩, .int .i64 0, .slice none 0 0, .slice none 0 0] 32 (0, 0))) (n := 21) rfl
    rw [show (w.alloc (.cells #[.int .i64 d.s.ru, .string d.s.nm, .string d.s.ot, .bool d.s.g, .slice d.aq d.an d.ac, .slice d.cq d.cn d.cc, .int .i64 d.s.kk, .int .i64 d.s.nn, .int .i64 d.s.pr, .int .i64 d.e.k, .int .i64 d.e.f, .bool d.e.neg, .slice d.e.aq d.e.an d.e.ac, .slice d.e.cq d.e.cn d.e.cc, .string d.e.m, .slice d.e.sq d.e.sn d.e.sc, .slice d.poq d.pon d.poc, .string d.s.en, .int .i64 d.s.ve, .slice d.arq d.arn d.arc, .slice d.kiq d.kin d.kic] 32)).heap.size = w.heap.size + 1 by simp] at h
    exact h
  have hA1 : StA w1 (· < w.heap.size) X d := hX.toA.keep (keeps_below hW1) (fun b hb => hb)
  clear hw1
  go_loopw [10] (fun i wr => ∃ k : Nat, k ≤ n ∧ i = .int .i64 k ∧ ∃ (Y : St) (D : Sd), X.pick (p.take k) = some Y ∧ StSmall Y ∧ wr.rangeAt w.heap.size 0 D.cells ∧ wr.there w.heap.size 0 21 ∧ wr.there (w.heap.size + 1) 0 21 ∧ StA wr (· < w.heap.size) Y D ∧ Below w.heap.size w wr ∧ wr.heap.size = w.heap.size + 2) (fun i _ => n - (intOf i).toNat)
  case atStart => exact ⟨0, Nat.zero_le _, rfl, X, d, rfl, hs, hr1, ht1, ht2, hA1, hW1, hz1⟩
  case round =>
    clear hr1 ht1 ht2 hA1 hW1 hz1
    obtain ⟨k, hk, rfl, Y, D, hpk, hsY, hrD, hr1, hr2, hAD, hbw, hsz⟩ := hrel
    have hr1' : Hid (wr.there w.heap.size 0 21) := hr1
    have hr2' : Hid (wr.there (w.heap.size + 1) 0 21) := hr2
    have hrD' : Hid (wr.rangeAt w.heap.size 0 D.cells) := hrD
    have k20 : wr.cell? ⟨w.heap.size, 20, none⟩ = some (.slice D.kiq D.kin D.kic) := by have h := hrD 20 _ rfl; simpa using h
    clear hr1 hr2 hrD
    have hkn := kin_le hAD
    have hpk' : Hid (X.pick (p.take k) = some Y) := hpk
    clear hpk
    by_cases hlt : k < n
    · have hlt' : (k : Int) < (n : Int) := by omega
      rcases hp'.out.2.2 with h0 | ⟨b, o, hq, hbb, hcp⟩
      · omega
      have cp : wr.cell? ⟨b, o + k, none⟩ = some (.int .i64 (p.getD k 0)) := (hbw.cell (by exact hbb)).trans (hcp k hlt)
      have htk : p.take (k + 1) = p.take k ++ [p.getD k 0] := by
        rw [List.take_add_one]
        congr 1
        simp [List.getD, show k < p.length by omega]
      have hsplit : X.pick p = (Y.kid (p.getD k 0)).bind fun Z => Z.pick (p.drop (k + 1)) := by
        conv => lhs; rw [← List.take_append_drop (k + 1) p]
        rw [St.pick_append, htk, St.pick_append, hpk'.out]
        simp only [Option.bind_some, St.pick]
        cases Y.kid (p.getD k 0) <;> rfl
      have hsplit' : Hid (X.pick p = (Y.kid (p.getD k 0)).bind fun Z => Z.pick (p.drop (k + 1))) := hsplit
      clear hcp hsplit
      generalize p.getD k 0 = I at *
      rw [hq]
      by_cases hneg : I < 0
      · have hnone : Hid (X.pick p = none) := by show X.pick p = none; rw [hsplit'.out, kid_none hAD (.inl hneg)]; rfl
        go_wp2_with (with_reducible refine wpList_store_mid ?_ 32 (.tmp 4) (.tmp 23) ?_ (w.heap.size + 1) 0 #[.int .i64 0, .string ⟨#[]⟩, .string ⟨#[]⟩, .bool false, .slice none 0 0, .slice none 0 0, .int .i64 0, .int .i64 0, .int .i64 0, .int .i64 0, .int .i64 0, .bool false, .slice none 0 0, .slice none 0 0, .string ⟨#[]⟩, .slice none 0 0, .slice none 0 0, .string ⟨#[]⟩, .int .i64 0, .slice none 0 0, .slice none 0 0] ?_ ?_ ?_ ?_ ?_ ?_
                     rotate_left 1
                     · with_reducible rfl
                     · rfl
                     · rfl
                     · exact hr2'.out
                     · exact st_size
                     · exact all_oneCell_toArray (one_sd ⟨⟨0, ⟨#[]⟩, ⟨#[]⟩, false, 0, 0, 0, ⟨#[]⟩, 0⟩, none, 0, 0, none, 0, 0, ⟨0, 0, false, none, 0, 0, none, 0, 0, ⟨#[]⟩, none, 0, 0⟩, none, 0, 0, none, 0, 0, none, 0, 0⟩)
                     rotate_left 1
                     · rfl)
        obtain ⟨hW8, _, _⟩ := setCells_facts w.heap.size (w.heap.size + 1) (by omega) [.int .i64 0, .string ⟨#[]⟩, .string ⟨#[]⟩, .bool false, .slice none 0 0, .slice none 0 0, .int .i64 0, .int .i64 0, .int .i64 0, .int .i64 0, .int .i64 0, .bool false, .slice none 0 0, .slice none 0 0, .string ⟨#[]⟩, .slice none 0 0, .slice none 0 0, .string ⟨#[]⟩, .int .i64 0, .slice none 0 0, .slice none 0 0] 0 w wr hbw
        have hr8 := World.rangeAt_setCells_same wr (w.heap.size + 1) 0 [.int .i64 0, .string ⟨#[]⟩, .string ⟨#[]⟩, .bool false, .slice none 0 0, .slice none 0 0, .int .i64 0, .int .i64 0, .int .i64 0, .int .i64 0, .int .i64 0, .bool false, .slice none 0 0, .slice none 0 0, .string ⟨#[]⟩, .slice none 0 0, .slice none 0 0, .string ⟨#[]⟩, .int .i64 0, .slice none 0 0, .slice none 0 0] hr2'.out
        change bodyPost _ _ _ _ _ (wr.setCells (w.heap.size + 1) 0 [.int .i64 0, .string ⟨#[]⟩, .string ⟨#[]⟩, .bool false, .slice none 0 0, .slice none 0 0, .int .i64 0, .int .i64 0, .int .i64 0, .int .i64 0, .int .i64 0, .bool false, .slice none 0 0, .slice none 0 0, .string ⟨#[]⟩, .slice none 0 0, .slice none 0 0, .string ⟨#[]⟩, .int .i64 0, .slice none 0 0, .slice none 0 0])
        generalize wr.setCells (w.heap.size + 1) 0 [.int .i64 0, .string ⟨#[]⟩, .string ⟨#[]⟩, .bool false, .slice none 0 0, .slice none 0 0, .int .i64 0, .int .i64 0, .int .i64 0, .int .i64 0, .int .i64 0, .bool false, .slice none 0 0, .slice none 0 0, .string ⟨#[]⟩, .slice none 0 0, .slice none 0 0, .string ⟨#[]⟩, .int .i64 0, .slice none 0 0, .slice none 0 0] = w8 at *
        refine bodyPost_ret (results_cell_tmp_mid rfl _ _ (w.heap.size + 1) _ dd rfl hr8 hHu.out hd st_size) rfl ?_
        exact .inl ⟨hnone.out, rfl, hW8⟩
      · by_cases hge : (D.kin : Int) ≤ I
        · have hnone : Hid (X.pick p = none) := by show X.pick p = none; rw [hsplit'.out, kid_none hAD (.inr hge)]; rfl
          go_wp2_with (with_reducible refine wpList_store_mid ?_ 32 (.tmp 4) (.tmp 23) ?_ (w.heap.size + 1) 0 #[.int .i64 0, .string ⟨#[]⟩, .string ⟨#[]⟩, .bool false, .slice none 0 0, .slice none 0 0, .int .i64 0, .int .i64 0, .int .i64 0, .int .i64 0, .int .i64 0, .bool false, .slice none 0 0, .slice none 0 0, .string ⟨#[]⟩, .slice none 0 0, .slice none 0 0, .string ⟨#[]⟩, .int .i64 0, .slice none 0 0, .slice none 0 0] ?_ ?_ ?_ ?_ ?_ ?_
                       rotate_left 1
                       · with_reducible rfl
                       · rfl
                       · rfl
                       · exact hr2'.out
                       · exact st_size
                       · exact all_oneCell_toArray (one_sd ⟨⟨0, ⟨#[]⟩, ⟨#[]⟩, false, 0, 0, 0, ⟨#[]⟩, 0⟩, none, 0, 0, none, 0, 0, ⟨0, 0, false, none, 0, 0, none, 0, 0, ⟨#[]⟩, none, 0, 0⟩, none, 0, 0, none, 0, 0, none, 0, 0⟩)
                       rotate_left 1
                       · rfl)
          obtain ⟨hW8, _, _⟩ := setCells_facts w.heap.size (w.heap.size + 1) (by omega) [.int .i64 0, .string ⟨#[]⟩, .string ⟨#[]⟩, .bool false, .slice none 0 0, .slice none 0 0, .int .i64 0, .int .i64 0, .int .i64 0, .int .i64 0, .int .i64 0, .bool false, .slice none 0 0, .slice none 0 0, .string ⟨#[]⟩, .slice none 0 0, .slice none 0 0, .string ⟨#[]⟩, .int .i64 0, .slice none 0 0, .slice none 0 0] 0 w wr hbw
          have hr8 := World.rangeAt_setCells_same wr (w.heap.size + 1) 0 [.int .i64 0, .string ⟨#[]⟩, .string ⟨#[]⟩, .bool false, .slice none 0 0, .slice none 0 0, .int .i64 0, .int .i64 0, .int .i64 0, .int .i64 0, .int .i64 0, .bool false, .slice none 0 0, .slice none 0 0, .string ⟨#[]⟩, .slice none 0 0, .slice none 0 0, .string ⟨#[]⟩, .int .i64 0, .slice none 0 0, .slice none 0 0] hr2'.out
          change bodyPost _ _ _ _ _ (wr.setCells (w.heap.size + 1) 0 [.int .i64 0, .string ⟨#[]⟩, .string ⟨#[]⟩, .bool false, .slice none 0 0, .slice none 0 0, .int .i64 0, .int .i64 0, .int .i64 0, .int .i64 0, .int .i64 0, .bool false, .slice none 0 0, .slice none 0 0, .string ⟨#[]⟩, .slice none 0 0, .slice none 0 0, .string ⟨#[]⟩, .int .i64 0, .slice none 0 0, .slice none 0 0])
          generalize wr.setCells (w.heap.size + 1) 0 [.int .i64 0, .string ⟨#[]⟩, .string ⟨#[]⟩, .bool false, .slice none 0 0, .slice none 0 0, .int .i64 0, .int .i64 0, .int .i64 0, .int .i64 0, .int .i64 0, .bool false, .slice none 0 0, .slice none 0 0, .string ⟨#[]⟩, .slice none 0 0, .slice none 0 0, .string ⟨#[]⟩, .int .i64 0, .slice none 0 0, .slice none 0 0] = w8 at *
          refine bodyPost_ret (results_cell_tmp_mid rfl _ _ (w.heap.size + 1) _ dd rfl hr8 hHu.out hd st_size) rfl ?_
          exact .inl ⟨hnone.out, rfl, hW8⟩
        · obtain ⟨j, rfl⟩ := Int.eq_ofNat_of_zero_le (show 0 ≤ I by omega)
          have hj : j < D.kin := by omega
          obtain ⟨b2, o2, E, e1, e2, e3, Z, e4, e5⟩ := kid_at hAD hj
          rw [e1] at k20
          have hjl : (j : Int) < (D.kin : Int) := by omega
          have hE : Hid (wr.rangeAt b2 (o2 + j * 21) E.cells) := e3
          clear e3
          go_wp2_with (first
            | (with_reducible refine wpList_load_mid ?_ 32 (.tmp 27) ?_ b2 (o2 + j * 21) ?_ E.cells dd hE.out hHu.out hd ?_ ?_
               rotate_left 1
               · with_reducible rfl
               · rfl
               · exact st_size
               rotate_left 1
               · rfl)
            | (with_reducible refine wpList_store_mid ?_ 32 (.tmp 2) (.tmp 28) ?_ w.heap.size 0 E.cells.toArray ?_ ?_ ?_ ?_ ?_ ?_
               rotate_left 1
               · with_reducible rfl
               · rfl
               · rfl
               · exact hr1'.out
               · exact st_size
               · exact E.one
               rotate_left 1
               · rfl))
          obtain ⟨hW8, hs8, hb8⟩ := setCells_facts w.heap.size w.heap.size (by omega) E.cells 0 w wr hbw
          have hr8 := World.rangeAt_setCells_same wr w.heap.size 0 E.cells hr1'.out
          have ht8 := World.there_setCells hr1'.out w.heap.size 0 E.cells
          have ht9 := World.there_setCells hr2'.out w.heap.size 0 E.cells
          try simp only [Act.put]
          go_wp2_with fail
          go_roundw
          case rel =>
            refine ⟨k + 1, by omega, by go_num, Z, E, ?_, small_kid hsY e4, hr8, ht8, ht9, e5.keep (fun b hb => hb8 b (by omega)) (fun b hb => hb), hW8, by rw [← hsz]; exact hs8⟩
            rw [htk, St.pick_append, hpk'.out]
            simp only [Option.bind_some, St.pick]
            rw [e4]
          case measure => simp [intOf]; omega
    · have hk2 : n = k := by omega
      have hsome : Hid (X.pick p = some Y) := by show X.pick p = some Y; rw [← hpk'.out, List.take_of_length_le (by omega)]
      have hO : Calls Tryz.prog 35 #[.agg D.cells.toArray] wr fun e w' => ∃ d' : Sd, e = .returned (.agg d'.cells.toArray) ∧ StA w' (Fresh wr w') Y d' ∧ Below wr.heap.size wr w' := own_ok Y D wr (hAD.ok (fun b hb => by have : b < w.heap.size := hb; omega)) hsY
      go_wp2_with (first
        | (with_reducible refine wpList_load_mid ?_ 32 (.tmp 2) ?_ w.heap.size 0 ?_ D.cells dd hrD'.out hHu.out hd ?_ ?_
           rotate_left 1
           · with_reducible rfl
           · rfl
           · exact st_size
           rotate_left 1
           · rfl)
        | (go_at_call 35; with_reducible refine hO.mono ?_; rintro e w5 ⟨d', rfl, hA5, hb5⟩
           have ht5 : Hid (w5.there (w.heap.size + 1) 0 21) := there_below hr2'.out hb5 (by omega))
        | (with_reducible refine wpList_store_mid ?_ 32 (.tmp 4) (.tmp 31) ?_ (w.heap.size + 1) 0 d'.cells.toArray ?_ ?_ ?_ ?_ ?_ ?_
           rotate_left 1
           · with_reducible rfl
           · rfl
           · rfl
           · exact ht5.out
           · exact st_size
           · exact d'.one
           rotate_left 1
           · rfl))
      have hb5' := hbw.trans (hb5.mono hbw.size)
      obtain ⟨hW8, hs8, hb8⟩ := setCells_facts w.heap.size (w.heap.size + 1) (by omega) d'.cells 0 w w5 hb5'
      have hr8 := World.rangeAt_setCells_same w5 (w.heap.size + 1) 0 d'.cells ht5.out
      change bodyPost _ _ _ _ _ (w5.setCells (w.heap.size + 1) 0 d'.cells)
      generalize w5.setCells (w.heap.size + 1) 0 d'.cells = w8 at *
      refine bodyPost_ret (results_cell_tmp_mid rfl _ _ (w.heap.size + 1) _ dd rfl hr8 hHu.out hd st_size) rfl ?_
      refine .inr ⟨Y, d', hsome.out, rfl, hsY, hA5.keep (fun b hb => hb8 b (by have := hb.1; omega)) (fun b hb => ⟨by have := hb.1; omega, by have := hb.2; omega⟩), hW8⟩
end Go.Proofs.YtlmifjdbjhcceaaGreatDoor
