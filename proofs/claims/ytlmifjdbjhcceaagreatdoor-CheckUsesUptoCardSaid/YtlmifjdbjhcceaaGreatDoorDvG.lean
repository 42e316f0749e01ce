/-
  The reference's Equal, ahead of the kids.
-/
import Derived.Test.YtlmifjdbjhcceaaGreatDoorDvF
namespace Go.Proofs.YtlmifjdbjhcceaaGreatDoor
open Go Go.RowKit

set_option maxRecDepth 100000 in
theorem lists_false {w : World} {ru1 ru2 kk1 kk2 nn1 nn2 pr1 pr2 ve1 ve2 ek1 ek2 ef1 ef2 : Int} {nm1 nm2 ot1 ot2 en1 en2 em1 em2 : ByteArray} {g1 g2 eg1 eg2 : Bool} {a1 a2 c1 c2 ea1 ea2 ec1 ec2 es1 es2 : Value} {pq1 pq2 aq1 aq2 kq1 kq2 : Option Addr} {pn1 pn2 pc1 pc2 bn1 bn2 ac1 ac2 kn1 kn2 kc1 kc2 : Nat}
    (_b1 : pn1 ≤ 1099511627776) (b2 : pn2 ≤ 1099511627776) (_b3 : bn1 ≤ 1099511627776) (b4 : bn2 ≤ 1099511627776) (_b5 : kn1 ≤ 1099511627776) (_b6 : kn2 ≤ 1099511627776) (h : ¬ (pn1 = pn2 ∧ bn1 = bn2 ∧ kn1 = kn2)) :
    Calls Tryz.prog 34 #[.agg #[.int .i64 ru1, .string nm1, .string ot1, .bool g1, a1, c1, .int .i64 kk1, .int .i64 nn1, .int .i64 pr1, .int .i64 ek1, .int .i64 ef1, .bool eg1, ea1, ec1, .string em1, es1, .slice pq1 pn1 pc1, .string en1, .int .i64 ve1, .slice aq1 bn1 ac1, .slice kq1 kn1 kc1], .agg #[.int .i64 ru2, .string nm2, .string ot2, .bool g2, a2, c2, .int .i64 kk2, .int .i64 nn2, .int .i64 pr2, .int .i64 ek2, .int .i64 ef2, .bool eg2, ea2, ec2, .string em2, es2, .slice pq2 pn2 pc2, .string en2, .int .i64 ve2, .slice aq2 bn2 ac2, .slice kq2 kn2 kc2]] w
      fun e w' => e = .returned (.bool false) ∧ Below w.heap.size w w' := by
  have h2 : ∀ o o2, Below w.heap.size w ((w.alloc o).alloc o2) := fun o o2 => below_two w o o2
  by_cases k1 : pn1 = pn2
  · subst k1
    by_cases k2 : bn1 = bn2
    · subst k2
      have k3 : ¬ (kn1 : Int) = (kn2 : Int) := fun k3 => h ⟨rfl, rfl, by omega⟩
      clear h
      go_enter Tryz.func34, Tryz.ntmps34
      go_wp2_with fail
      go_ret
      exact ⟨rfl, h2 _ _⟩
    · have k3 : ¬ (bn1 : Int) = (bn2 : Int) := by omega
      clear h
      go_enter Tryz.func34, Tryz.ntmps34
      go_wp2_with fail
      go_ret
      exact ⟨rfl, h2 _ _⟩
  · have k3 : ¬ (pn1 : Int) = (pn2 : Int) := by omega
    clear h
    go_enter Tryz.func34, Tryz.ntmps34
    go_wp2_with fail
    go_ret
    exact ⟨rfl, h2 _ _⟩

/-- Whether the lists of two steps agree. -/
def lisEq (pn : Nat) (ps : Nat → Pt) (bn : Nat) (bs : Nat → Bd) (n pn' : Nat) (ps' : Nat → Pt) (bn' : Nat) (bs' : Nat → Bd) (n' : Nat) : Bool :=
  PtsEq pn ps pn' ps' && (BdsEq bn bs bn' bs' && decide (n = n'))

theorem ptsAt {w : World} {q : Option Addr} {n : Nat} {ps : Nat → Pt} (h : PtsOk w q n ps) : ∃ ds : Nat → Va, (n = 0 ∨ ∃ b o, q = some ⟨b, o, none⟩ ∧ b < w.heap.size ∧ ∀ i, i < n → VaAt w b (o + i * 4) (ds i)) ∧ ∀ i, i < n → PtOk w (ps i) (ds i) := by
  rcases h.2 with h0 | ⟨b, o, rfl, hb, ds, hds⟩
  · exact ⟨fun _ => ⟨⟨#[]⟩, false, none, 0, 0, none, 0, 0⟩, .inl h0, fun i hi => by omega⟩
  · exact ⟨ds, .inr ⟨b, o, rfl, hb, fun i hi => (hds i hi).1⟩, fun i hi => (hds i hi).2⟩
theorem bdsAt {w : World} {q : Option Addr} {n : Nat} {ps : Nat → Bd} (h : BdsOk w q n ps) : ∃ ds : Nat → Bi, (n = 0 ∨ ∃ b o, q = some ⟨b, o, none⟩ ∧ b < w.heap.size ∧ ∀ i, i < n → BiAt w b (o + i * 8) (ds i)) ∧ ∀ i, i < n → BdOk w (ps i) (ds i) := by
  rcases h.2 with h0 | ⟨b, o, rfl, hb, ds, hds⟩
  · exact ⟨fun _ => ⟨⟨#[]⟩, 0, 0, false, none, 0, 0, none, 0, 0, ⟨#[]⟩, none, 0, 0⟩, .inl h0, fun i hi => by omega⟩
  · exact ⟨ds, .inr ⟨b, o, rfl, hb, fun i hi => (hds i hi).1⟩, fun i hi => (hds i hi).2⟩

theorem all_range_congr {n : Nat} {f g : Nat → Bool} (h : ∀ i, i < n → f i = g i) : (List.range n).all f = (List.range n).all g := by
  rw [Bool.eq_iff_iff, List.all_eq_true, List.all_eq_true]
  exact ⟨fun k i hi => (h i (List.mem_range.1 hi)) ▸ k i hi, fun k i hi => (h i (List.mem_range.1 hi)).symm ▸ k i hi⟩

theorem lists_ok {w : World} {d e : Sd} {ps ps' : Nat → Pt} {bs bs' : Nat → Bd} (h1 : PtsOk w d.poq d.pon ps) (h2 : PtsOk w e.poq e.pon ps') (h3 : BdsOk w d.arq d.arn bs) (h4 : BdsOk w e.arq e.arn bs') (b5 : d.kin ≤ 1099511627776) (b6 : e.kin ≤ 1099511627776) :
    Calls Tryz.prog 34 #[d.val, e.val] w fun r w' => r = .returned (.bool (lisEq d.pon ps d.arn bs d.kin e.pon ps' e.arn bs' e.kin)) ∧ Below w.heap.size w w' := by
  by_cases h : d.pon = e.pon ∧ d.arn = e.arn ∧ d.kin = e.kin
  · obtain ⟨k1, k2, k3⟩ := h
    rw [← k1] at h2
    rw [← k2] at h4
    obtain ⟨xs, x1, x2⟩ := ptsAt h1
    obtain ⟨ys, y1, y2⟩ := ptsAt h2
    obtain ⟨xb, x3, x4⟩ := bdsAt h3
    obtain ⟨yb, y3, y4⟩ := bdsAt h4
    unfold lisEq PtsEq BdsEq Sd.val Sd.cells
    rw [← k1, ← k2, ← k3]
    simp only [decide_true, Bool.true_and, Bool.and_true]
    rw [all_range_congr (n := d.pon) (f := fun i => (ps i).eq (ps' i)) (g := fun i => decide ((xs i).m.toList = (ys i).m.toList) && ratEq (ps i).g (ps i).nu (ps i).de (ps' i).g (ps' i).nu (ps' i).de) (fun i hi => by rw [(x2 i hi).1, (y2 i hi).1]; rfl),
      all_range_congr (n := d.arn) (f := fun i => (bs i).eq (bs' i)) (g := fun i => decide ((xb i).m.toList = (yb i).m.toList) && (bs i).x.eq (bs' i).x) (fun i hi => by rw [(x4 i hi).1, (y4 i hi).1]; rfl)]
    refine lists_walk xs ys xb yb _ _ h1.1 h3.1 b5 x1 y1 x3 y3 (fun i hi w1 hw => ?_) (fun i hi w1 hw => ?_)
    · obtain ⟨p1, p2, p3, p4, p5, p6⟩ := x2 i hi
      obtain ⟨q1, q2, q3, q4, q5, q6⟩ := y2 i hi
      rw [← p2, ← q2]
      exact refEqual_ok (p3.below hw) (p4.below hw) (q3.below hw) (q4.below hw) p5 q5 p6 q6
    · exact alike_ok _ _ (xb i).nd (yb i).nd w1 ((x4 i hi).2.below hw) ((y4 i hi).2.below hw)
  · have hf : lisEq d.pon ps d.arn bs d.kin e.pon ps' e.arn bs' e.kin = false := by
      unfold lisEq PtsEq BdsEq
      rw [Bool.eq_false_iff]
      intro hh
      simp only [Bool.and_eq_true, decide_eq_true_eq] at hh
      exact h ⟨hh.1.1, hh.2.1.1, hh.2.2⟩
    rw [hf]
    exact lists_false h1.1 h2.1 h3.1 h4.1 b5 b6 h
end Go.Proofs.YtlmifjdbjhcceaaGreatDoor

namespace Go.Proofs.YtlmifjdbjhcceaaGreatDoor
open Go Go.RowKit

/-- A load of a whole row, its guard saying yes. -/
theorem wpList_load_mid_g {P : Program} {ops : Array Oper} {rest : List Oper} {op : Oper} {a : Act} {w : World} {Q : Exit → Act → World → Prop} (hg : Region.wanted op (yielded ops a.tmps) = true) (ty : TypeId) (x : Operand) (ho : op.op = .load ty x)
    (b o : Nat) (hx : a.eval x = .pointer (some ⟨b, o, none⟩)) (cs : List Value) (d : TypeDesc) (hc : w.rangeAt b o cs)
    (hu : P.underlying ty = some d) (hd : d.isRow = true) (hi : (P.info? ty).map (·.size) = some cs.length)
    (h : wpList P ops Q rest (a.put op.dst (.agg cs.toArray)) w) : wpList P ops Q (op :: rest) a w :=
  BigFrame.wpList_want hg fun _ hK => wp_load_mid ty x ho b o hx cs d hc hu hd hi (hK _ _ h)

theorem range_two (w : World) (ob : Obj) (cs : List Value) (t : TypeId) : ((w.alloc ob).alloc (.cells cs.toArray t)).rangeAt (w.heap.size + 1) 0 cs := by
  have h := range_new (w.alloc ob) cs t
  rw [show (w.alloc ob).heap.size = w.heap.size + 1 by simp] at h
  exact h

set_option maxRecDepth 100000 in
theorem req_first {w : World} {ru1 ru2 kk1 kk2 nn1 nn2 pr1 pr2 ve1 ve2 ek1 ek2 ef1 ef2 : Int} {nm1 nm2 ot1 ot2 en1 en2 em1 em2 : ByteArray} {g1 g2 eg1 eg2 : Bool} {a1 a2 c1 c2 ea1 ea2 ec1 ec2 es1 es2 po1 po2 ar1 ar2 : Value} {ki1 ki2 : Value} (h : ¬ (ru1 = ru2 ∧ nm1.toList = nm2.toList ∧ ot1.toList = ot2.toList ∧ kk1 = kk2 ∧ nn1 = nn2 ∧ pr1 = pr2)) :
    Calls Tryz.prog 11 #[.agg #[.int .i64 ru1, .string nm1, .string ot1, .bool g1, a1, c1, .int .i64 kk1, .int .i64 nn1, .int .i64 pr1, .int .i64 ek1, .int .i64 ef1, .bool eg1, ea1, ec1, .string em1, es1, po1, .string en1, .int .i64 ve1, ar1, ki1], .agg #[.int .i64 ru2, .string nm2, .string ot2, .bool g2, a2, c2, .int .i64 kk2, .int .i64 nn2, .int .i64 pr2, .int .i64 ek2, .int .i64 ef2, .bool eg2, ea2, ec2, .string em2, es2, po2, .string en2, .int .i64 ve2, ar2, ki2]] w fun e w' => e = .returned (.bool false) ∧ Below w.heap.size w w' := by
  have h2 : ∀ o o2, Below w.heap.size w ((w.alloc o).alloc o2) := fun o o2 => below_two w o o2
  by_cases q0 : ru1 = ru2
  · by_cases q1 : nm1.toList = nm2.toList
    · by_cases q2 : ot1.toList = ot2.toList
      · by_cases q3 : kk1 = kk2
        · by_cases q4 : nn1 = nn2
          · have q5 : ¬ pr1 = pr2 := fun q5 => h ⟨q0, q1, q2, q3, q4, q5⟩
            clear h
            subst q0
            subst q3
            subst q4
            go_enter Tryz.func11, Tryz.ntmps11
            go_wp2_with fail
            go_ret
            exact ⟨rfl, h2 _ _⟩
          · clear h
            subst q0
            subst q3
            go_enter Tryz.func11, Tryz.ntmps11
            go_wp2_with fail
            go_ret
            exact ⟨rfl, h2 _ _⟩
        · clear h
          subst q0
          go_enter Tryz.func11, Tryz.ntmps11
          go_wp2_with fail
          go_ret
          exact ⟨rfl, h2 _ _⟩
      · clear h
        subst q0
        go_enter Tryz.func11, Tryz.ntmps11
        go_wp2_with fail
        go_ret
        exact ⟨rfl, h2 _ _⟩
    · clear h
      subst q0
      go_enter Tryz.func11, Tryz.ntmps11
      go_wp2_with fail
      go_ret
      exact ⟨rfl, h2 _ _⟩
  · clear h
    go_enter Tryz.func11, Tryz.ntmps11
    go_wp2_with fail
    go_ret
    exact ⟨rfl, h2 _ _⟩

set_option maxRecDepth 100000 in
theorem req_mid {w : World} {ru1 ru2 kk1 kk2 nn1 nn2 pr1 pr2 ve1 ve2 ek1 ek2 ef1 ef2 : Int} {nm1 nm2 ot1 ot2 en1 en2 em1 em2 : ByteArray} {g1 g2 eg1 eg2 : Bool} {a1 a2 c1 c2 ea1 ea2 ec1 ec2 es1 es2 po1 po2 ar1 ar2 : Value} {ki1 ki2 : Value} (e1 : ru1 = ru2) (e2 : nm1.toList = nm2.toList) (e3 : ot1.toList = ot2.toList) (e4 : kk1 = kk2) (e5 : nn1 = nn2) (e6 : pr1 = pr2) (h : ¬ (en1.toList = en2.toList ∧ ve1 = ve2)) :
    Calls Tryz.prog 11 #[.agg #[.int .i64 ru1, .string nm1, .string ot1, .bool g1, a1, c1, .int .i64 kk1, .int .i64 nn1, .int .i64 pr1, .int .i64 ek1, .int .i64 ef1, .bool eg1, ea1, ec1, .string em1, es1, po1, .string en1, .int .i64 ve1, ar1, ki1], .agg #[.int .i64 ru2, .string nm2, .string ot2, .bool g2, a2, c2, .int .i64 kk2, .int .i64 nn2, .int .i64 pr2, .int .i64 ek2, .int .i64 ef2, .bool eg2, ea2, ec2, .string em2, es2, po2, .string en2, .int .i64 ve2, ar2, ki2]] w fun e w' => e = .returned (.bool false) ∧ Below w.heap.size w w' := by
  have h2 : ∀ o o2, Below w.heap.size w ((w.alloc o).alloc o2) := fun o o2 => below_two w o o2
  subst e1 e4 e5 e6
  by_cases q0 : en1.toList = en2.toList
  · have q1 : ¬ ve1 = ve2 := fun q1 => h ⟨q0, q1⟩
    clear h
    go_enter Tryz.func11, Tryz.ntmps11
    go_wp2_with fail
    go_ret
    exact ⟨rfl, h2 _ _⟩
  · clear h
    go_enter Tryz.func11, Tryz.ntmps11
    go_wp2_with fail
    go_ret
    exact ⟨rfl, h2 _ _⟩

set_option maxRecDepth 100000 in
theorem req_R {w : World} {ru1 ru2 kk1 kk2 nn1 nn2 pr1 pr2 ve1 ve2 ek1 ek2 ef1 ef2 : Int} {nm1 nm2 ot1 ot2 en1 en2 em1 em2 : ByteArray} {g1 g2 eg1 eg2 : Bool} {a1 a2 c1 c2 ea1 ea2 ec1 ec2 es1 es2 po1 po2 ar1 ar2 : Value} {ki1 ki2 : Value} (e1 : ru1 = ru2) (e2 : nm1.toList = nm2.toList) (e3 : ot1.toList = ot2.toList) (e4 : kk1 = kk2) (e5 : nn1 = nn2) (e6 : pr1 = pr2) (e7 : en1.toList = en2.toList) (e8 : ve1 = ve2)
    (hR : ∀ w1, Below w.heap.size w w1 → Calls Tryz.prog 32 #[.agg #[.bool g1, a1, c1], .agg #[.bool g2, a2, c2]] w1 fun e w' => e = .returned (.bool false) ∧ Below w1.heap.size w1 w')
    :
    Calls Tryz.prog 11 #[.agg #[.int .i64 ru1, .string nm1, .string ot1, .bool g1, a1, c1, .int .i64 kk1, .int .i64 nn1, .int .i64 pr1, .int .i64 ek1, .int .i64 ef1, .bool eg1, ea1, ec1, .string em1, es1, po1, .string en1, .int .i64 ve1, ar1, ki1], .agg #[.int .i64 ru2, .string nm2, .string ot2, .bool g2, a2, c2, .int .i64 kk2, .int .i64 nn2, .int .i64 pr2, .int .i64 ek2, .int .i64 ef2, .bool eg2, ea2, ec2, .string em2, es2, po2, .string en2, .int .i64 ve2, ar2, ki2]] w fun e w' => e = .returned (.bool false) ∧ Below w.heap.size w w' := by
  have h2 : ∀ o o2, Below w.heap.size w ((w.alloc o).alloc o2) := fun o o2 => below_two w o o2
  subst e1 e4 e5 e6 e8
  go_enter Tryz.func11, Tryz.ntmps11
  go_wp2_with (first
    | (go_at_call 32; refine (hR _ ?_).mono ?_; exact h2 _ _; rintro e w1 ⟨rfl, hb1⟩
       have hs1 : w.heap.size + 2 ≤ w1.heap.size := by have := hb1.size; simpa using this
       have hW1 := (h2 _ _).trans (hb1.mono (h2 _ _).size)))
  go_ret
  exact ⟨rfl, hW1⟩

set_option maxRecDepth 100000 in
theorem req_X {w : World} {ru1 ru2 kk1 kk2 nn1 nn2 pr1 pr2 ve1 ve2 ek1 ek2 ef1 ef2 : Int} {nm1 nm2 ot1 ot2 en1 en2 em1 em2 : ByteArray} {g1 g2 eg1 eg2 : Bool} {a1 a2 c1 c2 ea1 ea2 ec1 ec2 es1 es2 po1 po2 ar1 ar2 : Value} {ki1 ki2 : Value} (e1 : ru1 = ru2) (e2 : nm1.toList = nm2.toList) (e3 : ot1.toList = ot2.toList) (e4 : kk1 = kk2) (e5 : nn1 = nn2) (e6 : pr1 = pr2) (e7 : en1.toList = en2.toList) (e8 : ve1 = ve2)
    (hR : ∀ w1, Below w.heap.size w w1 → Calls Tryz.prog 32 #[.agg #[.bool g1, a1, c1], .agg #[.bool g2, a2, c2]] w1 fun e w' => e = .returned (.bool true) ∧ Below w1.heap.size w1 w')
    (hX : ∀ w1, Below w.heap.size w w1 → Calls Tryz.prog 33 #[.agg #[.int .i64 ek1, .int .i64 ef1, .bool eg1, ea1, ec1, .string em1, es1], .agg #[.int .i64 ek2, .int .i64 ef2, .bool eg2, ea2, ec2, .string em2, es2]] w1 fun e w' => e = .returned (.bool false) ∧ Below w1.heap.size w1 w')
    :
    Calls Tryz.prog 11 #[.agg #[.int .i64 ru1, .string nm1, .string ot1, .bool g1, a1, c1, .int .i64 kk1, .int .i64 nn1, .int .i64 pr1, .int .i64 ek1, .int .i64 ef1, .bool eg1, ea1, ec1, .string em1, es1, po1, .string en1, .int .i64 ve1, ar1, ki1], .agg #[.int .i64 ru2, .string nm2, .string ot2, .bool g2, a2, c2, .int .i64 kk2, .int .i64 nn2, .int .i64 pr2, .int .i64 ek2, .int .i64 ef2, .bool eg2, ea2, ec2, .string em2, es2, po2, .string en2, .int .i64 ve2, ar2, ki2]] w fun e w' => e = .returned (.bool false) ∧ Below w.heap.size w w' := by
  have h2 : ∀ o o2, Below w.heap.size w ((w.alloc o).alloc o2) := fun o o2 => below_two w o o2
  subst e1 e4 e5 e6 e8
  go_enter Tryz.func11, Tryz.ntmps11
  go_wp2_with (first
    | (go_at_call 32; refine (hR _ ?_).mono ?_; exact h2 _ _; rintro e w1 ⟨rfl, hb1⟩
       have hs1 : w.heap.size + 2 ≤ w1.heap.size := by have := hb1.size; simpa using this
       have hW1 := (h2 _ _).trans (hb1.mono (h2 _ _).size)
       have p9 : w1.cell? ⟨w.heap.size, 9, none⟩ = some (.int .i64 ek1) := (hb1.cell (by show w.heap.size < _; simp; omega)).trans (by simp)
       have r9 : w1.cell? ⟨w.heap.size + 1, 9, none⟩ = some (.int .i64 ek2) := (hb1.cell (by show w.heap.size + 1 < _; simp)).trans (by simp)
       have p10 : w1.cell? ⟨w.heap.size, 10, none⟩ = some (.int .i64 ef1) := (hb1.cell (by show w.heap.size < _; simp; omega)).trans (by simp)
       have r10 : w1.cell? ⟨w.heap.size + 1, 10, none⟩ = some (.int .i64 ef2) := (hb1.cell (by show w.heap.size + 1 < _; simp)).trans (by simp)
       have p11 : w1.cell? ⟨w.heap.size, 11, none⟩ = some (.bool eg1) := (hb1.cell (by show w.heap.size < _; simp; omega)).trans (by simp)
       have r11 : w1.cell? ⟨w.heap.size + 1, 11, none⟩ = some (.bool eg2) := (hb1.cell (by show w.heap.size + 1 < _; simp)).trans (by simp)
       have p12 : w1.cell? ⟨w.heap.size, 12, none⟩ = some (ea1) := (hb1.cell (by show w.heap.size < _; simp; omega)).trans (by simp)
       have r12 : w1.cell? ⟨w.heap.size + 1, 12, none⟩ = some (ea2) := (hb1.cell (by show w.heap.size + 1 < _; simp)).trans (by simp)
       have p13 : w1.cell? ⟨w.heap.size, 13, none⟩ = some (ec1) := (hb1.cell (by show w.heap.size < _; simp; omega)).trans (by simp)
       have r13 : w1.cell? ⟨w.heap.size + 1, 13, none⟩ = some (ec2) := (hb1.cell (by show w.heap.size + 1 < _; simp)).trans (by simp)
       have p14 : w1.cell? ⟨w.heap.size, 14, none⟩ = some (.string em1) := (hb1.cell (by show w.heap.size < _; simp; omega)).trans (by simp)
       have r14 : w1.cell? ⟨w.heap.size + 1, 14, none⟩ = some (.string em2) := (hb1.cell (by show w.heap.size + 1 < _; simp)).trans (by simp)
       have p15 : w1.cell? ⟨w.heap.size, 15, none⟩ = some (es1) := (hb1.cell (by show w.heap.size < _; simp; omega)).trans (by simp)
       have r15 : w1.cell? ⟨w.heap.size + 1, 15, none⟩ = some (es2) := (hb1.cell (by show w.heap.size + 1 < _; simp)).trans (by simp)
       have z1 : Hid (w1.rangeAt w.heap.size 0 [.int .i64 ru1, .string nm1, .string ot1, .bool g1, a1, c1, .int .i64 kk1, .int .i64 nn1, .int .i64 pr1, .int .i64 ek1, .int .i64 ef1, .bool eg1, ea1, ec1, .string em1, es1, po1, .string en1, .int .i64 ve1, ar1, ki1]) := rangeAt_below (World.rangeAt_alloc (range_new w _ 32) _) hb1 (by simp; omega)
       have z2 : Hid (w1.rangeAt (w.heap.size + 1) 0 [.int .i64 ru1, .string nm2, .string ot2, .bool g2, a2, c2, .int .i64 kk1, .int .i64 nn1, .int .i64 pr1, .int .i64 ek2, .int .i64 ef2, .bool eg2, ea2, ec2, .string em2, es2, po2, .string en2, .int .i64 ve1, ar2, ki2]) := rangeAt_below (range_two w _ _ 32) hb1 (by simp))
    | (go_at_call 33; refine (hX _ ?_).mono ?_; exact hW1; rintro e w2 ⟨rfl, hb2⟩
       have hs2 : w.heap.size + 2 ≤ w2.heap.size := by have := hb2.size; omega
       have hW2 := hW1.trans (hb2.mono hW1.size)
       have y1 := rangeAt_below z1.out hb2 (by omega)
       have y2 := rangeAt_below z2.out hb2 (by omega)
       have Y1 : Hid _ := y1
       have Y2 : Hid _ := y2
       clear y1 y2))
  go_ret
  exact ⟨rfl, hW2⟩

set_option maxRecDepth 100000 in
theorem req_L {w : World} {ru1 ru2 kk1 kk2 nn1 nn2 pr1 pr2 ve1 ve2 ek1 ek2 ef1 ef2 : Int} {nm1 nm2 ot1 ot2 en1 en2 em1 em2 : ByteArray} {g1 g2 eg1 eg2 : Bool} {a1 a2 c1 c2 ea1 ea2 ec1 ec2 es1 es2 po1 po2 ar1 ar2 : Value} {ki1 ki2 : Value} (e1 : ru1 = ru2) (e2 : nm1.toList = nm2.toList) (e3 : ot1.toList = ot2.toList) (e4 : kk1 = kk2) (e5 : nn1 = nn2) (e6 : pr1 = pr2) (e7 : en1.toList = en2.toList) (e8 : ve1 = ve2)
    (hR : ∀ w1, Below w.heap.size w w1 → Calls Tryz.prog 32 #[.agg #[.bool g1, a1, c1], .agg #[.bool g2, a2, c2]] w1 fun e w' => e = .returned (.bool true) ∧ Below w1.heap.size w1 w')
    (hX : ∀ w1, Below w.heap.size w w1 → Calls Tryz.prog 33 #[.agg #[.int .i64 ek1, .int .i64 ef1, .bool eg1, ea1, ec1, .string em1, es1], .agg #[.int .i64 ek2, .int .i64 ef2, .bool eg2, ea2, ec2, .string em2, es2]] w1 fun e w' => e = .returned (.bool true) ∧ Below w1.heap.size w1 w')
    (hL : ∀ w1, Below w.heap.size w w1 → Calls Tryz.prog 34 #[.agg #[.int .i64 ru1, .string nm1, .string ot1, .bool g1, a1, c1, .int .i64 kk1, .int .i64 nn1, .int .i64 pr1, .int .i64 ek1, .int .i64 ef1, .bool eg1, ea1, ec1, .string em1, es1, po1, .string en1, .int .i64 ve1, ar1, ki1], .agg #[.int .i64 ru2, .string nm2, .string ot2, .bool g2, a2, c2, .int .i64 kk2, .int .i64 nn2, .int .i64 pr2, .int .i64 ek2, .int .i64 ef2, .bool eg2, ea2, ec2, .string em2, es2, po2, .string en2, .int .i64 ve2, ar2, ki2]] w1 fun e w' => e = .returned (.bool false) ∧ Below w1.heap.size w1 w')
    :
    Calls Tryz.prog 11 #[.agg #[.int .i64 ru1, .string nm1, .string ot1, .bool g1, a1, c1, .int .i64 kk1, .int .i64 nn1, .int .i64 pr1, .int .i64 ek1, .int .i64 ef1, .bool eg1, ea1, ec1, .string em1, es1, po1, .string en1, .int .i64 ve1, ar1, ki1], .agg #[.int .i64 ru2, .string nm2, .string ot2, .bool g2, a2, c2, .int .i64 kk2, .int .i64 nn2, .int .i64 pr2, .int .i64 ek2, .int .i64 ef2, .bool eg2, ea2, ec2, .string em2, es2, po2, .string en2, .int .i64 ve2, ar2, ki2]] w fun e w' => e = .returned (.bool false) ∧ Below w.heap.size w w' := by
  have h2 : ∀ o o2, Below w.heap.size w ((w.alloc o).alloc o2) := fun o o2 => below_two w o o2
  subst e1 e4 e5 e6 e8
  obtain ⟨d, hu, hd⟩ := st_row
  have hHu : Hid (Tryz.prog.underlying 32 = some d) := hu
  clear hu
  go_enter Tryz.func11, Tryz.ntmps11
  go_wp2_with (first
    | (go_at_call 32; refine (hR _ ?_).mono ?_; exact h2 _ _; rintro e w1 ⟨rfl, hb1⟩
       have hs1 : w.heap.size + 2 ≤ w1.heap.size := by have := hb1.size; simpa using this
       have hW1 := (h2 _ _).trans (hb1.mono (h2 _ _).size)
       have p9 : w1.cell? ⟨w.heap.size, 9, none⟩ = some (.int .i64 ek1) := (hb1.cell (by show w.heap.size < _; simp; omega)).trans (by simp)
       have r9 : w1.cell? ⟨w.heap.size + 1, 9, none⟩ = some (.int .i64 ek2) := (hb1.cell (by show w.heap.size + 1 < _; simp)).trans (by simp)
       have p10 : w1.cell? ⟨w.heap.size, 10, none⟩ = some (.int .i64 ef1) := (hb1.cell (by show w.heap.size < _; simp; omega)).trans (by simp)
       have r10 : w1.cell? ⟨w.heap.size + 1, 10, none⟩ = some (.int .i64 ef2) := (hb1.cell (by show w.heap.size + 1 < _; simp)).trans (by simp)
       have p11 : w1.cell? ⟨w.heap.size, 11, none⟩ = some (.bool eg1) := (hb1.cell (by show w.heap.size < _; simp; omega)).trans (by simp)
       have r11 : w1.cell? ⟨w.heap.size + 1, 11, none⟩ = some (.bool eg2) := (hb1.cell (by show w.heap.size + 1 < _; simp)).trans (by simp)
       have p12 : w1.cell? ⟨w.heap.size, 12, none⟩ = some (ea1) := (hb1.cell (by show w.heap.size < _; simp; omega)).trans (by simp)
       have r12 : w1.cell? ⟨w.heap.size + 1, 12, none⟩ = some (ea2) := (hb1.cell (by show w.heap.size + 1 < _; simp)).trans (by simp)
       have p13 : w1.cell? ⟨w.heap.size, 13, none⟩ = some (ec1) := (hb1.cell (by show w.heap.size < _; simp; omega)).trans (by simp)
       have r13 : w1.cell? ⟨w.heap.size + 1, 13, none⟩ = some (ec2) := (hb1.cell (by show w.heap.size + 1 < _; simp)).trans (by simp)
       have p14 : w1.cell? ⟨w.heap.size, 14, none⟩ = some (.string em1) := (hb1.cell (by show w.heap.size < _; simp; omega)).trans (by simp)
       have r14 : w1.cell? ⟨w.heap.size + 1, 14, none⟩ = some (.string em2) := (hb1.cell (by show w.heap.size + 1 < _; simp)).trans (by simp)
       have p15 : w1.cell? ⟨w.heap.size, 15, none⟩ = some (es1) := (hb1.cell (by show w.heap.size < _; simp; omega)).trans (by simp)
       have r15 : w1.cell? ⟨w.heap.size + 1, 15, none⟩ = some (es2) := (hb1.cell (by show w.heap.size + 1 < _; simp)).trans (by simp)
       have z1 : Hid (w1.rangeAt w.heap.size 0 [.int .i64 ru1, .string nm1, .string ot1, .bool g1, a1, c1, .int .i64 kk1, .int .i64 nn1, .int .i64 pr1, .int .i64 ek1, .int .i64 ef1, .bool eg1, ea1, ec1, .string em1, es1, po1, .string en1, .int .i64 ve1, ar1, ki1]) := rangeAt_below (World.rangeAt_alloc (range_new w _ 32) _) hb1 (by simp; omega)
       have z2 : Hid (w1.rangeAt (w.heap.size + 1) 0 [.int .i64 ru1, .string nm2, .string ot2, .bool g2, a2, c2, .int .i64 kk1, .int .i64 nn1, .int .i64 pr1, .int .i64 ek2, .int .i64 ef2, .bool eg2, ea2, ec2, .string em2, es2, po2, .string en2, .int .i64 ve1, ar2, ki2]) := rangeAt_below (range_two w _ _ 32) hb1 (by simp))
    | (go_at_call 33; refine (hX _ ?_).mono ?_; exact hW1; rintro e w2 ⟨rfl, hb2⟩
       have hs2 : w.heap.size + 2 ≤ w2.heap.size := by have := hb2.size; omega
       have hW2 := hW1.trans (hb2.mono hW1.size)
       have y1 := rangeAt_below z1.out hb2 (by omega)
       have y2 := rangeAt_below z2.out hb2 (by omega)
       have Y1 : Hid _ := y1
       have Y2 : Hid _ := y2
       clear y1 y2)
    | (with_reducible refine wpList_load_mid_g ?hg1 32 (.tmp 2) ?ho1 (w.heap.size) 0 ?hx1 [.int .i64 ru1, .string nm1, .string ot1, .bool g1, a1, c1, .int .i64 kk1, .int .i64 nn1, .int .i64 pr1, .int .i64 ek1, .int .i64 ef1, .bool eg1, ea1, ec1, .string em1, es1, po1, .string en1, .int .i64 ve1, ar1, ki1] d ?hc1 ?hu1 ?hd1 ?hi1 ?_
       case ho1 => with_reducible rfl
       case hg1 => rfl
       case hx1 => rfl
       case hc1 => exact Y1.out
       case hu1 => exact hHu.out
       case hd1 => exact hd
       case hi1 => exact st_size)
    | (with_reducible refine wpList_load_mid_g ?hg2 32 (.tmp 3) ?ho2 (w.heap.size + 1) 0 ?hx2 [.int .i64 ru1, .string nm2, .string ot2, .bool g2, a2, c2, .int .i64 kk1, .int .i64 nn1, .int .i64 pr1, .int .i64 ek2, .int .i64 ef2, .bool eg2, ea2, ec2, .string em2, es2, po2, .string en2, .int .i64 ve1, ar2, ki2] d ?hc2 ?hu2 ?hd2 ?hi2 ?_
       case ho2 => with_reducible rfl
       case hg2 => rfl
       case hx2 => rfl
       case hc2 => exact Y2.out
       case hu2 => exact hHu.out
       case hd2 => exact hd
       case hi2 => exact st_size)
    | (go_at_call 34; refine (hL _ ?_).mono ?_; exact hW2; rintro e w3 ⟨rfl, hb3⟩
       have hs3 : w.heap.size + 2 ≤ w3.heap.size := by have := hb3.size; omega
       have hW3 := hW2.trans (hb3.mono hW2.size)))
  go_ret
  exact ⟨rfl, hW3⟩
end Go.Proofs.YtlmifjdbjhcceaaGreatDoor
