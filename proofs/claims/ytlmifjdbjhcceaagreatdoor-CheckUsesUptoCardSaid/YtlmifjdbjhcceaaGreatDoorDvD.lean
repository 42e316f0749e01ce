/-
  Lists of points and of binds.
-/
import Derived.Test.YtlmifjdbjhcceaaGreatDoorDvC
namespace Go.Proofs.YtlmifjdbjhcceaaGreatDoor
open Go Go.RowKit

/-- The 4 cells of one element. -/
structure Va where
  m : ByteArray
  g : Bool
  aq : Option Addr
  an : Nat
  ac : Nat
  cq : Option Addr
  cn : Nat
  cc : Nat

def Va.val (d : Va) : Value := .agg #[.string d.m, .bool d.g, .slice d.aq d.an d.ac, .slice d.cq d.cn d.cc]

structure VaAt (w : World) (b o : Nat) (d : Va) : Prop where
  h0 : w.cell? ⟨b, o, none⟩ = some (.string d.m)
  h1 : w.cell? ⟨b, o + 1, none⟩ = some (.bool d.g)
  h2 : w.cell? ⟨b, o + 2, none⟩ = some (.slice d.aq d.an d.ac)
  h3 : w.cell? ⟨b, o + 3, none⟩ = some (.slice d.cq d.cn d.cc)

theorem VaAt.below {w w' : World} {B b o : Nat} {d : Va} (h : VaAt w b o d) (hb : Below B w w') (hB : b < B) : VaAt w' b o d :=
  ⟨(hb.cell (by exact hB)).trans h.h0, (hb.cell (by exact hB)).trans h.h1, (hb.cell (by exact hB)).trans h.h2, (hb.cell (by exact hB)).trans h.h3⟩

set_option maxRecDepth 100000 in
theorem eqVa_walk (b o cap b2 o2 cap2 n : Nat) (xs ys : Nat → Va) (P : Nat → Bool) (w : World) (hn : n ≤ 1099511627776)
    (hcx : ∀ i, i < n → VaAt w b (o + i * 4) (xs i)) (hcy : ∀ i, i < n → VaAt w b2 (o2 + i * 4) (ys i)) (hb1 : b < w.heap.size) (hb2 : b2 < w.heap.size)
    (hP : ∀ i, i < n → ∀ w1, Below w.heap.size w w1 → Calls Tryz.prog 27 #[(xs i).val, (ys i).val] w1 fun e w' => e = .returned (.bool (P i)) ∧ Below w1.heap.size w1 w') :
    Calls Tryz.prog 29 #[.slice (some ⟨b, o, none⟩) n cap, .slice (some ⟨b2, o2, none⟩) n cap2, .func (.func 27) #[] #[]] w fun e w' => e = .returned (.bool ((List.range n).all P)) ∧ Below w.heap.size w w' := by
  go_enter Tryz.func29, Tryz.ntmps29
  go_wp2
  go_loopw [17] (fun i wr => ∃ k : Nat, k ≤ n ∧ i = .int .i64 k ∧ (∀ j, j < k → P j = true) ∧ Below w.heap.size w wr) (fun i _ => n - (intOf i).toNat)
  case atStart => exact ⟨0, Nat.zero_le _, rfl, fun j hj => by omega, Below.refl _ _⟩
  case round =>
    obtain ⟨k, hk, rfl, hag, hbw⟩ := hrel
    have hHid : Hid (∀ j, j < k → P j = true) := hag
    clear hag
    by_cases hlt : k < n
    · have hlt' : (k : Int) < (n : Int) := by omega
      obtain ⟨x0, x1, x2, x3⟩ := (hcx k hlt).below hbw hb1
      have hy : ∀ ob, VaAt (wr.alloc ob) b2 (o2 + k * 4) (ys k) := fun ob => (hcy k hlt).below (hbw.alloc hbw.size ob) hb2
      have y0 := fun ob => (hy ob).h0
      have y1 := fun ob => (hy ob).h1
      have y2 := fun ob => (hy ob).h2
      have y3 := fun ob => (hy ob).h3
      clear hy
      have hPk := hP k hlt
      simp only [Va.val] at hPk
      have hws := hbw.size
      have hal : ∀ o o2, Below w.heap.size w ((wr.alloc o).alloc o2) := fun o o2 => (hbw.alloc hws _).alloc (by simp; omega) _
      clear hcx hcy hP
      go_wp2_with (go_at_call 27; refine (hPk _ ?_).mono ?_; exact hal _ _; rintro e w5 ⟨rfl, hb5⟩)
      · go_ret
        have hp : P k = false := by
          cases h : P k <;> simp_all
        have hall : (List.range n).all P = false := by
          rw [List.all_eq_false]
          exact ⟨k, List.mem_range.2 hlt, by simp [hp]⟩
        rw [hall]
        exact ⟨rfl, (hal _ _).trans (hb5.mono (hal _ _).size)⟩
      · go_roundw
        case rel =>
          refine ⟨k + 1, by omega, by go_num, fun j hj => ?_, (hal _ _).trans (hb5.mono (hal _ _).size)⟩
          rcases Nat.lt_or_ge j k with h | h
          · exact hHid.out j h
          · have : j = k := by omega
            subst this
            cases h : P j <;> simp_all
        case measure => simp [intOf]; omega
    · have hk' : k = n := by omega
      subst hk'
      go_wp2
      go_ret
      refine ⟨?_, hbw⟩
      have : (List.range k).all P = true := by
        rw [List.all_eq_true]
        intro j hj
        exact hHid.out j (List.mem_range.1 hj)
      rw [this]
      rfl

set_option maxRecDepth 100000 in
theorem eqVa_len (q q' : Option Addr) (m n cap cap' : Nat) (fv : Value) (w : World) (_hm : m ≤ 1099511627776) (_hn : n ≤ 1099511627776) (h : ¬ m = n) : Calls Tryz.prog 29 #[.slice q m cap, .slice q' n cap', fv] w fun e w' => e = .returned (.bool false) ∧ w' = w := by
  have h' : ¬ (m : Int) = (n : Int) := by omega
  go_enter Tryz.func29, Tryz.ntmps29
  go_wp2
  go_ret
  exact ⟨rfl, rfl⟩

set_option maxRecDepth 100000 in
theorem eqVa_none (q q' : Option Addr) (cap cap' : Nat) (fv : Value) (w : World) : Calls Tryz.prog 29 #[.slice q 0 cap, .slice q' 0 cap', fv] w fun e w' => e = .returned (.bool true) ∧ w' = w := by
  go_enter Tryz.func29, Tryz.ntmps29
  go_wp2
  refine wp_loop_once ?_
  go_wp2
  go_ret
  exact ⟨rfl, rfl⟩

end Go.Proofs.YtlmifjdbjhcceaaGreatDoor

namespace Go.Proofs.YtlmifjdbjhcceaaGreatDoor
open Go Go.RowKit

/-- The 8 cells of one element. -/
structure Bi where
  m : ByteArray
  ek : Int
  ef : Int
  eg : Bool
  eaq : Option Addr
  ean : Nat
  eac : Nat
  ecq : Option Addr
  ecn : Nat
  ecc : Nat
  em : ByteArray
  esq : Option Addr
  esn : Nat
  esc : Nat

def Bi.val (d : Bi) : Value := .agg #[.string d.m, .int .i64 d.ek, .int .i64 d.ef, .bool d.eg, .slice d.eaq d.ean d.eac, .slice d.ecq d.ecn d.ecc, .string d.em, .slice d.esq d.esn d.esc]

structure BiAt (w : World) (b o : Nat) (d : Bi) : Prop where
  h0 : w.cell? ⟨b, o, none⟩ = some (.string d.m)
  h1 : w.cell? ⟨b, o + 1, none⟩ = some (.int .i64 d.ek)
  h2 : w.cell? ⟨b, o + 2, none⟩ = some (.int .i64 d.ef)
  h3 : w.cell? ⟨b, o + 3, none⟩ = some (.bool d.eg)
  h4 : w.cell? ⟨b, o + 4, none⟩ = some (.slice d.eaq d.ean d.eac)
  h5 : w.cell? ⟨b, o + 5, none⟩ = some (.slice d.ecq d.ecn d.ecc)
  h6 : w.cell? ⟨b, o + 6, none⟩ = some (.string d.em)
  h7 : w.cell? ⟨b, o + 7, none⟩ = some (.slice d.esq d.esn d.esc)

theorem BiAt.below {w w' : World} {B b o : Nat} {d : Bi} (h : BiAt w b o d) (hb : Below B w w') (hB : b < B) : BiAt w' b o d :=
  ⟨(hb.cell (by exact hB)).trans h.h0, (hb.cell (by exact hB)).trans h.h1, (hb.cell (by exact hB)).trans h.h2, (hb.cell (by exact hB)).trans h.h3, (hb.cell (by exact hB)).trans h.h4, (hb.cell (by exact hB)).trans h.h5, (hb.cell (by exact hB)).trans h.h6, (hb.cell (by exact hB)).trans h.h7⟩

set_option maxRecDepth 100000 in
theorem eqBi_walk (b o cap b2 o2 cap2 n : Nat) (xs ys : Nat → Bi) (P : Nat → Bool) (w : World) (hn : n ≤ 1099511627776)
    (hcx : ∀ i, i < n → BiAt w b (o + i * 8) (xs i)) (hcy : ∀ i, i < n → BiAt w b2 (o2 + i * 8) (ys i)) (hb1 : b < w.heap.size) (hb2 : b2 < w.heap.size)
    (hP : ∀ i, i < n → ∀ w1, Below w.heap.size w w1 → Calls Tryz.prog 28 #[(xs i).val, (ys i).val] w1 fun e w' => e = .returned (.bool (P i)) ∧ Below w1.heap.size w1 w') :
    Calls Tryz.prog 30 #[.slice (some ⟨b, o, none⟩) n cap, .slice (some ⟨b2, o2, none⟩) n cap2, .func (.func 28) #[] #[]] w fun e w' => e = .returned (.bool ((List.range n).all P)) ∧ Below w.heap.size w w' := by
  go_enter Tryz.func30, Tryz.ntmps30
  go_wp2
  go_loopw [17] (fun i wr => ∃ k : Nat, k ≤ n ∧ i = .int .i64 k ∧ (∀ j, j < k → P j = true) ∧ Below w.heap.size w wr) (fun i _ => n - (intOf i).toNat)
  case atStart => exact ⟨0, Nat.zero_le _, rfl, fun j hj => by omega, Below.refl _ _⟩
  case round =>
    obtain ⟨k, hk, rfl, hag, hbw⟩ := hrel
    have hHid : Hid (∀ j, j < k → P j = true) := hag
    clear hag
    by_cases hlt : k < n
    · have hlt' : (k : Int) < (n : Int) := by omega
      obtain ⟨x0, x1, x2, x3, x4, x5, x6, x7⟩ := (hcx k hlt).below hbw hb1
      have hy : ∀ ob, BiAt (wr.alloc ob) b2 (o2 + k * 8) (ys k) := fun ob => (hcy k hlt).below (hbw.alloc hbw.size ob) hb2
      have y0 := fun ob => (hy ob).h0
      have y1 := fun ob => (hy ob).h1
      have y2 := fun ob => (hy ob).h2
      have y3 := fun ob => (hy ob).h3
      have y4 := fun ob => (hy ob).h4
      have y5 := fun ob => (hy ob).h5
      have y6 := fun ob => (hy ob).h6
      have y7 := fun ob => (hy ob).h7
      clear hy
      have hPk := hP k hlt
      simp only [Bi.val] at hPk
      have hws := hbw.size
      have hal : ∀ o o2, Below w.heap.size w ((wr.alloc o).alloc o2) := fun o o2 => (hbw.alloc hws _).alloc (by simp; omega) _
      clear hcx hcy hP
      go_wp2_with (go_at_call 28; refine (hPk _ ?_).mono ?_; exact hal _ _; rintro e w5 ⟨rfl, hb5⟩)
      · go_ret
        have hp : P k = false := by
          cases h : P k <;> simp_all
        have hall : (List.range n).all P = false := by
          rw [List.all_eq_false]
          exact ⟨k, List.mem_range.2 hlt, by simp [hp]⟩
        rw [hall]
        exact ⟨rfl, (hal _ _).trans (hb5.mono (hal _ _).size)⟩
      · go_roundw
        case rel =>
          refine ⟨k + 1, by omega, by go_num, fun j hj => ?_, (hal _ _).trans (hb5.mono (hal _ _).size)⟩
          rcases Nat.lt_or_ge j k with h | h
          · exact hHid.out j h
          · have : j = k := by omega
            subst this
            cases h : P j <;> simp_all
        case measure => simp [intOf]; omega
    · have hk' : k = n := by omega
      subst hk'
      go_wp2
      go_ret
      refine ⟨?_, hbw⟩
      have : (List.range k).all P = true := by
        rw [List.all_eq_true]
        intro j hj
        exact hHid.out j (List.mem_range.1 hj)
      rw [this]
      rfl

set_option maxRecDepth 100000 in
theorem eqBi_len (q q' : Option Addr) (m n cap cap' : Nat) (fv : Value) (w : World) (_hm : m ≤ 1099511627776) (_hn : n ≤ 1099511627776) (h : ¬ m = n) : Calls Tryz.prog 30 #[.slice q m cap, .slice q' n cap', fv] w fun e w' => e = .returned (.bool false) ∧ w' = w := by
  have h' : ¬ (m : Int) = (n : Int) := by omega
  go_enter Tryz.func30, Tryz.ntmps30
  go_wp2
  go_ret
  exact ⟨rfl, rfl⟩

set_option maxRecDepth 100000 in
theorem eqBi_none (q q' : Option Addr) (cap cap' : Nat) (fv : Value) (w : World) : Calls Tryz.prog 30 #[.slice q 0 cap, .slice q' 0 cap', fv] w fun e w' => e = .returned (.bool true) ∧ w' = w := by
  go_enter Tryz.func30, Tryz.ntmps30
  go_wp2
  refine wp_loop_once ?_
  go_wp2
  go_ret
  exact ⟨rfl, rfl⟩

end Go.Proofs.YtlmifjdbjhcceaaGreatDoor

namespace Go.Proofs.YtlmifjdbjhcceaaGreatDoor
open Go Go.RowKit

/-- check.Equal's first closure: one point's value. -/
theorem point_step {w : World} {m1 m2 : ByteArray} {g1 g2 : Bool} {a1 c1 a2 c2 : Value} {R : Bool}
    (hR : ∀ w1, Below w.heap.size w w1 → Calls Tryz.prog 25 #[.agg #[.bool g1, a1, c1], .agg #[.bool g2, a2, c2]] w1 fun e w' => e = .returned (.bool R) ∧ Below w1.heap.size w1 w') :
    Calls Tryz.prog 27 #[.agg #[.string m1, .bool g1, a1, c1], .agg #[.string m2, .bool g2, a2, c2]] w fun e w' => e = .returned (.bool (decide (m1.toList = m2.toList) && R)) ∧ Below w.heap.size w w' := by
  have h2 : ∀ o o2, Below w.heap.size w ((w.alloc o).alloc o2) := fun o o2 => below_two w o o2
  by_cases hm : m1.toList = m2.toList
  · go_enter Tryz.func27, Tryz.ntmps27
    go_wp2_with (go_at_call 25; refine (hR _ ?_).mono ?_; exact h2 _ _; rintro e w1 ⟨rfl, hb1⟩)
    go_ret
    exact ⟨by simp [hm], (h2 _ _).trans (hb1.mono (h2 _ _).size)⟩
  · go_enter Tryz.func27, Tryz.ntmps27
    go_wp2_with fail
    go_ret
    exact ⟨by simp [hm], h2 _ _⟩

/-- check.Equal's second closure: one bind. -/
theorem bind_step {w : World} {m1 m2 : ByteArray} {k1 f1 k2 f2 : Int} {g1 g2 : Bool} {a1 c1 s1 a2 c2 s2 : Value} {n1 n2 : ByteArray} {R : Bool}
    (hR : ∀ w1, Below w.heap.size w w1 → Calls Tryz.prog 26 #[.agg #[.int .i64 k1, .int .i64 f1, .bool g1, a1, c1, .string n1, s1], .agg #[.int .i64 k2, .int .i64 f2, .bool g2, a2, c2, .string n2, s2]] w1 fun e w' => e = .returned (.bool R) ∧ Below w1.heap.size w1 w') :
    Calls Tryz.prog 28 #[.agg #[.string m1, .int .i64 k1, .int .i64 f1, .bool g1, a1, c1, .string n1, s1], .agg #[.string m2, .int .i64 k2, .int .i64 f2, .bool g2, a2, c2, .string n2, s2]] w fun e w' => e = .returned (.bool (decide (m1.toList = m2.toList) && R)) ∧ Below w.heap.size w w' := by
  have h2 : ∀ o o2, Below w.heap.size w ((w.alloc o).alloc o2) := fun o o2 => below_two w o o2
  by_cases hm : m1.toList = m2.toList
  · go_enter Tryz.func28, Tryz.ntmps28
    go_wp2_with (go_at_call 26; refine (hR _ ?_).mono ?_; exact h2 _ _; rintro e w1 ⟨rfl, hb1⟩)
    go_ret
    exact ⟨by simp [hm], (h2 _ _).trans (hb1.mono (h2 _ _).size)⟩
  · go_enter Tryz.func28, Tryz.ntmps28
    go_wp2_with fail
    go_ret
    exact ⟨by simp [hm], h2 _ _⟩
end Go.Proofs.YtlmifjdbjhcceaaGreatDoor

namespace Go.Proofs.YtlmifjdbjhcceaaGreatDoor
open Go Go.RowKit

/-- A point's value as data. -/
structure Pt where
  m : ByteArray
  g : Bool
  nu : List Int
  de : List Int
def Pt.eq (p p' : Pt) : Bool := decide (p.m.toList = p'.m.toList) && ratEq p.g p.nu p.de p'.g p'.nu p'.de
def PtOk (w : World) (p : Pt) (d : Va) : Prop :=
  d.m = p.m ∧ d.g = p.g ∧ Sl w (.slice d.aq d.an d.ac) p.nu ∧ Sl w (.slice d.cq d.cn d.cc) p.de ∧ p.nu.length ≤ 1048576 ∧ p.de.length ≤ 1048576
theorem PtOk.below {w w' : World} (hb : Below w.heap.size w w') {p : Pt} {d : Va} (h : PtOk w p d) : PtOk w' p d :=
  ⟨h.1, h.2.1, h.2.2.1.below hb, h.2.2.2.1.below hb, h.2.2.2.2⟩
theorem pt_ok {w : World} {p p' : Pt} {d e : Va} (h : PtOk w p d) (h' : PtOk w p' e) : Calls Tryz.prog 27 #[d.val, e.val] w fun r w' => r = .returned (.bool (p.eq p')) ∧ Below w.heap.size w w' := by
  obtain ⟨h1, h2, h3, h4, h5, h6⟩ := h
  obtain ⟨k1, k2, k3, k4, k5, k6⟩ := h'
  unfold Pt.eq
  rw [← h1, ← h2, ← k1, ← k2]
  exact point_step fun w1 hw => sameRat_ok (h3.below hw) (k3.below hw) (h4.below hw) (k4.below hw) (by omega) (by omega) (by omega) (by omega)

/-- A bind as data. -/
structure Bd where
  m : ByteArray
  x : Ex
def Bd.eq (p p' : Bd) : Bool := decide (p.m.toList = p'.m.toList) && p.x.eq p'.x
/-- The expression's seven cells of a bind. -/
def Bi.nd (d : Bi) : Nd := ⟨d.ek, d.ef, d.eg, d.eaq, d.ean, d.eac, d.ecq, d.ecn, d.ecc, d.em, d.esq, d.esn, d.esc⟩
def BdOk (w : World) (p : Bd) (d : Bi) : Prop := d.m = p.m ∧ ExOk w p.x d.nd
theorem BdOk.below {w w' : World} (hb : Below w.heap.size w w') {p : Bd} {d : Bi} (h : BdOk w p d) : BdOk w' p d := ⟨h.1, h.2.below hb⟩
theorem bd_ok {w : World} {p p' : Bd} {d e : Bi} (h : BdOk w p d) (h' : BdOk w p' e) : Calls Tryz.prog 28 #[d.val, e.val] w fun r w' => r = .returned (.bool (p.eq p')) ∧ Below w.heap.size w w' := by
  unfold Bd.eq
  rw [← h.1, ← h'.1]
  exact bind_step fun w1 hw => sameExpr_ok p.x p'.x d.nd e.nd w1 (h.2.below hw) (h'.2.below hw)

/-- A list of them in memory. -/
def PtsOk (w : World) (q : Option Addr) (n : Nat) (ps : Nat → Pt) : Prop :=
  n ≤ 1099511627776 ∧ (n = 0 ∨ ∃ b o, q = some ⟨b, o, none⟩ ∧ b < w.heap.size ∧ ∃ ds : Nat → Va, ∀ i, i < n → VaAt w b (o + i * 4) (ds i) ∧ PtOk w (ps i) (ds i))
theorem PtsOk.below {w w' : World} (hb : Below w.heap.size w w') {q : Option Addr} {n : Nat} {ps : Nat → Pt} (h : PtsOk w q n ps) : PtsOk w' q n ps := by
  refine ⟨h.1, h.2.imp id ?_⟩
  rintro ⟨b, o, e, hlt, ds, hds⟩
  exact ⟨b, o, e, Nat.lt_of_lt_of_le hlt hb.size, ds, fun i hi => ⟨(hds i hi).1.below hb hlt, (hds i hi).2.below hb⟩⟩
def PtsEq (n : Nat) (ps : Nat → Pt) (n' : Nat) (ps' : Nat → Pt) : Bool := decide (n = n') && (List.range n).all fun i => (ps i).eq (ps' i)
theorem Pts_ok {w : World} {q q' : Option Addr} {n n' cap cap' : Nat} {ps ps' : Nat → Pt} (h : PtsOk w q n ps) (h' : PtsOk w q' n' ps') :
    Calls Tryz.prog 29 #[.slice q n cap, .slice q' n' cap', .func (.func 27) #[] #[]] w fun r w' => r = .returned (.bool (PtsEq n ps n' ps')) ∧ Below w.heap.size w w' := by
  obtain ⟨x6, x7⟩ := h
  obtain ⟨y6, y7⟩ := h'
  unfold PtsEq
  by_cases hn : n = n'
  · subst hn
    by_cases h0 : n = 0
    · subst h0
      refine (eqVa_none _ _ _ _ _ w).mono ?_
      rintro r w' ⟨rfl, rfl⟩
      exact ⟨by simp, Below.refl _ _⟩
    · rcases x7 with h | ⟨b, o, rfl, hlt, ds, hds⟩
      · exact absurd h h0
      rcases y7 with h | ⟨b', o', rfl, hlt', es, hes⟩
      · exact absurd h h0
      simp only [decide_true, Bool.true_and]
      exact eqVa_walk b o _ b' o' _ n ds es (fun i => (ps i).eq (ps' i)) w x6 (fun i hi => (hds i hi).1) (fun i hi => (hes i hi).1) hlt hlt'
        (fun i hi w2 h2 => pt_ok ((hds i hi).2.below h2) ((hes i hi).2.below h2))
  · refine (eqVa_len _ _ _ _ _ _ _ w x6 y6 hn).mono ?_
    rintro r w' ⟨rfl, rfl⟩
    exact ⟨by simp [hn], Below.refl _ _⟩

/-- A list of them in memory. -/
def BdsOk (w : World) (q : Option Addr) (n : Nat) (ps : Nat → Bd) : Prop :=
  n ≤ 1099511627776 ∧ (n = 0 ∨ ∃ b o, q = some ⟨b, o, none⟩ ∧ b < w.heap.size ∧ ∃ ds : Nat → Bi, ∀ i, i < n → BiAt w b (o + i * 8) (ds i) ∧ BdOk w (ps i) (ds i))
theorem BdsOk.below {w w' : World} (hb : Below w.heap.size w w') {q : Option Addr} {n : Nat} {ps : Nat → Bd} (h : BdsOk w q n ps) : BdsOk w' q n ps := by
  refine ⟨h.1, h.2.imp id ?_⟩
  rintro ⟨b, o, e, hlt, ds, hds⟩
  exact ⟨b, o, e, Nat.lt_of_lt_of_le hlt hb.size, ds, fun i hi => ⟨(hds i hi).1.below hb hlt, (hds i hi).2.below hb⟩⟩
def BdsEq (n : Nat) (ps : Nat → Bd) (n' : Nat) (ps' : Nat → Bd) : Bool := decide (n = n') && (List.range n).all fun i => (ps i).eq (ps' i)
theorem Bds_ok {w : World} {q q' : Option Addr} {n n' cap cap' : Nat} {ps ps' : Nat → Bd} (h : BdsOk w q n ps) (h' : BdsOk w q' n' ps') :
    Calls Tryz.prog 30 #[.slice q n cap, .slice q' n' cap', .func (.func 28) #[] #[]] w fun r w' => r = .returned (.bool (BdsEq n ps n' ps')) ∧ Below w.heap.size w w' := by
  obtain ⟨x6, x7⟩ := h
  obtain ⟨y6, y7⟩ := h'
  unfold BdsEq
  by_cases hn : n = n'
  · subst hn
    by_cases h0 : n = 0
    · subst h0
      refine (eqBi_none _ _ _ _ _ w).mono ?_
      rintro r w' ⟨rfl, rfl⟩
      exact ⟨by simp, Below.refl _ _⟩
    · rcases x7 with h | ⟨b, o, rfl, hlt, ds, hds⟩
      · exact absurd h h0
      rcases y7 with h | ⟨b', o', rfl, hlt', es, hes⟩
      · exact absurd h h0
      simp only [decide_true, Bool.true_and]
      exact eqBi_walk b o _ b' o' _ n ds es (fun i => (ps i).eq (ps' i)) w x6 (fun i hi => (hds i hi).1) (fun i hi => (hes i hi).1) hlt hlt'
        (fun i hi w2 h2 => bd_ok ((hds i hi).2.below h2) ((hes i hi).2.below h2))
  · refine (eqBi_len _ _ _ _ _ _ _ w x6 y6 hn).mono ?_
    rintro r w' ⟨rfl, rfl⟩
    exact ⟨by simp [hn], Below.refl _ _⟩
end Go.Proofs.YtlmifjdbjhcceaaGreatDoor

namespace Go.Proofs.YtlmifjdbjhcceaaGreatDoor
open Go Go.RowKit

/-- check.Equal, one level, the first test fails. -/
theorem equal_first {w : World} {ru1 ru2 kk1 kk2 nn1 nn2 pr1 pr2 ve1 ve2 ek1 ek2 ef1 ef2 : Int} {nm1 nm2 ot1 ot2 en1 en2 em1 em2 : ByteArray} {g1 g2 eg1 eg2 : Bool} {a1 a2 c1 c2 ea1 ea2 ec1 ec2 es1 es2 po1 po2 ar1 ar2 ki1 ki2 : Value} 
    (h : ¬ (ru1 = ru2 ∧ nm1.toList = nm2.toList ∧ ot1.toList = ot2.toList ∧ en1.toList = en2.toList ∧ ve1 = ve2)) :
    Calls Tryz.prog 10 #[.agg #[.int .i64 ru1, .string nm1, .string ot1, .bool g1, a1, c1, .int .i64 kk1, .int .i64 nn1, .int .i64 pr1, .int .i64 ek1, .int .i64 ef1, .bool eg1, ea1, ec1, .string em1, es1, po1, .string en1, .int .i64 ve1, ar1, ki1],
      .agg #[.int .i64 ru2, .string nm2, .string ot2, .bool g2, a2, c2, .int .i64 kk2, .int .i64 nn2, .int .i64 pr2, .int .i64 ek2, .int .i64 ef2, .bool eg2, ea2, ec2, .string em2, es2, po2, .string en2, .int .i64 ve2, ar2, ki2]] w
      fun e w' => e = .returned (.bool false) ∧ Below w.heap.size w w' := by
  have h2 : ∀ o o2, Below w.heap.size w ((w.alloc o).alloc o2) := fun o o2 => below_two w o o2
  by_cases h1 : ru1 = ru2
  · by_cases h3 : nm1.toList = nm2.toList
    · by_cases h4 : ot1.toList = ot2.toList
      · by_cases h5 : en1.toList = en2.toList
        · have h6 : ¬ ve1 = ve2 := fun h6 => h ⟨h1, h3, h4, h5, h6⟩
          clear h
          subst h1
          go_enter Tryz.func10, Tryz.ntmps10
          go_wp2_with fail
          go_ret
          exact ⟨rfl, h2 _ _⟩
        · clear h
          subst h1
          go_enter Tryz.func10, Tryz.ntmps10
          go_wp2_with fail
          go_ret
          exact ⟨rfl, h2 _ _⟩
      · clear h
        subst h1
        go_enter Tryz.func10, Tryz.ntmps10
        go_wp2_with fail
        go_ret
        exact ⟨rfl, h2 _ _⟩
    · clear h
      subst h1
      go_enter Tryz.func10, Tryz.ntmps10
      go_wp2_with fail
      go_ret
      exact ⟨rfl, h2 _ _⟩
  · clear h
    go_enter Tryz.func10, Tryz.ntmps10
    go_wp2_with fail
    go_ret
    exact ⟨rfl, h2 _ _⟩
end Go.Proofs.YtlmifjdbjhcceaaGreatDoor
