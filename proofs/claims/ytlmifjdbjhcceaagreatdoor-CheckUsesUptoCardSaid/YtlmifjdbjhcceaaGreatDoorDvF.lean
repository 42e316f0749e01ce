/-
  check.Equal whole; the reference's lists.
-/
import Derived.Test.YtlmifjdbjhcceaaGreatDoorDvA
import Derived.Deep.MidRow
import Derived.Deep.WholeRow
import Derived.Test.YtlmifjdbjhcceaaGreatDoorDvE
import Derived.Deep.RegionHeld3
import Derived.Deep.QuietTactic
import Derived.BigQuiet
namespace Go.Proofs.YtlmifjdbjhcceaaGreatDoor
open Go Go.RowKit

theorem st_row : ∃ d, Tryz.prog.underlying 32 = some d ∧ d.isRow = true := by
  have h : (Tryz.prog.underlying 32).map TypeDesc.isRow = some true := by kernel_rfl
  cases hd : Tryz.prog.underlying 32 with
  | none => rw [hd] at h; cases h
  | some d => rw [hd] at h; exact ⟨d, rfl, by simpa using h⟩
theorem st_size : (Tryz.prog.info? 32).map (·.size) = some 21 := by kernel_rfl

theorem rangeAt_below {w w' : World} {B b o : Nat} {cs : List Value} (h : w.rangeAt b o cs) (hb : Below B w w') (hB : b < B) : w'.rangeAt b o cs :=
  fun j v hv => (hb.cell (by exact hB)).trans (h j v hv)

/-- A whole row goes into the block that was made last. -/
theorem wpList_store_new {P : Program} {ops : Array Oper} {rest : List Oper} {op : Oper} {a : Act} {w0 : World} {Q : Exit → Act → World → Prop} {c : Array Value} (hgd : op.guard = none) (ty : TypeId) (x y : Operand) (ho : op.op = .store ty x y)
    (cells : Array Value) (H : Nat) (hH : w0.heap.size = H) (hx : a.eval x = .pointer (some ⟨H, 0, none⟩)) (hy : a.eval y = .agg cells)
    (hc : c.size = cells.size) (hi : (P.info? ty).map (·.size) = some cells.size) (h1 : cells.all (·.oneCell') = true)
    (h : wpList P ops Q rest (a.put op.dst undef) (w0.alloc (.cells cells ty))) : wpList P ops Q (op :: rest) a (w0.alloc (.cells c ty)) :=
  wpList_plain hgd fun _ hK => by
    subst hH
    unfold Oper.wp execOp
    simp only [ho, hx, hy, Instr.storeAt, Instr.sureAddr, Sem.run_bind, Sem.run_pure, Result.andThen_ok, run_storeVar_new w0 ty c cells hi hc h1]
    exact hK _ _ h

theorem range_new (w : World) (cs : List Value) (t : TypeId) : (w.alloc (.cells cs.toArray t)).rangeAt w.heap.size 0 cs := by
  have h := World.rangeAt_of_block (heap_alloc_last w (.cells cs.toArray t)) 0 cs.length
  simpa using h

set_option maxRecDepth 100000 in
theorem eqSt_walk (b o cap b2 o2 cap2 n : Nat) (xs ys : Nat → List Value) (P : Nat → Bool) (w : World) (hn : n ≤ 1099511627776)
    (hcx : ∀ i, i < n → w.rangeAt b (o + i * 21) (xs i)) (hcy : ∀ i, i < n → w.rangeAt b2 (o2 + i * 21) (ys i)) (hb1 : b < w.heap.size) (hb2 : b2 < w.heap.size)
    (hlx : ∀ i, i < n → (xs i).length = 21 ∧ (xs i).toArray.all (·.oneCell') = true) (hly : ∀ i, i < n → (ys i).length = 21 ∧ (ys i).toArray.all (·.oneCell') = true)
    (hP : ∀ i, i < n → ∀ w1, Below w.heap.size w w1 → Calls Tryz.prog 10 #[.agg (xs i).toArray, .agg (ys i).toArray] w1 fun e w' => e = .returned (.bool (P i)) ∧ Below w1.heap.size w1 w') :
    Calls Tryz.prog 31 #[.slice (some ⟨b, o, none⟩) n cap, .slice (some ⟨b2, o2, none⟩) n cap2, .func (.func 10) #[] #[]] w fun e w' => e = .returned (.bool ((List.range n).all P)) ∧ Below w.heap.size w w' := by
  go_enter Tryz.func31, Tryz.ntmps31
  go_wp2
  go_loopw [17] (fun i wr => ∃ k : Nat, k ≤ n ∧ i = .int .i64 k ∧ (∀ j, j < k → P j = true) ∧ Below w.heap.size w wr) (fun i _ => n - (intOf i).toNat)
  case atStart => exact ⟨0, Nat.zero_le _, rfl, fun j hj => by omega, Below.refl _ _⟩
  case round =>
    obtain ⟨k, hk, rfl, hag, hbw⟩ := hrel
    have hHid : Hid (∀ j, j < k → P j = true) := hag
    clear hag
    by_cases hlt : k < n
    · have hlt' : (k : Int) < (n : Int) := by omega
      have hPk := hP k hlt
      have hrx := hcx k hlt
      have hry := hcy k hlt
      obtain ⟨hlx', hox⟩ := hlx k hlt
      obtain ⟨hly', hoy⟩ := hly k hlt
      clear hcx hcy hP hlx hly
      generalize xs k = cx at *
      generalize ys k = cy at *
      have hws := hbw.size
      have hrx' : wr.rangeAt b (o + k * 21) cx := rangeAt_below hrx hbw hb1
      have hry' : wr.rangeAt b2 (o2 + k * 21) cy := rangeAt_below hry hbw hb2
      obtain ⟨d, hu, hd⟩ := st_row
      have hHu : Hid (Tryz.prog.underlying 32 = some d) := hu
      have hox' : Hid (cx.toArray.all (·.oneCell') = true) := hox
      have hoy' : Hid (cy.toArray.all (·.oneCell') = true) := hoy
      have hal : ∀ o o2, Below w.heap.size w ((wr.alloc o).alloc o2) := fun o o2 => (hbw.alloc hws _).alloc (by simp; omega) _
      clear hu hox hoy hrx hry
      go_wp2_with (first
        | (with_reducible refine wpList_load_mid ?gq1 32 (.tmp 20) ?hoq1 b (o + k * 21) ?hxq1 cx d ?hcq1 ?huq1 ?hdq1 ?hiq1 ?_
           case hoq1 => with_reducible rfl
           case gq1 => rfl
           case hxq1 => rfl
           case hcq1 => exact hrx'
           case huq1 => exact hHu.out
           case hdq1 => exact hd
           case hiq1 => (rw [hlx']; exact st_size))
        | (with_reducible refine wpList_store_new ?gq2 32 (.tmp 8) (.tmp 21) ?hoq2 cx.toArray wr.heap.size rfl ?hxq2 ?hyq2 ?hcq2 ?hiq2 ?h1q2 ?_
           case hoq2 => with_reducible rfl
           case gq2 => rfl
           case hxq2 => rfl
           case hyq2 => rfl
           case hcq2 => simp [hlx']
           case hiq2 => (simp only [List.size_toArray, hlx']; exact st_size)
           case h1q2 => exact hox'.out)
        | (with_reducible refine wpList_load_mid ?gq3 32 (.tmp 24) ?hoq3 b2 (o2 + k * 21) ?hxq3 cy d ?hcq3 ?huq3 ?hdq3 ?hiq3 ?_
           case hoq3 => with_reducible rfl
           case gq3 => rfl
           case hxq3 => rfl
           case hcq3 => exact World.rangeAt_alloc hry' _
           case huq3 => exact hHu.out
           case hdq3 => exact hd
           case hiq3 => (rw [hly']; exact st_size))
        | (with_reducible refine wpList_store_new ?gq4 32 (.tmp 9) (.tmp 25) ?hoq4 cy.toArray (wr.heap.size + 1) (by simp) ?hxq4 ?hyq4 ?hcq4 ?hiq4 ?h1q4 ?_
           case hoq4 => with_reducible rfl
           case gq4 => rfl
           case hxq4 => rfl
           case hyq4 => rfl
           case hcq4 => simp [hly']
           case hiq4 => (simp only [List.size_toArray, hly']; exact st_size)
           case h1q4 => exact hoy'.out)
        | (with_reducible refine wpList_load_mid ?gq5 32 (.tmp 8) ?hoq5 wr.heap.size 0 ?hxq5 cx d ?hcq5 ?huq5 ?hdq5 ?hiq5 ?_
           case hoq5 => with_reducible rfl
           case gq5 => rfl
           case hxq5 => rfl
           case hcq5 => exact World.rangeAt_alloc (range_new _ _ _) _
           case huq5 => exact hHu.out
           case hdq5 => exact hd
           case hiq5 => (rw [hlx']; exact st_size))
        | (with_reducible refine wpList_load_mid ?gq6 32 (.tmp 9) ?hoq6 (wr.heap.size + 1) 0 ?hxq6 cy d ?hcq6 ?huq6 ?hdq6 ?hiq6 ?_
           case hoq6 => with_reducible rfl
           case gq6 => rfl
           case hxq6 => rfl
           case hcq6 => (have hr6 := range_new (wr.alloc (.cells cx.toArray 32)) cy 32; rw [show (wr.alloc (.cells cx.toArray 32)).heap.size = wr.heap.size + 1 by simp] at hr6; exact hr6)
           case huq6 => exact hHu.out
           case hdq6 => exact hd
           case hiq6 => (rw [hly']; exact st_size))
        | (go_at_call 10; refine (hPk _ ?_).mono ?_; exact hal _ _; rintro e w5 ⟨rfl, hb5⟩))
      · go_ret
        have hp : P k = false := by
          cases h : P k <;> simp_all
        have hall : (List.range n).all P = false := by
          rw [List.all_eq_false]
          exact ⟨k, List.mem_range.2 hlt, by simp [hp]⟩
        rw [hall]
        exact ⟨rfl, (hal _ _).trans (hb5.mono (hal _ _).size)⟩
      · go_roundw
        case rel =>
          refine ⟨k + 1, by omega, by go_num, fun j hj => ?_, (hal _ _).trans (hb5.mono (hal _ _).size)⟩
          rcases Nat.lt_or_ge j k with h | h
          · exact hHid.out j h
          · have : j = k := by omega
            subst this
            cases h : P j <;> simp_all
        case measure => simp [intOf]; omega
    · have hk' : k = n := by omega
      subst hk'
      go_wp2
      go_ret
      refine ⟨?_, hbw⟩
      have : (List.range k).all P = true := by
        rw [List.all_eq_true]
        intro j hj
        exact hHid.out j (List.mem_range.1 hj)
      rw [this]
      rfl

set_option maxRecDepth 100000 in
theorem eqSt_len (q q' : Option Addr) (m n cap cap' : Nat) (fv : Value) (w : World) (_hm : m ≤ 1099511627776) (_hn : n ≤ 1099511627776) (h : ¬ m = n) : Calls Tryz.prog 31 #[.slice q m cap, .slice q' n cap', fv] w fun e w' => e = .returned (.bool false) ∧ w' = w := by
  have h' : ¬ (m : Int) = (n : Int) := by omega
  go_enter Tryz.func31, Tryz.ntmps31
  go_wp2
  go_ret
  exact ⟨rfl, rfl⟩

set_option maxRecDepth 100000 in
theorem eqSt_none (q q' : Option Addr) (cap cap' : Nat) (fv : Value) (w : World) : Calls Tryz.prog 31 #[.slice q 0 cap, .slice q' 0 cap', fv] w fun e w' => e = .returned (.bool true) ∧ w' = w := by
  go_enter Tryz.func31, Tryz.ntmps31
  go_wp2
  refine wp_loop_once ?_
  go_wp2
  go_ret
  exact ⟨rfl, rfl⟩

end Go.Proofs.YtlmifjdbjhcceaaGreatDoor

namespace Go.Proofs.YtlmifjdbjhcceaaGreatDoor
open Go Go.RowKit

/-- A step's plain fields. -/
structure Sc where
  ru : Int
  nm : ByteArray
  ot : ByteArray
  g : Bool
  kk : Int
  nn : Int
  pr : Int
  en : ByteArray
  ve : Int

/-- A step's 21 cells. -/
structure Sd where
  s : Sc
  aq : Option Addr
  an : Nat
  ac : Nat
  cq : Option Addr
  cn : Nat
  cc : Nat
  e : Nd
  poq : Option Addr
  pon : Nat
  poc : Nat
  arq : Option Addr
  arn : Nat
  arc : Nat
  kiq : Option Addr
  kin : Nat
  kic : Nat

def Sd.cells (d : Sd) : List Value := [.int .i64 d.s.ru, .string d.s.nm, .string d.s.ot, .bool d.s.g, .slice d.aq d.an d.ac, .slice d.cq d.cn d.cc, .int .i64 d.s.kk, .int .i64 d.s.nn, .int .i64 d.s.pr,
  .int .i64 d.e.k, .int .i64 d.e.f, .bool d.e.neg, .slice d.e.aq d.e.an d.e.ac, .slice d.e.cq d.e.cn d.e.cc, .string d.e.m, .slice d.e.sq d.e.sn d.e.sc,
  .slice d.poq d.pon d.poc, .string d.s.en, .int .i64 d.s.ve, .slice d.arq d.arn d.arc, .slice d.kiq d.kin d.kic]
def Sd.val (d : Sd) : Value := .agg d.cells.toArray
theorem Sd.len (d : Sd) : d.cells.length = 21 := rfl
theorem Sd.one (d : Sd) : d.cells.toArray.all (·.oneCell') = true := by
  refine all_oneCell_toArray ?_
  intro v hv
  simp only [Sd.cells, List.mem_cons, List.not_mem_nil, or_false] at hv
  rcases hv with rfl | rfl | rfl | rfl | rfl | rfl | rfl | rfl | rfl | rfl | rfl | rfl | rfl | rfl | rfl | rfl | rfl | rfl | rfl | rfl | rfl <;> rfl

/-- A step as data ('non': none). -/
inductive St where
  | non
  | mk (s : Sc) (nu de : List Int) (x : Ex) (pn : Nat) (ps : Nat → Pt) (bn : Nat) (bs : Nat → Bd) (n : Nat) (ki : Nat → St)

/-- Whether the plain fields are equal. -/
def Sc.eq (s t : Sc) : Bool := (decide (s.ru = t.ru) && decide (s.nm.toList = t.nm.toList) && decide (s.ot.toList = t.ot.toList) && decide (s.en.toList = t.en.toList) && decide (s.ve = t.ve)) && (decide (s.kk = t.kk) && decide (s.nn = t.nn) && decide (s.pr = t.pr))

/-- Whether two steps are equal, their numbers by value. -/
def St.eq : St → St → Bool
  | .mk s nu de x pn ps bn bs n ki, .mk s' nu' de' x' pn' ps' bn' bs' n' ki' =>
    s.eq s' && (ratEq s.g nu de s'.g nu' de' && (x.eq x' && (PtsEq pn ps pn' ps' && (BdsEq bn bs bn' bs' && (decide (n = n') && (List.range n).all fun i => (ki i).eq (ki' i))))))
  | .non, .non => true
  | _, _ => false

/-- The step x lies in memory behind the 21 cells d. -/
def StOk (w : World) : St → Sd → Prop
  | .non, _ => False
  | .mk s nu de x pn ps bn bs n ki, d => (d.s = s ∧ d.pon = pn ∧ d.arn = bn ∧ d.kin = n) ∧ Sl w (.slice d.aq d.an d.ac) nu ∧ Sl w (.slice d.cq d.cn d.cc) de ∧ nu.length ≤ 1048576 ∧ de.length ≤ 1048576 ∧
    ExOk w x d.e ∧ PtsOk w d.poq pn ps ∧ BdsOk w d.arq bn bs ∧ n ≤ 1099511627776 ∧
    (n = 0 ∨ ∃ b o, d.kiq = some ⟨b, o, none⟩ ∧ b < w.heap.size ∧ ∃ ds : Nat → Sd, ∀ i, i < n → w.rangeAt b (o + i * 21) (ds i).cells ∧ StOk w (ki i) (ds i))

theorem StOk.below {w w' : World} (hb : Below w.heap.size w w') : ∀ {x : St} {d : Sd}, StOk w x d → StOk w' x d := by
  intro x
  induction x with
  | non => exact fun h => h.elim
  | mk s nu de x pn ps bn bs n ki ih =>
    intro d h
    unfold StOk at h ⊢
    obtain ⟨h1, h2, h3, h4, h5, h6, h7, h8, h9, h10⟩ := h
    refine ⟨h1, h2.below hb, h3.below hb, h4, h5, h6.below hb, h7.below hb, h8.below hb, h9, h10.imp id ?_⟩
    rintro ⟨b, o, e, hlt, ds, hds⟩
    exact ⟨b, o, e, Nat.lt_of_lt_of_le hlt hb.size, ds, fun i hi => ⟨rangeAt_below (hds i hi).1 hb hlt, ih i (hds i hi).2⟩⟩

theorem and_shift (a b c : Bool) : (a && b && c) = (a && (b && c)) := Bool.and_assoc a b c

theorem equal_ok : ∀ (x y : St) (d e : Sd) (w : World), StOk w x d → StOk w y e →
    Calls Tryz.prog 10 #[d.val, e.val] w fun r w' => r = .returned (.bool (x.eq y)) ∧ Below w.heap.size w w' := by
  intro x
  induction x with
  | non => exact fun y d e w hx => hx.elim
  | mk s nu de x pn ps bn bs n ki ih =>
    intro y d e w hx hy
    cases y with
    | non => exact hy.elim
    | mk s' nu' de' x' pn' ps' bn' bs' n' ki' =>
    unfold StOk at hx hy
    obtain ⟨⟨rfl, rfl, rfl, rfl⟩, x2, x3, x4, x5, x6, x7, x8, x9, x10⟩ := hx
    obtain ⟨⟨rfl, rfl, rfl, rfl⟩, y2, y3, y4, y5, y6, y7, y8, y9, y10⟩ := hy
    unfold St.eq Sc.eq
    rw [and_shift]
    refine equal_step (fun w1 h1 => sameRat_ok (x2.below h1) (y2.below h1) (x3.below h1) (y3.below h1) (by omega) (by omega) (by omega) (by omega))
      (fun w1 h1 => sameExpr_ok x x' d.e e.e w1 (x6.below h1) (y6.below h1))
      (fun w1 h1 => Pts_ok (x7.below h1) (y7.below h1))
      (fun w1 h1 => Bds_ok (x8.below h1) (y8.below h1)) (fun w1 h1 => ?_)
    by_cases hn : d.kin = e.kin
    · by_cases h0 : d.kin = 0
      · have h0' : e.kin = 0 := by omega
        rw [h0, h0']
        refine (eqSt_none _ _ _ _ _ w1).mono ?_
        rintro r w' ⟨rfl, rfl⟩
        exact ⟨by simp, Below.refl _ _⟩
      · rcases x10 with h | ⟨b, o, hq, hlt, ds, hds⟩
        · exact absurd h h0
        rcases y10 with h | ⟨b', o', hq', hlt', es, hes⟩
        · omega
        rw [hq, hq', ← hn]
        simp only [decide_true, Bool.true_and]
        exact eqSt_walk b o _ b' o' _ d.kin (fun i => (ds i).cells) (fun i => (es i).cells) (fun i => (ki i).eq (ki' i)) w1 x9 (fun i hi => rangeAt_below (hds i hi).1 h1 hlt) (fun i hi => rangeAt_below (hes i (by omega)).1 h1 hlt') (Nat.lt_of_lt_of_le hlt h1.size) (Nat.lt_of_lt_of_le hlt' h1.size)
          (fun i _ => ⟨(ds i).len, (ds i).one⟩) (fun i _ => ⟨(es i).len, (es i).one⟩)
          (fun i hi w2 h2 => ih i (ki' i) (ds i) (es i) w2 (((hds i hi).2.below h1).below h2) (((hes i (by omega)).2.below h1).below h2))
    · refine (eqSt_len _ _ _ _ _ _ _ w1 x9 y9 hn).mono ?_
      rintro r w' ⟨rfl, rfl⟩
      exact ⟨by simp [hn], Below.refl _ _⟩
end Go.Proofs.YtlmifjdbjhcceaaGreatDoor

namespace Go.Proofs.YtlmifjdbjhcceaaGreatDoor
open Go Go.RowKit

set_option maxRecDepth 100000 in
set_option maxHeartbeats 4000000 in
theorem lists_walk {w : World} {ru1 ru2 kk1 kk2 nn1 nn2 pr1 pr2 ve1 ve2 ek1 ek2 ef1 ef2 : Int} {nm1 nm2 ot1 ot2 en1 en2 em1 em2 : ByteArray} {g1 g2 eg1 eg2 : Bool} {a1 a2 c1 c2 ea1 ea2 ec1 ec2 es1 es2 : Value} {pq1 pq2 aq1 aq2 kq1 kq2 : Option Addr} {pn pc1 pc2 bn ac1 ac2 kn kc1 kc2 : Nat} (xs ys : Nat → Va) (xb yb : Nat → Bi) (R X : Nat → Bool)
    (hpn : pn ≤ 1099511627776) (hbn : bn ≤ 1099511627776) (_hkn : kn ≤ 1099511627776)
    (hp1 : pn = 0 ∨ ∃ b o, pq1 = some ⟨b, o, none⟩ ∧ b < w.heap.size ∧ ∀ i, i < pn → VaAt w b (o + i * 4) (xs i))
    (hp2 : pn = 0 ∨ ∃ b o, pq2 = some ⟨b, o, none⟩ ∧ b < w.heap.size ∧ ∀ i, i < pn → VaAt w b (o + i * 4) (ys i))
    (ha1 : bn = 0 ∨ ∃ b o, aq1 = some ⟨b, o, none⟩ ∧ b < w.heap.size ∧ ∀ i, i < bn → BiAt w b (o + i * 8) (xb i))
    (ha2 : bn = 0 ∨ ∃ b o, aq2 = some ⟨b, o, none⟩ ∧ b < w.heap.size ∧ ∀ i, i < bn → BiAt w b (o + i * 8) (yb i))
    (hR : ∀ i, i < pn → ∀ w1, Below w.heap.size w w1 → Calls Tryz.prog 32 #[.agg #[.bool (xs i).g, .slice (xs i).aq (xs i).an (xs i).ac, .slice (xs i).cq (xs i).cn (xs i).cc], .agg #[.bool (ys i).g, .slice (ys i).aq (ys i).an (ys i).ac, .slice (ys i).cq (ys i).cn (ys i).cc]] w1 fun e w' => e = .returned (.bool (R i)) ∧ Below w1.heap.size w1 w')
    (hX : ∀ i, i < bn → ∀ w1, Below w.heap.size w w1 → Calls Tryz.prog 33 #[.agg #[.int .i64 (xb i).ek, .int .i64 (xb i).ef, .bool (xb i).eg, .slice (xb i).eaq (xb i).ean (xb i).eac, .slice (xb i).ecq (xb i).ecn (xb i).ecc, .string (xb i).em, .slice (xb i).esq (xb i).esn (xb i).esc], .agg #[.int .i64 (yb i).ek, .int .i64 (yb i).ef, .bool (yb i).eg, .slice (yb i).eaq (yb i).ean (yb i).eac, .slice (yb i).ecq (yb i).ecn (yb i).ecc, .string (yb i).em, .slice (yb i).esq (yb i).esn (yb i).esc]] w1 fun e w' => e = .returned (.bool (X i)) ∧ Below w1.heap.size w1 w') :
    Calls Tryz.prog 34 #[.agg #[.int .i64 ru1, .string nm1, .string ot1, .bool g1, a1, c1, .int .i64 kk1, .int .i64 nn1, .int .i64 pr1, .int .i64 ek1, .int .i64 ef1, .bool eg1, ea1, ec1, .string em1, es1, .slice pq1 pn pc1, .string en1, .int .i64 ve1, .slice aq1 bn ac1, .slice kq1 kn kc1], .agg #[.int .i64 ru2, .string nm2, .string ot2, .bool g2, a2, c2, .int .i64 kk2, .int .i64 nn2, .int .i64 pr2, .int .i64 ek2, .int .i64 ef2, .bool eg2, ea2, ec2, .string em2, es2, .slice pq2 pn pc2, .string en2, .int .i64 ve2, .slice aq2 bn ac2, .slice kq2 kn kc2]] w
      fun e w' => e = .returned (.bool (((List.range pn).all fun i => (decide ((xs i).m.toList = (ys i).m.toList) && R i)) && ((List.range bn).all fun i => (decide ((xb i).m.toList = (yb i).m.toList) && X i)))) ∧ Below w.heap.size w w' := by
  have h2 : ∀ o o2, Below w.heap.size w ((w.alloc o).alloc o2) := fun o o2 => below_two w o o2
  have H1 : Hid (pn = 0 ∨ ∃ b o, pq1 = some ⟨b, o, none⟩ ∧ b < w.heap.size ∧ ∀ i, i < pn → VaAt w b (o + i * 4) (xs i)) := hp1
  have H2 : Hid (pn = 0 ∨ ∃ b o, pq2 = some ⟨b, o, none⟩ ∧ b < w.heap.size ∧ ∀ i, i < pn → VaAt w b (o + i * 4) (ys i)) := hp2
  have H3 : Hid (bn = 0 ∨ ∃ b o, aq1 = some ⟨b, o, none⟩ ∧ b < w.heap.size ∧ ∀ i, i < bn → BiAt w b (o + i * 8) (xb i)) := ha1
  have H4 : Hid (bn = 0 ∨ ∃ b o, aq2 = some ⟨b, o, none⟩ ∧ b < w.heap.size ∧ ∀ i, i < bn → BiAt w b (o + i * 8) (yb i)) := ha2
  clear hp1 hp2 ha1 ha2
  go_enter Tryz.func34, Tryz.ntmps34
  go_wp2_with fail
  generalize hw1 : (w.alloc _).alloc _ = w1 at *
  have hW1 : Below w.heap.size w w1 := by rw [← hw1]; exact h2 _ _
  have hz1 : w.heap.size + 2 ≤ w1.heap.size := by rw [← hw1]; simp
  have p1 : w1.cell? ⟨w.heap.size, 16, none⟩ = some (.slice pq1 pn pc1) := by rw [← hw1]; simp
  have p2 : w1.cell? ⟨w.heap.size + 1, 16, none⟩ = some (.slice pq2 pn pc2) := by rw [← hw1]; simp
  have b1 : w1.cell? ⟨w.heap.size, 19, none⟩ = some (.slice aq1 bn ac1) := by rw [← hw1]; simp
  have b2' : w1.cell? ⟨w.heap.size + 1, 19, none⟩ = some (.slice aq2 bn ac2) := by rw [← hw1]; simp
  clear hw1 h2
  go_loopw [35] (fun i wr => ∃ k : Nat, k ≤ pn ∧ i = .int .i64 k ∧ (∀ j, j < k → (decide ((xs j).m.toList = (ys j).m.toList) && R j) = true) ∧ Below w1.heap.size w1 wr) (fun i _ => pn - (intOf i).toNat)
  case atStart => exact ⟨0, Nat.zero_le _, rfl, fun j hj => by omega, Below.refl _ _⟩
  case round =>
    obtain ⟨k, hk, rfl, hag, hbw⟩ := hrel
    have hHid : Hid (∀ j, j < k → (decide ((xs j).m.toList = (ys j).m.toList) && R j) = true) := hag
    clear hag
    have hW : Below w.heap.size w wr := hW1.trans (hbw.mono hW1.size)
    by_cases hlt : k < pn
    · have hlt' : (k : Int) < (pn : Int) := by omega
      rcases H1.out with h0 | ⟨b, o, rfl, hbb, hcx⟩
      · omega
      rcases H2.out with h0 | ⟨b2, o2, rfl, hbb2, hcy⟩
      · omega
      obtain ⟨x0, x1, x2, x3⟩ := (hcx k hlt).below hW hbb
      obtain ⟨y0, y1, y2, y3⟩ := (hcy k hlt).below hW hbb2
      have qr : wr.cell? ⟨w.heap.size, 16, none⟩ = some (.slice (some ⟨b, o, none⟩) pn pc1) := (hbw.cell (by show w.heap.size < _; omega)).trans p1
      have rr : wr.cell? ⟨w.heap.size + 1, 16, none⟩ = some (.slice (some ⟨b2, o2, none⟩) pn pc2) := (hbw.cell (by show w.heap.size + 1 < _; omega)).trans p2
      have hRk := hR k hlt
      have hws := hbw.size
      have hws2 : w.heap.size + 2 ≤ wr.heap.size := by omega
      cases hm : decide ((xs k).m.toList = (ys k).m.toList) with
      | true =>
        have hm' : (xs k).m.toList = (ys k).m.toList := by simpa using hm
        go_wp2_with fail
        go_region_held3 (fun z => z.cell? ⟨w.heap.size, 16, none⟩ = some (.slice (some ⟨b, o, none⟩) pn pc1) ∧ z.cell? ⟨w.heap.size + 1, 16, none⟩ = some (.slice (some ⟨b2, o2, none⟩) pn pc2) ∧ z.cell? ⟨b, o + k * 4, none⟩ = some (.string (xs k).m) ∧ z.cell? ⟨b, o + k * 4 + 1, none⟩ = some (.bool (xs k).g) ∧ z.cell? ⟨b, o + k * 4 + 2, none⟩ = some (.slice (xs k).aq (xs k).an (xs k).ac) ∧ z.cell? ⟨b, o + k * 4 + 3, none⟩ = some (.slice (xs k).cq (xs k).cn (xs k).cc) ∧ z.cell? ⟨b2, o2 + k * 4, none⟩ = some (.string (ys k).m) ∧ z.cell? ⟨b2, o2 + k * 4 + 1, none⟩ = some (.bool (ys k).g) ∧ z.cell? ⟨b2, o2 + k * 4 + 2, none⟩ = some (.slice (ys k).aq (ys k).an (ys k).ac) ∧ z.cell? ⟨b2, o2 + k * 4 + 3, none⟩ = some (.slice (ys k).cq (ys k).cn (ys k).cc)) (first | exact ⟨qr, rr, x0, x1, x2, x3, y0, y1, y2, y3⟩ | exact hS5)
          (first
            | (go_at_call 32; refine (hRk _ ?_).mono ?_; exact hW.drew; rintro e w5 ⟨rfl, hb5⟩
               have hs5 : wr.heap.size ≤ wr.drew.heap.size := Nat.le_refl _
               have hbl : b < wr.drew.heap.size := by omega
               have hbl2 : b2 < wr.drew.heap.size := by omega
               have hc5 : w.heap.size < wr.drew.heap.size := by omega
               have hc6 : w.heap.size + 1 < wr.drew.heap.size := by omega
               have hS5 : w5.cell? ⟨w.heap.size, 16, none⟩ = some (.slice (some ⟨b, o, none⟩) pn pc1) ∧ w5.cell? ⟨w.heap.size + 1, 16, none⟩ = some (.slice (some ⟨b2, o2, none⟩) pn pc2) ∧ w5.cell? ⟨b, o + k * 4, none⟩ = some (.string (xs k).m) ∧ w5.cell? ⟨b, o + k * 4 + 1, none⟩ = some (.bool (xs k).g) ∧ w5.cell? ⟨b, o + k * 4 + 2, none⟩ = some (.slice (xs k).aq (xs k).an (xs k).ac) ∧ w5.cell? ⟨b, o + k * 4 + 3, none⟩ = some (.slice (xs k).cq (xs k).cn (xs k).cc) ∧ w5.cell? ⟨b2, o2 + k * 4, none⟩ = some (.string (ys k).m) ∧ w5.cell? ⟨b2, o2 + k * 4 + 1, none⟩ = some (.bool (ys k).g) ∧ w5.cell? ⟨b2, o2 + k * 4 + 2, none⟩ = some (.slice (ys k).aq (ys k).an (ys k).ac) ∧ w5.cell? ⟨b2, o2 + k * 4 + 3, none⟩ = some (.slice (ys k).cq (ys k).cn (ys k).cc) := ⟨(hb5.cell (by exact hc5)).trans qr, (hb5.cell (by exact hc6)).trans rr, (hb5.cell (by exact hbl)).trans x0, (hb5.cell (by exact hbl)).trans x1, (hb5.cell (by exact hbl)).trans x2, (hb5.cell (by exact hbl)).trans x3, (hb5.cell (by exact hbl2)).trans y0, (hb5.cell (by exact hbl2)).trans y1, (hb5.cell (by exact hbl2)).trans y2, (hb5.cell (by exact hbl2)).trans y3⟩))
        have hW5 : Below w.heap.size w w5 := hW.drew.trans (hb5.mono hW.drew.size)
        have hW15 := hbw.drew.trans (hb5.mono hbw.drew.size)
        clear hS5 x0 x1 x2 x3 y0 y1 y2 y3 qr rr hb5
        cases hp : R k with
        | false =>
          go_wp2_with fail
          go_ret
          have hall : (List.range pn).all (fun i => (decide ((xs i).m.toList = (ys i).m.toList) && R i)) = false := by
            rw [List.all_eq_false]
            exact ⟨k, List.mem_range.2 hlt, by simp [hp]⟩
          skip
          rw [hall]
          exact ⟨by simp, hW5⟩
        | true =>
          go_wp2_with fail
          go_roundw
          case rel =>
            refine ⟨k + 1, by omega, by go_num, fun j hj => ?_, hW15⟩
            rcases Nat.lt_or_ge j k with h | h
            · exact hHid.out j h
            · have : j = k := by omega
              subst this
              simp [hm, hp]
          case measure => simp [intOf]; omega
      | false =>
        have hm' : ¬ (xs k).m.toList = (ys k).m.toList := by simpa using hm
        go_wp2_with fail
        go_quiet (fail)
        clear x0 x1 x2 x3 y0 y1 y2 y3 qr rr
        go_wp2_with fail
        go_ret
        have hall : (List.range pn).all (fun i => (decide ((xs i).m.toList = (ys i).m.toList) && R i)) = false := by
          rw [List.all_eq_false]
          exact ⟨k, List.mem_range.2 hlt, by simp [hm]⟩
        skip
        rw [hall]
        exact ⟨by simp, below_draws hW _⟩
    · have hk' : pn = k := by omega
      subst hk'
      have hallVa : (List.range pn).all (fun i => (decide ((xs i).m.toList = (ys i).m.toList) && R i)) = true := by
        rw [List.all_eq_true]
        intro j hj
        exact hHid.out j (List.mem_range.1 hj)
      have c1' := (hbw.cell (p := ⟨w.heap.size, 19, none⟩) (by show w.heap.size < _; omega)).trans b1
      have c2' := (hbw.cell (p := ⟨w.heap.size + 1, 19, none⟩) (by show w.heap.size + 1 < _; omega)).trans b2'
      have hz2 : w.heap.size + 2 ≤ wr.heap.size := by have := hbw.size; omega
      clear p1 p2 b1 b2' hHid
      go_wp2_with fail
      go_loopw [71] (fun i z => ∃ k : Nat, k ≤ bn ∧ i = .int .i64 k ∧ (∀ j, j < k → (decide ((xb j).m.toList = (yb j).m.toList) && X j) = true) ∧ Below wr.heap.size wr z) (fun i _ => bn - (intOf i).toNat)
      case atStart => exact ⟨0, Nat.zero_le _, rfl, fun j hj => by omega, Below.refl _ _⟩
      case round =>
        have hWa := hW
        have hza := hz2
        have d1 := c1'
        have d2 := c2'
        clear hW hz2 c1' c2' hbw
        obtain ⟨k, hk, rfl, hag, hbw⟩ := hrel
        have hHid : Hid (∀ j, j < k → (decide ((xb j).m.toList = (yb j).m.toList) && X j) = true) := hag
        clear hag
        have hW : Below w.heap.size w wr := hWa.trans (hbw.mono hWa.size)
        by_cases hlt : k < bn
        · have hlt' : (k : Int) < (bn : Int) := by omega
          rcases H3.out with h0 | ⟨b, o, rfl, hbb, hcx⟩
          · omega
          rcases H4.out with h0 | ⟨b2, o2, rfl, hbb2, hcy⟩
          · omega
          obtain ⟨x0, x1, x2, x3, x4, x5, x6, x7⟩ := (hcx k hlt).below hW hbb
          obtain ⟨y0, y1, y2, y3, y4, y5, y6, y7⟩ := (hcy k hlt).below hW hbb2
          have qr : wr.cell? ⟨w.heap.size, 19, none⟩ = some (.slice (some ⟨b, o, none⟩) bn ac1) := (hbw.cell (by show w.heap.size < _; omega)).trans d1
          have rr : wr.cell? ⟨w.heap.size + 1, 19, none⟩ = some (.slice (some ⟨b2, o2, none⟩) bn ac2) := (hbw.cell (by show w.heap.size + 1 < _; omega)).trans d2
          have hRk := hX k hlt
          have hws := hbw.size
          have hws2 : w.heap.size + 2 ≤ wr.heap.size := by omega
          cases hm : decide ((xb k).m.toList = (yb k).m.toList) with
          | true =>
            have hm' : (xb k).m.toList = (yb k).m.toList := by simpa using hm
            go_wp2_with fail
            go_region_held3 (fun z => z.cell? ⟨w.heap.size, 19, none⟩ = some (.slice (some ⟨b, o, none⟩) bn ac1) ∧ z.cell? ⟨w.heap.size + 1, 19, none⟩ = some (.slice (some ⟨b2, o2, none⟩) bn ac2) ∧ z.cell? ⟨b, o + k * 8, none⟩ = some (.string (xb k).m) ∧ z.cell? ⟨b, o + k * 8 + 1, none⟩ = some (.int .i64 (xb k).ek) ∧ z.cell? ⟨b, o + k * 8 + 2, none⟩ = some (.int .i64 (xb k).ef) ∧ z.cell? ⟨b, o + k * 8 + 3, none⟩ = some (.bool (xb k).eg) ∧ z.cell? ⟨b, o + k * 8 + 4, none⟩ = some (.slice (xb k).eaq (xb k).ean (xb k).eac) ∧ z.cell? ⟨b, o + k * 8 + 5, none⟩ = some (.slice (xb k).ecq (xb k).ecn (xb k).ecc) ∧ z.cell? ⟨b, o + k * 8 + 6, none⟩ = some (.string (xb k).em) ∧ z.cell? ⟨b, o + k * 8 + 7, none⟩ = some (.slice (xb k).esq (xb k).esn (xb k).esc) ∧ z.cell? ⟨b2, o2 + k * 8, none⟩ = some (.string (yb k).m) ∧ z.cell? ⟨b2, o2 + k * 8 + 1, none⟩ = some (.int .i64 (yb k).ek) ∧ z.cell? ⟨b2, o2 + k * 8 + 2, none⟩ = some (.int .i64 (yb k).ef) ∧ z.cell? ⟨b2, o2 + k * 8 + 3, none⟩ = some (.bool (yb k).eg) ∧ z.cell? ⟨b2, o2 + k * 8 + 4, none⟩ = some (.slice (yb k).eaq (yb k).ean (yb k).eac) ∧ z.cell? ⟨b2, o2 + k * 8 + 5, none⟩ = some (.slice (yb k).ecq (yb k).ecn (yb k).ecc) ∧ z.cell? ⟨b2, o2 + k * 8 + 6, none⟩ = some (.string (yb k).em) ∧ z.cell? ⟨b2, o2 + k * 8 + 7, none⟩ = some (.slice (yb k).esq (yb k).esn (yb k).esc)) (first | exact ⟨qr, rr, x0, x1, x2, x3, x4, x5, x6, x7, y0, y1, y2, y3, y4, y5, y6, y7⟩ | exact hS5)
              (first
                | (go_at_call 33; refine (hRk _ ?_).mono ?_; exact hW.drew; rintro e w5 ⟨rfl, hb5⟩
                   have hs5 : wr.heap.size ≤ wr.drew.heap.size := Nat.le_refl _
                   have hbl : b < wr.drew.heap.size := by omega
                   have hbl2 : b2 < wr.drew.heap.size := by omega
                   have hc5 : w.heap.size < wr.drew.heap.size := by omega
                   have hc6 : w.heap.size + 1 < wr.drew.heap.size := by omega
                   have hS5 : w5.cell? ⟨w.heap.size, 19, none⟩ = some (.slice (some ⟨b, o, none⟩) bn ac1) ∧ w5.cell? ⟨w.heap.size + 1, 19, none⟩ = some (.slice (some ⟨b2, o2, none⟩) bn ac2) ∧ w5.cell? ⟨b, o + k * 8, none⟩ = some (.string (xb k).m) ∧ w5.cell? ⟨b, o + k * 8 + 1, none⟩ = some (.int .i64 (xb k).ek) ∧ w5.cell? ⟨b, o + k * 8 + 2, none⟩ = some (.int .i64 (xb k).ef) ∧ w5.cell? ⟨b, o + k * 8 + 3, none⟩ = some (.bool (xb k).eg) ∧ w5.cell? ⟨b, o + k * 8 + 4, none⟩ = some (.slice (xb k).eaq (xb k).ean (xb k).eac) ∧ w5.cell? ⟨b, o + k * 8 + 5, none⟩ = some (.slice (xb k).ecq (xb k).ecn (xb k).ecc) ∧ w5.cell? ⟨b, o + k * 8 + 6, none⟩ = some (.string (xb k).em) ∧ w5.cell? ⟨b, o + k * 8 + 7, none⟩ = some (.slice (xb k).esq (xb k).esn (xb k).esc) ∧ w5.cell? ⟨b2, o2 + k * 8, none⟩ = some (.string (yb k).m) ∧ w5.cell? ⟨b2, o2 + k * 8 + 1, none⟩ = some (.int .i64 (yb k).ek) ∧ w5.cell? ⟨b2, o2 + k * 8 + 2, none⟩ = some (.int .i64 (yb k).ef) ∧ w5.cell? ⟨b2, o2 + k * 8 + 3, none⟩ = some (.bool (yb k).eg) ∧ w5.cell? ⟨b2, o2 + k * 8 + 4, none⟩ = some (.slice (yb k).eaq (yb k).ean (yb k).eac) ∧ w5.cell? ⟨b2, o2 + k * 8 + 5, none⟩ = some (.slice (yb k).ecq (yb k).ecn (yb k).ecc) ∧ w5.cell? ⟨b2, o2 + k * 8 + 6, none⟩ = some (.string (yb k).em) ∧ w5.cell? ⟨b2, o2 + k * 8 + 7, none⟩ = some (.slice (yb k).esq (yb k).esn (yb k).esc) := ⟨(hb5.cell (by exact hc5)).trans qr, (hb5.cell (by exact hc6)).trans rr, (hb5.cell (by exact hbl)).trans x0, (hb5.cell (by exact hbl)).trans x1, (hb5.cell (by exact hbl)).trans x2, (hb5.cell (by exact hbl)).trans x3, (hb5.cell (by exact hbl)).trans x4, (hb5.cell (by exact hbl)).trans x5, (hb5.cell (by exact hbl)).trans x6, (hb5.cell (by exact hbl)).trans x7, (hb5.cell (by exact hbl2)).trans y0, (hb5.cell (by exact hbl2)).trans y1, (hb5.cell (by exact hbl2)).trans y2, (hb5.cell (by exact hbl2)).trans y3, (hb5.cell (by exact hbl2)).trans y4, (hb5.cell (by exact hbl2)).trans y5, (hb5.cell (by exact hbl2)).trans y6, (hb5.cell (by exact hbl2)).trans y7⟩))
            have hW5 : Below w.heap.size w w5 := hW.drew.trans (hb5.mono hW.drew.size)
            have hW15 := hbw.drew.trans (hb5.mono hbw.drew.size)
            clear hS5 x0 x1 x2 x3 x4 x5 x6 x7 y0 y1 y2 y3 y4 y5 y6 y7 qr rr hb5
            cases hp : X k with
            | false =>
              go_wp2_with fail
              go_ret
              have hall : (List.range bn).all (fun i => (decide ((xb i).m.toList = (yb i).m.toList) && X i)) = false := by
                rw [List.all_eq_false]
                exact ⟨k, List.mem_range.2 hlt, by simp [hp]⟩
              skip
              rw [hall]
              exact ⟨by simp, hW5⟩
            | true =>
              go_wp2_with fail
              go_roundw
              case rel =>
                refine ⟨k + 1, by omega, by go_num, fun j hj => ?_, hW15⟩
                rcases Nat.lt_or_ge j k with h | h
                · exact hHid.out j h
                · have : j = k := by omega
                  subst this
                  simp [hm, hp]
              case measure => simp [intOf]; omega
          | false =>
            have hm' : ¬ (xb k).m.toList = (yb k).m.toList := by simpa using hm
            go_wp2_with fail
            go_quiet (fail)
            clear x0 x1 x2 x3 x4 x5 x6 x7 y0 y1 y2 y3 y4 y5 y6 y7 qr rr
            go_wp2_with fail
            go_ret
            have hall : (List.range bn).all (fun i => (decide ((xb i).m.toList = (yb i).m.toList) && X i)) = false := by
              rw [List.all_eq_false]
              exact ⟨k, List.mem_range.2 hlt, by simp [hm]⟩
            skip
            rw [hall]
            exact ⟨by simp, below_draws hW _⟩
        · have hk' : bn = k := by omega
          subst hk'
          have hallBi : (List.range bn).all (fun i => (decide ((xb i).m.toList = (yb i).m.toList) && X i)) = true := by
            rw [List.all_eq_true]
            intro j hj
            exact hHid.out j (List.mem_range.1 hj)
          go_wp2_with fail
          go_ret
          rw [hallVa, hallBi]
          exact ⟨rfl, hW⟩
end Go.Proofs.YtlmifjdbjhcceaaGreatDoor
