/-
  Expressions, points, binds and proofs in memory.
-/
import Derived.Test.YtgmbeedbeahblaaGreatDoorDvB
import Derived.Test.YtgmbeedbeahblaaGreatDoorDvA
import Derived.Deep.MidRow
import Derived.Deep.WholeRow
namespace Go.Proofs.YtgmbeedbeahblaaGreatDoor
open Go Go.RowKit

/-- An expression's seven cells. -/
structure Nd where
  k : Int
  f : Int
  neg : Bool
  aq : Option Addr
  an : Nat
  ac : Nat
  cq : Option Addr
  cn : Nat
  cc : Nat
  m : ByteArray
  sq : Option Addr
  sn : Nat
  sc : Nat

def Nd.val (d : Nd) : Value := .agg #[.int .i64 d.k, .int .i64 d.f, .bool d.neg, .slice d.aq d.an d.ac, .slice d.cq d.cn d.cc, .string d.m, .slice d.sq d.sn d.sc]

structure NdAt (w : World) (b o : Nat) (d : Nd) : Prop where
  h0 : w.cell? ⟨b, o, none⟩ = some (.int .i64 d.k)
  h1 : w.cell? ⟨b, o + 1, none⟩ = some (.int .i64 d.f)
  h2 : w.cell? ⟨b, o + 2, none⟩ = some (.bool d.neg)
  h3 : w.cell? ⟨b, o + 3, none⟩ = some (.slice d.aq d.an d.ac)
  h4 : w.cell? ⟨b, o + 4, none⟩ = some (.slice d.cq d.cn d.cc)
  h5 : w.cell? ⟨b, o + 5, none⟩ = some (.string d.m)
  h6 : w.cell? ⟨b, o + 6, none⟩ = some (.slice d.sq d.sn d.sc)

theorem NdAt.below {w w' : World} {B b o : Nat} {d : Nd} (h : NdAt w b o d) (hb : Below B w w') (hB : b < B) : NdAt w' b o d :=
  ⟨(hb.cell (by exact hB)).trans h.h0, (hb.cell (by exact hB)).trans h.h1, (hb.cell (by exact hB)).trans h.h2, (hb.cell (by exact hB)).trans h.h3, (hb.cell (by exact hB)).trans h.h4, (hb.cell (by exact hB)).trans h.h5, (hb.cell (by exact hB)).trans h.h6⟩

end Go.Proofs.YtgmbeedbeahblaaGreatDoor

namespace Go.Proofs.YtgmbeedbeahblaaGreatDoor
open Go Go.RowKit

set_option maxRecDepth 100000 in
theorem eqExpr_len (q q' : Option Addr) (m n cap cap' : Nat) (fv : Value) (w : World) (_hm : m ≤ 1099511627776) (_hn : n ≤ 1099511627776) (h : ¬ m = n) : Calls Tryz.prog 390 #[.slice q m cap, .slice q' n cap', fv] w fun e w' => e = .returned (.bool false) ∧ w' = w := by
  have h' : ¬ (m : Int) = (n : Int) := by omega
  go_enter Tryz.func390, Tryz.ntmps390
  go_wp2
  go_ret
  exact ⟨rfl, rfl⟩

set_option maxRecDepth 100000 in
theorem eqExpr_none (q q' : Option Addr) (cap cap' : Nat) (fv : Value) (w : World) : Calls Tryz.prog 390 #[.slice q 0 cap, .slice q' 0 cap', fv] w fun e w' => e = .returned (.bool true) ∧ w' = w := by
  go_enter Tryz.func390, Tryz.ntmps390
  go_wp2
  refine wp_loop_once ?_
  go_wp2
  go_ret
  exact ⟨rfl, rfl⟩

/-- An expression as data ('non': none): code, field, the number's sign and words, the name, the arguments. -/
inductive Ex where
  | non
  | mk (k f : Int) (ng : Bool) (nu de : List Int) (m : ByteArray) (n : Nat) (ar : Nat → Ex)

/-- Whether two expressions are equal, their numbers by value. -/
def Ex.eq : Ex → Ex → Bool
  | .mk k f ng nu de m n ar, .mk k' f' ng' nu' de' m' n' ar' =>
    decide (k = k') && decide (f = f') && decide (m.toList = m'.toList) && ratEq ng nu de ng' nu' de' && (decide (n = n') && (List.range n).all fun i => (ar i).eq (ar' i))
  | .non, .non => true
  | _, _ => false

/-- The expression x lies in memory behind the seven cells d. -/
def ExOk (w : World) : Ex → Nd → Prop
  | .non, _ => False
  | .mk k f ng nu de m n ar, d => (d.k = k ∧ d.f = f ∧ d.neg = ng ∧ d.m = m ∧ d.sn = n) ∧ Sl w (.slice d.aq d.an d.ac) nu ∧ Sl w (.slice d.cq d.cn d.cc) de ∧ nu.length ≤ 1048576 ∧ de.length ≤ 1048576 ∧ n ≤ 1099511627776 ∧
    (n = 0 ∨ ∃ b o, d.sq = some ⟨b, o, none⟩ ∧ b < w.heap.size ∧ ∃ ds : Nat → Nd, ∀ i, i < n → NdAt w b (o + i * 7) (ds i) ∧ ExOk w (ar i) (ds i))

theorem ExOk.below {w w' : World} (hb : Below w.heap.size w w') : ∀ {x : Ex} {d : Nd}, ExOk w x d → ExOk w' x d := by
  intro x
  induction x with
  | non => exact fun h => h.elim
  | mk k f ng nu de m n ar ih =>
    intro d h
    unfold ExOk at h ⊢
    obtain ⟨h1, h2, h3, h4, h5, h6, h7⟩ := h
    refine ⟨h1, h2.below hb, h3.below hb, h4, h5, h6, h7.imp id ?_⟩
    rintro ⟨b, o, e, hlt, ds, hds⟩
    exact ⟨b, o, e, Nat.lt_of_lt_of_le hlt hb.size, ds, fun i hi => ⟨(hds i hi).1.below hb hlt, ih i (hds i hi).2⟩⟩

end Go.Proofs.YtgmbeedbeahblaaGreatDoor

namespace Go.Proofs.YtgmbeedbeahblaaGreatDoor
open Go Go.RowKit

end Go.Proofs.YtgmbeedbeahblaaGreatDoor

namespace Go.Proofs.YtgmbeedbeahblaaGreatDoor
open Go Go.RowKit

/-- The 4 cells of one element. -/
structure Va where
  m : ByteArray
  g : Bool
  aq : Option Addr
  an : Nat
  ac : Nat
  cq : Option Addr
  cn : Nat
  cc : Nat

def Va.val (d : Va) : Value := .agg #[.string d.m, .bool d.g, .slice d.aq d.an d.ac, .slice d.cq d.cn d.cc]

structure VaAt (w : World) (b o : Nat) (d : Va) : Prop where
  h0 : w.cell? ⟨b, o, none⟩ = some (.string d.m)
  h1 : w.cell? ⟨b, o + 1, none⟩ = some (.bool d.g)
  h2 : w.cell? ⟨b, o + 2, none⟩ = some (.slice d.aq d.an d.ac)
  h3 : w.cell? ⟨b, o + 3, none⟩ = some (.slice d.cq d.cn d.cc)

theorem VaAt.below {w w' : World} {B b o : Nat} {d : Va} (h : VaAt w b o d) (hb : Below B w w') (hB : b < B) : VaAt w' b o d :=
  ⟨(hb.cell (by exact hB)).trans h.h0, (hb.cell (by exact hB)).trans h.h1, (hb.cell (by exact hB)).trans h.h2, (hb.cell (by exact hB)).trans h.h3⟩

end Go.Proofs.YtgmbeedbeahblaaGreatDoor

namespace Go.Proofs.YtgmbeedbeahblaaGreatDoor
open Go Go.RowKit

/-- The 8 cells of one element. -/
structure Bi where
  m : ByteArray
  ek : Int
  ef : Int
  eg : Bool
  eaq : Option Addr
  ean : Nat
  eac : Nat
  ecq : Option Addr
  ecn : Nat
  ecc : Nat
  em : ByteArray
  esq : Option Addr
  esn : Nat
  esc : Nat

def Bi.val (d : Bi) : Value := .agg #[.string d.m, .int .i64 d.ek, .int .i64 d.ef, .bool d.eg, .slice d.eaq d.ean d.eac, .slice d.ecq d.ecn d.ecc, .string d.em, .slice d.esq d.esn d.esc]

structure BiAt (w : World) (b o : Nat) (d : Bi) : Prop where
  h0 : w.cell? ⟨b, o, none⟩ = some (.string d.m)
  h1 : w.cell? ⟨b, o + 1, none⟩ = some (.int .i64 d.ek)
  h2 : w.cell? ⟨b, o + 2, none⟩ = some (.int .i64 d.ef)
  h3 : w.cell? ⟨b, o + 3, none⟩ = some (.bool d.eg)
  h4 : w.cell? ⟨b, o + 4, none⟩ = some (.slice d.eaq d.ean d.eac)
  h5 : w.cell? ⟨b, o + 5, none⟩ = some (.slice d.ecq d.ecn d.ecc)
  h6 : w.cell? ⟨b, o + 6, none⟩ = some (.string d.em)
  h7 : w.cell? ⟨b, o + 7, none⟩ = some (.slice d.esq d.esn d.esc)

theorem BiAt.below {w w' : World} {B b o : Nat} {d : Bi} (h : BiAt w b o d) (hb : Below B w w') (hB : b < B) : BiAt w' b o d :=
  ⟨(hb.cell (by exact hB)).trans h.h0, (hb.cell (by exact hB)).trans h.h1, (hb.cell (by exact hB)).trans h.h2, (hb.cell (by exact hB)).trans h.h3, (hb.cell (by exact hB)).trans h.h4, (hb.cell (by exact hB)).trans h.h5, (hb.cell (by exact hB)).trans h.h6, (hb.cell (by exact hB)).trans h.h7⟩

end Go.Proofs.YtgmbeedbeahblaaGreatDoor

namespace Go.Proofs.YtgmbeedbeahblaaGreatDoor
open Go Go.RowKit

end Go.Proofs.YtgmbeedbeahblaaGreatDoor

namespace Go.Proofs.YtgmbeedbeahblaaGreatDoor
open Go Go.RowKit

/-- A point's value as data. -/
structure Pt where
  m : ByteArray
  g : Bool
  nu : List Int
  de : List Int
def Pt.eq (p p' : Pt) : Bool := decide (p.m.toList = p'.m.toList) && ratEq p.g p.nu p.de p'.g p'.nu p'.de
def PtOk (w : World) (p : Pt) (d : Va) : Prop :=
  d.m = p.m ∧ d.g = p.g ∧ Sl w (.slice d.aq d.an d.ac) p.nu ∧ Sl w (.slice d.cq d.cn d.cc) p.de ∧ p.nu.length ≤ 1048576 ∧ p.de.length ≤ 1048576
theorem PtOk.below {w w' : World} (hb : Below w.heap.size w w') {p : Pt} {d : Va} (h : PtOk w p d) : PtOk w' p d :=
  ⟨h.1, h.2.1, h.2.2.1.below hb, h.2.2.2.1.below hb, h.2.2.2.2⟩
/-- A bind as data. -/
structure Bd where
  m : ByteArray
  x : Ex
def Bd.eq (p p' : Bd) : Bool := decide (p.m.toList = p'.m.toList) && p.x.eq p'.x
/-- The expression's seven cells of a bind. -/
def Bi.nd (d : Bi) : Nd := ⟨d.ek, d.ef, d.eg, d.eaq, d.ean, d.eac, d.ecq, d.ecn, d.ecc, d.em, d.esq, d.esn, d.esc⟩
def BdOk (w : World) (p : Bd) (d : Bi) : Prop := d.m = p.m ∧ ExOk w p.x d.nd
theorem BdOk.below {w w' : World} (hb : Below w.heap.size w w') {p : Bd} {d : Bi} (h : BdOk w p d) : BdOk w' p d := ⟨h.1, h.2.below hb⟩
/-- A list of them in memory. -/
def PtsOk (w : World) (q : Option Addr) (n : Nat) (ps : Nat → Pt) : Prop :=
  n ≤ 1099511627776 ∧ (n = 0 ∨ ∃ b o, q = some ⟨b, o, none⟩ ∧ b < w.heap.size ∧ ∃ ds : Nat → Va, ∀ i, i < n → VaAt w b (o + i * 4) (ds i) ∧ PtOk w (ps i) (ds i))
theorem PtsOk.below {w w' : World} (hb : Below w.heap.size w w') {q : Option Addr} {n : Nat} {ps : Nat → Pt} (h : PtsOk w q n ps) : PtsOk w' q n ps := by
  refine ⟨h.1, h.2.imp id ?_⟩
  rintro ⟨b, o, e, hlt, ds, hds⟩
  exact ⟨b, o, e, Nat.lt_of_lt_of_le hlt hb.size, ds, fun i hi => ⟨(hds i hi).1.below hb hlt, (hds i hi).2.below hb⟩⟩
def PtsEq (n : Nat) (ps : Nat → Pt) (n' : Nat) (ps' : Nat → Pt) : Bool := decide (n = n') && (List.range n).all fun i => (ps i).eq (ps' i)
/-- A list of them in memory. -/
def BdsOk (w : World) (q : Option Addr) (n : Nat) (ps : Nat → Bd) : Prop :=
  n ≤ 1099511627776 ∧ (n = 0 ∨ ∃ b o, q = some ⟨b, o, none⟩ ∧ b < w.heap.size ∧ ∃ ds : Nat → Bi, ∀ i, i < n → BiAt w b (o + i * 8) (ds i) ∧ BdOk w (ps i) (ds i))
theorem BdsOk.below {w w' : World} (hb : Below w.heap.size w w') {q : Option Addr} {n : Nat} {ps : Nat → Bd} (h : BdsOk w q n ps) : BdsOk w' q n ps := by
  refine ⟨h.1, h.2.imp id ?_⟩
  rintro ⟨b, o, e, hlt, ds, hds⟩
  exact ⟨b, o, e, Nat.lt_of_lt_of_le hlt hb.size, ds, fun i hi => ⟨(hds i hi).1.below hb hlt, (hds i hi).2.below hb⟩⟩
def BdsEq (n : Nat) (ps : Nat → Bd) (n' : Nat) (ps' : Nat → Bd) : Bool := decide (n = n') && (List.range n).all fun i => (ps i).eq (ps' i)
end Go.Proofs.YtgmbeedbeahblaaGreatDoor

namespace Go.Proofs.YtgmbeedbeahblaaGreatDoor
open Go Go.RowKit

end Go.Proofs.YtgmbeedbeahblaaGreatDoor

namespace Go.Proofs.YtgmbeedbeahblaaGreatDoor
open Go Go.RowKit

end Go.Proofs.YtgmbeedbeahblaaGreatDoor

namespace Go.Proofs.YtgmbeedbeahblaaGreatDoor
open Go Go.RowKit

end Go.Proofs.YtgmbeedbeahblaaGreatDoor

namespace Go.Proofs.YtgmbeedbeahblaaGreatDoor
open Go Go.RowKit

theorem st_row : ∃ d, Tryz.prog.underlying 32 = some d ∧ d.isRow = true := by
  have h : (Tryz.prog.underlying 32).map TypeDesc.isRow = some true := by kernel_rfl
  cases hd : Tryz.prog.underlying 32 with
  | none => rw [hd] at h; cases h
  | some d => rw [hd] at h; exact ⟨d, rfl, by simpa using h⟩
theorem st_size : (Tryz.prog.info? 32).map (·.size) = some 21 := by kernel_rfl

theorem rangeAt_below {w w' : World} {B b o : Nat} {cs : List Value} (h : w.rangeAt b o cs) (hb : Below B w w') (hB : b < B) : w'.rangeAt b o cs :=
  fun j v hv => (hb.cell (by exact hB)).trans (h j v hv)

/-- A whole row goes into the block that was made last. -/
theorem wpList_store_new {P : Program} {ops : Array Oper} {rest : List Oper} {op : Oper} {a : Act} {w0 : World} {Q : Exit → Act → World → Prop} {c : Array Value} (hgd : op.guard = none) (ty : TypeId) (x y : Operand) (ho : op.op = .store ty x y)
    (cells : Array Value) (H : Nat) (hH : w0.heap.size = H) (hx : a.eval x = .pointer (some ⟨H, 0, none⟩)) (hy : a.eval y = .agg cells)
    (hc : c.size = cells.size) (hi : (P.info? ty).map (·.size) = some cells.size) (h1 : cells.all (·.oneCell') = true)
    (h : wpList P ops Q rest (a.put op.dst undef) (w0.alloc (.cells cells ty))) : wpList P ops Q (op :: rest) a (w0.alloc (.cells c ty)) :=
  wpList_plain hgd fun _ hK => by
    subst hH
    unfold Oper.wp execOp
    simp only [ho, hx, hy, Instr.storeAt, Instr.sureAddr, Sem.run_bind, Sem.run_pure, Result.andThen_ok, run_storeVar_new w0 ty c cells hi hc h1]
    exact hK _ _ h

theorem range_new (w : World) (cs : List Value) (t : TypeId) : (w.alloc (.cells cs.toArray t)).rangeAt w.heap.size 0 cs := by
  have h := World.rangeAt_of_block (heap_alloc_last w (.cells cs.toArray t)) 0 cs.length
  simpa using h

end Go.Proofs.YtgmbeedbeahblaaGreatDoor

namespace Go.Proofs.YtgmbeedbeahblaaGreatDoor
open Go Go.RowKit

/-- A step's plain fields. -/
structure Sc where
  ru : Int
  nm : ByteArray
  ot : ByteArray
  g : Bool
  kk : Int
  nn : Int
  pr : Int
  en : ByteArray
  ve : Int

/-- A step's 21 cells. -/
structure Sd where
  s : Sc
  aq : Option Addr
  an : Nat
  ac : Nat
  cq : Option Addr
  cn : Nat
  cc : Nat
  e : Nd
  poq : Option Addr
  pon : Nat
  poc : Nat
  arq : Option Addr
  arn : Nat
  arc : Nat
  kiq : Option Addr
  kin : Nat
  kic : Nat

def Sd.cells (d : Sd) : List Value := [.int .i64 d.s.ru, .string d.s.nm, .string d.s.ot, .bool d.s.g, .slice d.aq d.an d.ac, .slice d.cq d.cn d.cc, .int .i64 d.s.kk, .int .i64 d.s.nn, .int .i64 d.s.pr,
  .int .i64 d.e.k, .int .i64 d.e.f, .bool d.e.neg, .slice d.e.aq d.e.an d.e.ac, .slice d.e.cq d.e.cn d.e.cc, .string d.e.m, .slice d.e.sq d.e.sn d.e.sc,
  .slice d.poq d.pon d.poc, .string d.s.en, .int .i64 d.s.ve, .slice d.arq d.arn d.arc, .slice d.kiq d.kin d.kic]
def Sd.val (d : Sd) : Value := .agg d.cells.toArray
theorem Sd.len (d : Sd) : d.cells.length = 21 := rfl
theorem Sd.one (d : Sd) : d.cells.toArray.all (·.oneCell') = true := by
  refine all_oneCell_toArray ?_
  intro v hv
  simp only [Sd.cells, List.mem_cons, List.not_mem_nil, or_false] at hv
  rcases hv with rfl | rfl | rfl | rfl | rfl | rfl | rfl | rfl | rfl | rfl | rfl | rfl | rfl | rfl | rfl | rfl | rfl | rfl | rfl | rfl | rfl <;> rfl

/-- A step as data ('non': none). -/
inductive St where
  | non
  | mk (s : Sc) (nu de : List Int) (x : Ex) (pn : Nat) (ps : Nat → Pt) (bn : Nat) (bs : Nat → Bd) (n : Nat) (ki : Nat → St)

/-- Whether the plain fields are equal. -/
def Sc.eq (s t : Sc) : Bool := (decide (s.ru = t.ru) && decide (s.nm.toList = t.nm.toList) && decide (s.ot.toList = t.ot.toList) && decide (s.en.toList = t.en.toList) && decide (s.ve = t.ve)) && (decide (s.kk = t.kk) && decide (s.nn = t.nn) && decide (s.pr = t.pr))

/-- Whether two steps are equal, their numbers by value. -/
def St.eq : St → St → Bool
  | .mk s nu de x pn ps bn bs n ki, .mk s' nu' de' x' pn' ps' bn' bs' n' ki' =>
    s.eq s' && (ratEq s.g nu de s'.g nu' de' && (x.eq x' && (PtsEq pn ps pn' ps' && (BdsEq bn bs bn' bs' && (decide (n = n') && (List.range n).all fun i => (ki i).eq (ki' i))))))
  | .non, .non => true
  | _, _ => false

/-- The step x lies in memory behind the 21 cells d. -/
def StOk (w : World) : St → Sd → Prop
  | .non, _ => False
  | .mk s nu de x pn ps bn bs n ki, d => (d.s = s ∧ d.pon = pn ∧ d.arn = bn ∧ d.kin = n) ∧ Sl w (.slice d.aq d.an d.ac) nu ∧ Sl w (.slice d.cq d.cn d.cc) de ∧ nu.length ≤ 1048576 ∧ de.length ≤ 1048576 ∧
    ExOk w x d.e ∧ PtsOk w d.poq pn ps ∧ BdsOk w d.arq bn bs ∧ n ≤ 1099511627776 ∧
    (n = 0 ∨ ∃ b o, d.kiq = some ⟨b, o, none⟩ ∧ b < w.heap.size ∧ ∃ ds : Nat → Sd, ∀ i, i < n → w.rangeAt b (o + i * 21) (ds i).cells ∧ StOk w (ki i) (ds i))

theorem StOk.below {w w' : World} (hb : Below w.heap.size w w') : ∀ {x : St} {d : Sd}, StOk w x d → StOk w' x d := by
  intro x
  induction x with
  | non => exact fun h => h.elim
  | mk s nu de x pn ps bn bs n ki ih =>
    intro d h
    unfold StOk at h ⊢
    obtain ⟨h1, h2, h3, h4, h5, h6, h7, h8, h9, h10⟩ := h
    refine ⟨h1, h2.below hb, h3.below hb, h4, h5, h6.below hb, h7.below hb, h8.below hb, h9, h10.imp id ?_⟩
    rintro ⟨b, o, e, hlt, ds, hds⟩
    exact ⟨b, o, e, Nat.lt_of_lt_of_le hlt hb.size, ds, fun i hi => ⟨rangeAt_below (hds i hi).1 hb hlt, ih i (hds i hi).2⟩⟩

theorem and_shift (a b c : Bool) : (a && b && c) = (a && (b && c)) := Bool.and_assoc a b c

end Go.Proofs.YtgmbeedbeahblaaGreatDoor
