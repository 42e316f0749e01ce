/-
  A deterministic evaluator for the model's code over abstract values: definitions alone.
-/
import GoSem.Step
namespace Go.Proofs.YtbjhjladdkbnmaaGreatDoor.Gx
open Go

/-- The capacity of an own slice: known, or only 'at least the length' (grown by append; the element's cells). -/
inductive Cap where
  | ex (c : Nat)
  | gr (sz : Nat)

/-- Abstract values. 'iptr', 'isl': memory that is never written again, by value. 'ptr', 'sl', 'map', 'yld': the session's own memory, by reference. -/
inductive AV where
  | bool (b : Bool)
  | int (k : IntKind) (n : Int)
  | str (s : List UInt8)
  | nilptr
  | ptr (b off : Nat)
  | iptr (cs : List AV)
  | nilsl
  | sl (b off len : Nat) (cap : Cap)
  | isl (len : Nat) (cs : List AV) (cap : Option Nat)
  | nilmap
  | map (b : Nat)
  | func (f : FuncId) (first captured : List AV)
  | yld (l : Nat)
  | nilfn
  | iface (t : TypeId) (v : AV)
  | nilif
  | agg (cs : List AV)
  | tup (vs : List AV)
  | unk
  | oint (k : IntKind) (lo hi : Int)
  | ostr (ne : List (List UInt8))

instance : Inhabited AV := ⟨.tup []⟩

/-- An entry of an own map. -/
structure AEnt where
  key : AV
  val : AV
  born : Nat

/-- The loop object of a range over a function. -/
structure ALoop where
  state : LoopState
  pending : Option Code
  tmps : List AV
  params : List Tmp
  assign : Code
  body : Code
  defers : Nat

/-- Blocks of a session's heap. -/
inductive AB where
  | own (cs : List AV)
  | frz (cs : List AV)
  | dead
  | map (es : List AEnt) (clock : Nat)
  | iter (m : Option Nat) (since : Nat) (seen : List Nat) (stepped : Nat)
  | siter (s : List UInt8) (pos : Nat)
  | loop (l : ALoop)
  | defd (taken : Bool)

abbrev St := List AB

/-- A deferred call: a function value and its arguments, or the mark of a loop's collected calls. -/
inductive ADef where
  | call (fv : AV) (args : List AV)
  | coll (b : Nat)

structure APan where
  v : AV
  recovered : Bool

inductive AMode where
  | returning
  | panicking (chain : List APan)

/-- A frame: its temporaries, its deferred calls, and, in a deferred call, the mode of the frame that it is called for. -/
structure Fr where
  tm : List AV
  df : List ADef
  rc : Option AMode
  ro : Option Nat

inductive Ex where
  | normal
  | exit (id : Nat)
  | ret
  | pan (chain : List APan)

/-- How a call ends. -/
inductive Out where
  | ret (v : AV)
  | pan (chain : List APan)

/-- What an effect gives: a value; a panic; the value of recover; a call that is deferred. -/
inductive EO where
  | val (v : AV) (st : St)
  | pan (chain : List APan) (st : St)
  | recov
  | dfr (d : ADef)

inductive OpOut where
  | ok (fr : Fr) (st : St)
  | pan (chain : List APan) (fr : Fr) (st : St)

/-! ### Lists -/
def nth : List AV → Nat → AV
  | [], _ => .tup []
  | x :: _, 0 => x
  | _ :: l, n + 1 => nth l n

def upd {α : Type} : List α → Nat → α → List α
  | [], _, _ => []
  | _ :: l, 0, v => v :: l
  | x :: l, n + 1, v => x :: upd l n v

def get? {α : Type} : List α → Nat → Option α
  | [], _ => none
  | x :: _, 0 => some x
  | _ :: l, n + 1 => get? l n

/-- Writes a row of cells at a place; none if it does not fit. -/
def writeAt : List AV → Nat → List AV → Option (List AV)
  | cs, _, [] => some cs
  | [], _, _ :: _ => none
  | _ :: cs, 0, v :: vs => (writeAt cs 0 vs).map (v :: ·)
  | c :: cs, n + 1, vs => (writeAt cs n vs).map (c :: ·)

/-- The first n cells, all there. -/
def takeN : List AV → Nat → Option (List AV)
  | _, 0 => some []
  | [], _ + 1 => none
  | c :: cs, n + 1 => (takeN cs n).map (c :: ·)

def dropN : List AV → Nat → List AV
  | cs, 0 => cs
  | [], _ + 1 => []
  | _ :: cs, n + 1 => dropN cs n

def isCell : AV → Bool
  | .agg _ | .tup _ | .unk => false
  | _ => true

def cellsOf : AV → List AV
  | .agg cs => cs
  | v => [v]

/-! ### Values and abstract values -/
/-- A closed value of one cell. -/
def ofS : Value → Option AV
  | .bool b => some (.bool b)
  | .int k n => some (.int k n)
  | .string s => some (.str s.data.toList)
  | .pointer none => some .nilptr
  | .slice none 0 0 => some .nilsl
  | .map none => some .nilmap
  | .nilFunc => some .nilfn
  | .nilIface => some .nilif
  | _ => none

def ofL : List Value → Option (List AV)
  | [] => some []
  | v :: vs => match ofS v, ofL vs with
    | some a, some l => some (a :: l)
    | _, _ => none

def ofV : Value → Option AV
  | .agg cs => (ofL cs.toList).map .agg
  | .tuple vs => (ofL vs.toList).map .tup
  | v => ofS v

def toS : AV → Option Value
  | .bool b => some (.bool b)
  | .int k n => some (.int k n)
  | .str s => some (.string ⟨s.toArray⟩)
  | .nilptr => some (.pointer none)
  | .nilsl => some (.slice none 0 0)
  | .nilmap => some (.map none)
  | .nilfn => some .nilFunc
  | .nilif => some .nilIface
  | _ => none

def toL : List AV → Option (List Value)
  | [] => some []
  | v :: vs => match toS v, toL vs with
    | some a, some l => some (a :: l)
    | _, _ => none

def toV : AV → Option Value
  | .agg cs => (toL cs).map fun l => .agg l.toArray
  | v => toS v

/-- What a step of the model yields without looking at the world. -/
def pureRun {α : Type} (P : Program) : Sem α → Option α
  | .pure a => some a
  | .program k => pureRun P (k P)
  | _ => none

/-! ### Integers: forms that the kernel computes fast -/
def ltI : Int → Int → Bool
  | .ofNat a, .ofNat b => Nat.blt a b
  | .ofNat _, .negSucc _ => false
  | .negSucc _, .ofNat _ => true
  | .negSucc a, .negSucc b => Nat.blt b a

def eqI : Int → Int → Bool
  | .ofNat a, .ofNat b => Nat.beq a b
  | .negSucc a, .negSucc b => Nat.beq a b
  | _, _ => false

def slowWrap (k : IntKind) (n : Int) : Int := k.wrap n

def wrapS (k : IntKind) (lim : Nat) : Int → Int
  | .ofNat m => match Nat.blt m lim with
    | true => .ofNat m
    | false => slowWrap k (.ofNat m)
  | .negSucc m => match Nat.blt m lim with
    | true => .negSucc m
    | false => slowWrap k (.negSucc m)

def wrapU (k : IntKind) (lim : Nat) : Int → Int
  | .ofNat m => .ofNat (Nat.mod m lim)
  | .negSucc m => slowWrap k (.negSucc m)

def wrapF : IntKind → Int → Int
  | .u8 => wrapU .u8 256
  | .u16 => wrapU .u16 65536
  | .u32 => wrapU .u32 4294967296
  | .u64 => wrapU .u64 18446744073709551616
  | .i8 => wrapS .i8 128
  | .i16 => wrapS .i16 32768
  | .i32 => wrapS .i32 2147483648
  | .i64 => wrapS .i64 9223372036854775808

/-! ### Equality of abstract values (for the checks in a region that draws) -/
def capEq : Cap → Cap → Bool
  | .ex a, .ex b => a == b
  | .gr a, .gr b => a == b
  | _, _ => false

mutual
def avEq : AV → AV → Bool
  | .bool a, .bool b => a == b
  | .int j a, .int k b => j == k && a == b
  | .str a, .str b => a == b
  | .nilptr, .nilptr => true
  | .ptr a o, .ptr b p => a == b && o == p
  | .iptr a, .iptr b => avsEq a b
  | .nilsl, .nilsl => true
  | .sl a o l c, .sl b p m d => a == b && o == p && l == m && capEq c d
  | .isl l a c, .isl m b d => l == m && c == d && avsEq a b
  | .nilmap, .nilmap => true
  | .map a, .map b => a == b
  | .func f a c, .func g b d => f == g && avsEq a b && avsEq c d
  | .yld a, .yld b => a == b
  | .nilfn, .nilfn => true
  | .iface t a, .iface u b => t == u && avEq a b
  | .nilif, .nilif => true
  | .agg a, .agg b => avsEq a b
  | .tup a, .tup b => avsEq a b
  | .unk, .unk => true
  | .oint j a b, .oint k c d => j == k && a == c && b == d
  | .ostr a, .ostr b => a == b
  | _, _ => false
def avsEq : List AV → List AV → Bool
  | [], [] => true
  | a :: l, b :: m => avEq a b && avsEq l m
  | _, _ => false
end

/-! ### Freezing: own memory becomes data by value -/
def frzL (f : AV → St → Option (AV × St)) : List AV → St → Option (List AV × St)
  | [], st => some ([], st)
  | v :: vs, st => match f v st with
    | some (v', st1) => match frzL f vs st1 with
      | some (vs', st2) => some (v' :: vs', st2)
      | none => none
    | none => none

def capOpt : Cap → Option Nat
  | .ex c => some c
  | .gr _ => none

/-- The cells of a block, frozen. -/
def frzBlk (f : AV → St → Option (AV × St)) (b : Nat) (st : St) : Option (List AV × St) :=
  match get? st b with
  | some (.own cs) => match frzL f cs st with
    | some (cs', st') => match get? st' b with
      | some (.own _) => some (cs', upd st' b (.frz cs'))
      | _ => none
    | none => none
  | some (.frz cs) => some (cs, st)
  | _ => none

def frzV : Nat → AV → St → Option (AV × St)
  | 0, _, _ => none
  | n + 1, v, st =>
    match v with
    | .ptr b off => (frzBlk (frzV n) b st).map fun (cs, st) => (.iptr (dropN cs off), st)
    | .sl b off len cap => (frzBlk (frzV n) b st).map fun (cs, st) => (.isl len (if len = 0 then [] else dropN cs off) (capOpt cap), st)
    | .map _ | .yld _ => none
    | .func f a c => match frzL (frzV n) a st with
      | some (a', st1) => (frzL (frzV n) c st1).map fun (c', st2) => (.func f a' c', st2)
      | none => none
    | .iface t v => (frzV n v st).map fun (v', st) => (.iface t v', st)
    | .agg cs => (frzL (frzV n) cs st).map fun (cs', st) => (.agg cs', st)
    | .tup cs => (frzL (frzV n) cs st).map fun (cs', st) => (.tup cs', st)
    | v => some (v, st)

def frzDepth : Nat := 60

/-! ### Types -/
def szOf (P : Program) (t : TypeId) : Option Nat := (P.info? t).map (·.size)
def aggT (P : Program) (t : TypeId) : Option Bool :=
  match P.underlying t with
  | some (.struct _) | some (.array _ _) => some true
  | some _ => some false
  | none => none
def zeroT (P : Program) (t : TypeId) : Option AV := ((P.info? t).bind (·.zero)).bind ofV

/-! ### Memory -/
/-- The cells from an address on. -/
def cellsAt (st : St) : AV → Option (List AV)
  | .ptr b off => match get? st b with
    | some (.own cs) | some (.frz cs) => some (dropN cs off)
    | _ => none
  | .iptr cs => some cs
  | _ => none

def loadE (P : Program) (st : St) (t : TypeId) (a : AV) : Option AV :=
  match cellsAt st a, aggT P t with
  | some cs, some true => match szOf P t with
    | some n => (takeN cs n).map .agg
    | none => none
  | some (c :: _), some false => some c
  | _, _ => none

def storeE (P : Program) (st : St) (t : TypeId) (a v : AV) : Option St :=
  match a with
  | .ptr b off => match get? st b with
    | some (.own cs) =>
      if szOf P t = some (cellsOf v).length && (cellsOf v).all isCell then (writeAt cs off (cellsOf v)).map fun cs' => upd st b (.own cs') else none
    | _ => none
  | _ => none

def fieldOf (P : Program) (t : TypeId) (f : Nat) : Option (Nat × TypeId) :=
  match P.underlying t with
  | some (.struct fs) => (fs[f]?).map fun x => (x.offset, x.type)
  | _ => none

def fieldAddrE (P : Program) (t : TypeId) (a : AV) (f : Nat) : Option AV :=
  match fieldOf P t f with
  | some (o, ft) => match szOf P ft, a with
    | some (_ + 1), .ptr b off => some (.ptr b (off + o))
    | some (_ + 1), .iptr cs => some (.iptr (dropN cs o))
    | _, _ => none
  | none => none

def partE (P : Program) (t : TypeId) (cs : List AV) (off : Nat) : Option AV :=
  match aggT P t with
  | some true => match szOf P t with
    | some n => (takeN (dropN cs off) n).map .agg
    | none => none
  | some false => get? cs off
  | none => none

def fieldE (P : Program) (t : TypeId) (a : AV) (f : Nat) : Option AV :=
  match fieldOf P t f, a with
  | some (o, ft), .agg cs => partE P ft cs o
  | _, _ => none

/-- An index inside its bounds. -/
def idx : AV → Nat → Option Nat
  | .int _ (.ofNat n), len => match Nat.blt n len with
    | true => some n
    | false => none
  | _, _ => none

def indexAddrE (P : Program) (t : TypeId) (x i : AV) : Option AV :=
  match P.underlying t with
  | some (.slice e) => match szOf P e, x with
    | some s, .sl b off len _ => (idx i len).map fun i => .ptr b (off + i * s)
    | some s, .isl len cs _ => match idx i len with
      | some i => match dropN cs (i * s) with
        | [] => none
        | c :: cs => some (.iptr (c :: cs))
      | none => none
    | _, _ => none
  | some (.array len e) => match szOf P e, x with
    | some s, .ptr b off => (idx i len).map fun i => .ptr b (off + i * s)
    | some s, .iptr cs => (idx i len).map fun i => .iptr (dropN cs (i * s))
    | _, _ => none
  | _ => none

def indexE (P : Program) (t : TypeId) (x i : AV) : Option AV :=
  match P.underlying t, x with
  | some (.array len e), .agg cs => match szOf P e, idx i len with
    | some s, some i => partE P e cs (i * s)
    | _, _ => none
  | some .string, .str s => match i with
    | .int _ (.ofNat n) => (get? s n).map fun b => .int .u8 b.toNat
    | _ => none
  | _, _ => none

/-- A bound of a slice expression. -/
def bnd : Option AV → Nat → Nat → Option Nat
  | none, d, _ => some d
  | some (.int _ (.ofNat n)), _, y => match Nat.ble n y with
    | true => some n
    | false => none
  | some _, _, _ => none

def sliceStr (s : List UInt8) (lo hi mx : Option AV) : Option AV :=
  match mx with
  | some _ => none
  | none => match bnd hi s.length s.length with
    | some h => (bnd lo 0 h).map fun l => .str ((s.drop l).take (h - l))
    | none => none

/-- Low and high under a capacity. -/
def sliceLH (len : Nat) (m : Option Nat) (lo hi : Option AV) : Option (Nat × Nat × Option Nat) :=
  match bnd hi len (m.getD len) with
  | none => none
  | some h => match bnd lo 0 h with
    | none => none
    | some l => some (l, h, m.map (· - l))

/-- Low, high and the capacity that is left (unknown: none). -/
def sliceB (len : Nat) (cap : Option Nat) (lo hi mx : Option AV) : Option (Nat × Nat × Option Nat) :=
  match mx with
  | none => sliceLH len cap lo hi
  | some v => match hi, bnd (some v) 0 (cap.getD len) with
    | some _, some m => sliceLH len (some m) lo hi
    | _, _ => none

def sliceE (P : Program) (t : TypeId) (x : AV) (lo hi mx : Option AV) : Option AV :=
  match P.underlying t, x with
  | some .string, .str s => sliceStr s lo hi mx
  | some (.slice e), .sl b off len cap => match szOf P e, sliceB len (capOpt cap) lo hi mx with
    | some s, some (l, h, some c) => some (.sl b (off + l * s) (h - l) (.ex c))
    | some s, some (l, h, none) => match cap with
      | .gr z => if z = s then some (.sl b (off + l * s) (h - l) (.gr s)) else none
      | .ex _ => none
    | _, _ => none
  | some (.slice e), .isl len cs cap => match szOf P e, sliceB len cap lo hi mx with
    | some s, some (l, h, m) => some (.isl (h - l) (if h - l = 0 then [] else dropN cs (l * s)) m)
    | _, _ => none
  | some (.slice e), .nilsl => match szOf P e, sliceB 0 (some 0) lo hi mx with
    | some _, some _ => some .nilsl
    | _, _ => none
  | some (.array n e), .ptr b off => match szOf P e, sliceB n (some n) lo hi mx with
    | some s, some (l, h, some c) => some (.sl b (off + l * s) (h - l) (.ex c))
    | _, _ => none
  | some (.array n e), .iptr cs => match szOf P e, sliceB n (some n) lo hi mx with
    | some s, some (l, h, some c) => some (.isl (h - l) (if h - l = 0 then [] else dropN cs (l * s)) (some c))
    | _, _ => none
  | _, _ => none

/-! ### Composite values -/
def setAll (cs : List AV) (off : Nat) : List AV → List AV
  | [] => cs
  | v :: vs => setAll (upd cs off v) (off + 1) vs

def fillE (place : Nat → Option (Nat × Nat)) (cs : List AV) : List (Nat × AV) → Option (List AV)
  | [] => some cs
  | (i, v) :: rest => match place i with
    | none => none
    | some (off, size) =>
      if (cellsOf v).length = size && off + size ≤ cs.length && (cellsOf v).all isCell then fillE place (setAll cs off (cellsOf v)) rest else none

def placesOf (P : Program) : List Field → Option (List (Nat × Nat))
  | [] => some []
  | f :: fs => match szOf P f.type, placesOf P fs with
    | some s, some l => some ((f.offset, s) :: l)
    | _, _ => none

def buildE (P : Program) (t : TypeId) (parts : List (Nat × AV)) : Option AV :=
  match zeroT P t, P.underlying t with
  | some z, some (.struct fs) => match placesOf P fs.toList with
    | some l => (fillE (get? l) (cellsOf z) parts).map .agg
    | none => none
  | some z, some (.array _ e) => match szOf P e with
    | some s => (fillE (fun i => some (i * s, s)) (cellsOf z) parts).map .agg
    | none => none
  | _, _ => none

def rep (z : List AV) : Nat → List AV
  | 0 => []
  | n + 1 => z ++ rep z n

def buildSliceE (P : Program) (t : TypeId) (len : Nat) (parts : List (Nat × AV)) : Option (List AV) :=
  match P.underlying t with
  | some (.slice e) => match szOf P e, zeroT P e with
    | some s, some z =>
      if len * s ≤ 16777216 && (cellsOf z).length = s then fillE (fun i => some (i * s, s)) (rep (cellsOf z) len) parts
      else none
    | _, _ => none
  | _ => none

def makeSliceE (P : Program) (t : TypeId) (len cap : AV) : Option (List AV × Nat × Nat) :=
  match P.underlying t, len, cap with
  | some (.slice e), .int _ (.ofNat l), .int _ (.ofNat c) => match P.info? e, zeroT P e with
    | some i, some z =>
      if l ≤ c && c * i.bytes ≤ 70368744177664 && c ≤ 70368744177664 && (cellsOf z).length = i.size then
        some (rep (cellsOf z) c, l, c)
      else none
    | _, _ => none
  | _, _, _ => none

/-! ### append, copy, len -/
/-- The length of a slice or a string, and its cells (of 's' cells an element). -/
def srcOf (st : St) (s : Nat) (x : AV) : Option (Nat × List AV) :=
  match x with
  | .nilsl => some (0, [])
  | .isl len cs _ => (takeN cs (len * s)).map (len, ·)
  | .sl b off len _ => match cellsAt st (.ptr b off) with
    | some cs => (takeN cs (len * s)).map (len, ·)
    | none => none
  | .str l => if s = 1 then some (l.length, l.map fun b => .int .u8 b.toNat) else none
  | _ => none

/-- A slice that grows into a new row. -/
def grow (st : St) (s need : Nat) (cs : List AV) : AV × St := (.sl st.length 0 need (.gr s), st ++ [.own cs])

/-- The zero value of an element has the element's cells. -/
def zOk (P : Program) (e : TypeId) (s : Nat) : Bool :=
  match zeroT P e with
  | some z => Nat.beq (cellsOf z).length s
  | none => false

/-- append of n elements 'new' to the slice 'x' of l elements 'old', each of s cells. -/
def appendB (st : St) (s n l : Nat) (old new : List AV) (x : AV) : Option (AV × St) :=
  match x with
  | .nilsl => some (grow st s (l + n) new)
  | .sl b off _ (.ex c) =>
    match Nat.ble (l + n) c with
    | true => match get? st b with
      | some (.own cs) => match new.all isCell, writeAt cs (off + l * s) new with
        | true, some cs' => some (.sl b off (l + n) (.ex c), upd st b (.own cs'))
        | _, _ => none
      | _ => none
    | false => some (grow st s (l + n) (old ++ new))
  | .sl b off _ (.gr z) => match get? st b with
    | some (.own cs) => match Nat.beq z s && new.all isCell && Nat.ble (off + l * s) cs.length with
      | true => some (grow (upd st b .dead) s (l + n) (old ++ new))
      | false => none
    | _ => none
  | .isl _ _ (some c) => match Nat.ble (l + n) c with
    | true => none
    | false => some (grow st s (l + n) (old ++ new))
  | _ => none

/-- append of nothing. -/
def append0 (st : St) : AV → Option (AV × St)
  | .str _ => none
  | x => some (x, st)

def appendE (P : Program) (st : St) (sT : TypeId) (xT : Option TypeId) (x y : AV) : Option (AV × St) :=
  match P.underlying sT, xT.bind P.underlying with
  | _, some (.int _) => none
  | some (.slice e), some _ => match P.info? e with
    | none => none
    | some i =>
      match srcOf st i.size y, srcOf st i.size x with
      | some (n, new), some (l, old) =>
        match Nat.ble ((2 * (l + n) + 1024) * (i.bytes + 1)) 70368744177664 && zOk P e i.size, n with
        | true, 0 => append0 st x
        | true, _ + 1 => appendB st i.size n l old new x
        | false, _ => none
      | _, _ => none
  | _, _ => none

def copyE (P : Program) (st : St) (dT : TypeId) (x y : AV) : Option (AV × St) :=
  match P.underlying dT with
  | some (.slice e) => match szOf P e with
    | none => none
    | some s => match srcOf st s y, x with
      | some _, .nilsl => some (.int .i64 0, st)
      | some (n, new), .sl b off len _ => match get? st b, takeN new (min n len * s) with
        | some (.own cs), some new => if new.all isCell then (writeAt cs off new).map fun cs' => (.int .i64 (min n len : Nat), upd st b (.own cs')) else none
        | _, _ => none
      | _, _ => none
  | _ => none

def lenE (P : Program) (st : St) (t : TypeId) (x : AV) : Option AV :=
  match P.underlying t, x with
  | some .string, .str s => some (.int .i64 s.length)
  | some (.array n _), _ => some (.int .i64 n)
  | some (.slice _), .nilsl => some (.int .i64 0)
  | some (.slice _), .sl _ _ n _ => some (.int .i64 n)
  | some (.slice _), .isl n _ _ => some (.int .i64 n)
  | some (.map _ _), .nilmap => some (.int .i64 0)
  | some (.map _ _), .map b => match get? st b with
    | some (.map es _) => some (.int .i64 es.length)
    | _ => none
  | _, _ => none

/-! ### Operators -/
/-- Comparing a value with nil, at the value's own kind of type. -/
def nilEq : TypeDesc → AV → AV → Option Bool
  | .pointer _ => fun x y => match x, y with
    | .nilptr, .ptr _ _ | .nilptr, .iptr _ | .ptr _ _, .nilptr | .iptr _, .nilptr => some false
    | _, _ => none
  | .slice _ => fun x y => match x, y with
    | .nilsl, .sl _ _ _ _ | .nilsl, .isl _ _ _ | .sl _ _ _ _, .nilsl | .isl _ _ _, .nilsl => some false
    | _, _ => none
  | .map _ _ => fun x y => match x, y with
    | .nilmap, .map _ | .map _, .nilmap => some false
    | _, _ => none
  | .func _ _ _ => fun x y => match x, y with
    | .nilfn, .func _ _ _ | .func _ _ _, .nilfn => some false
    | _, _ => none
  | .interface _ => fun x y => match x, y with
    | .nilif, .iface _ _ | .iface _ _, .nilif => some false
    | _, _ => none
  | _ => fun _ _ => none

def nilCmp (op : BinOp) (d : Option TypeDesc) (x y : AV) : Option AV :=
  match d with
  | none => none
  | some d => match op, nilEq d x y with
    | .eql, some b => some (.bool b)
    | .neq, some b => some (.bool (!b))
    | _, _ => none

def intBin : BinOp → IntKind → Int → Int → Option AV
  | .add => fun k a b => some (.int k (wrapF k (Int.add a b)))
  | .sub => fun k a b => some (.int k (wrapF k (Int.sub a b)))
  | .mul => fun k a b => some (.int k (wrapF k (Int.mul a b)))
  | .eql => fun _ a b => some (.bool (eqI a b))
  | .neq => fun _ a b => some (.bool (!eqI a b))
  | .lss => fun _ a b => some (.bool (ltI a b))
  | .leq => fun _ a b => some (.bool (!ltI b a))
  | .gtr => fun _ a b => some (.bool (ltI b a))
  | .geq => fun _ a b => some (.bool (!ltI a b))
  | _ => fun _ _ _ => none

/-- Other operators on scalars: by the model's own rule. -/
def slowBin (P : Program) (op : BinOp) (t : TypeId) (ox oy : Operand) (x y : AV) : Option AV :=
  match toV x, toV y with
  | some a, some b => match pureRun P (do eqGuard op t ox oy a b; binOp op t a b) with
    | some v => ofV v
    | none => none
  | _, _ => none

def strBin (op : BinOp) (a b : List UInt8) : Option AV :=
  match op with
  | .eql => some (.bool (a == b))
  | .neq => some (.bool (!(a == b)))
  | .lss => some (.bool (Op.bytesLess a b))
  | .leq => some (.bool (Op.bytesLess a b || a == b))
  | .gtr => some (.bool (!(Op.bytesLess a b || a == b)))
  | .geq => some (.bool (!Op.bytesLess a b))
  | .add => if a.length + b.length ≤ 70368744177664 then some (.str (a ++ b)) else none
  | _ => none

def kIdx : IntKind → Nat
  | .i8 => 0 | .i16 => 1 | .i32 => 2 | .i64 => 3 | .u8 => 4 | .u16 => 5 | .u32 => 6 | .u64 => 7

/-- A comparison of a number between two bounds with a known one. -/
def rngBin (lo hi b : Int) : BinOp → Option Bool
  | .eql => match ltI hi b || ltI b lo with
    | true => some false
    | false => none
  | .neq => match ltI hi b || ltI b lo with
    | true => some true
    | false => none
  | .lss => match ltI hi b with
    | true => some true
    | false => match ltI lo b with
      | true => none
      | false => some false
  | .leq => match ltI b hi with
    | false => some true
    | true => match ltI b lo with
      | true => some false
      | false => none
  | .gtr => match ltI b lo with
    | true => some true
    | false => match ltI b hi with
      | true => none
      | false => some false
  | .geq => match ltI lo b with
    | false => some true
    | true => match ltI hi b with
      | true => some false
      | false => none
  | _ => none

/-- A comparison of a text that is none of some with a known one. -/
def neBin (op : BinOp) (ne : List (List UInt8)) (b : List UInt8) : Option AV :=
  match ne.any fun a => a == b with
  | true => match op with
    | .eql => some (.bool false)
    | .neq => some (.bool true)
    | _ => none
  | false => none

def binE (P : Program) (op : BinOp) (t : TypeId) (ox oy : Operand) (x y : AV) : Option AV :=
  match x, y with
  | .int k a, .int j b => match Nat.beq (kIdx k) (kIdx j), intBin op k a b with
    | true, some v => some v
    | _, _ => slowBin P op t ox oy (.int k a) (.int j b)
  | .str a, .str b => strBin op a b
  | .oint k lo hi, .int j b => match Nat.beq (kIdx k) (kIdx j), rngBin lo hi b op with
    | true, some v => some (.bool v)
    | _, _ => none
  | .ostr ne, .str b => neBin op ne b
  | .str a, .ostr ne => neBin op ne a
  | x, y => match nilCmp op (P.underlying t) x y with
    | some v => some v
    | none => slowBin P op t ox oy x y

def unE (P : Program) (op : UnOp) (x : AV) : Option AV :=
  match op, x with
  | .not, .bool b => some (.bool (!b))
  | _, _ => match toV x with
    | some a => match pureRun P (Op.unary op a) with
      | some v => ofV v
      | none => none
    | none => none

def convE (P : Program) (src dst : TypeId) (x : AV) : Option AV :=
  match x with
  | .int _ n => match P.underlying src, P.underlying dst with
    | some _, some (.int k) => some (.int k (wrapF k n))
    | _, _ => none
  | .str s => match P.underlying src, P.underlying dst with
    | some _, some .string => some (.str s)
    | _, _ => none
  | _ => none

def scalars (P : Program) (f : Array TypeId → TypeId → Array Value → Sem Value) (ts : Array TypeId) (t : TypeId) (xs : List AV) : Option AV :=
  match toL xs with
  | some vs => match pureRun P (f ts t vs.toArray) with
    | some v => ofV v
    | none => none
  | none => none

/-! ### Maps -/
def keyEq (P : Program) (kT : TypeId) (a b : AV) : Option Bool :=
  match toV a, toV b with
  | some x, some y => pureRun P (Op.equal kT x y)
  | _, _ => none

/-- A key's kind that the map laws take: a string, an integer or a bool. -/
def keyScalar (P : Program) (kT : TypeId) (a : AV) : Bool :=
  match P.underlying kT, a with
  | some .string, .str _ => true
  | some (.int k), .int j _ => k == j
  | some .bool, .bool _ => true
  | _, _ => false

def sameKey : AV → AV → Bool
  | .str a, .str b => a == b
  | .int _ a, .int _ b => a == b
  | .bool a, .bool b => a == b
  | _, _ => false

def findE (k : AV) : List AEnt → Nat → Option (Nat × AV)
  | [], _ => none
  | e :: es, i => if sameKey k e.key then some (i, e.val) else findE k es (i + 1)

def mapUpdateE (P : Program) (st : St) (t : TypeId) (m k v : AV) : Option St :=
  match P.underlying t, m with
  | some (.map kT _), .map b => match get? st b with
    | some (.map es clock) =>
      if keyScalar P kT k && es.all (fun e => keyScalar P kT e.key) then
        match findE k es 0 with
        | some (i, _) => match get? es i with
          | some e => some (upd st b (.map (upd es i { e with key := k, val := v }) clock))
          | none => none
        | none => some (upd st b (.map (es ++ [⟨k, v, clock⟩]) (clock + 1)))
      else none
    | _ => none
  | _, _ => none

def lookupE (P : Program) (st : St) (t : TypeId) (m k : AV) (ok : Bool) : Option AV :=
  match P.underlying t with
  | some (.map kT eT) =>
    let es := match m with
      | .nilmap => some []
      | .map b => match get? st b with
        | some (.map es _) => some es
        | _ => none
      | _ => none
    match es, zeroT P eT with
    | some es, some z =>
      if keyScalar P kT k && es.all (fun e => keyScalar P kT e.key) then
        match findE k es 0 with
        | some (_, v) => some (if ok then .tup [v, .bool true] else v)
        | none => some (if ok then .tup [z, .bool false] else z)
      else none
    | _, _ => none
  | _ => none

def rangeE (P : Program) (st : St) (t : TypeId) (x : AV) : Option (AV × St) :=
  match P.underlying t, x with
  | some (.map _ _), .nilmap => some (.ptr st.length 0, st ++ [.iter none 0 [] 0])
  | some (.map _ _), .map b => match get? st b with
    | some (.map _ clock) => some (.ptr st.length 0, st ++ [.iter (some b) clock [] clock])
    | _ => none
  | some .string, .str s => some (.ptr st.length 0, st ++ [.siter s 0])
  | _, _ => none

/-- A step of a range over a map whose next entry is forced, or over a string. -/
def nextE (st : St) (x : AV) (isString : Bool) : Option (AV × St) :=
  match x with
  | .ptr r 0 => match get? st r, isString with
    | some (.iter none _ _ _), false => some (.tup [.bool false], st)
    | some (.iter (some m) since seen last), false => match get? st m with
      | some (.map es clock) =>
        if !seen.isEmpty && !es.isEmpty && es.all (fun e => decide (last ≤ e.born)) then none
        else
          let left := es.filter fun e => !seen.contains e.born
          let old := left.filter fun e => decide (e.born < since)
          let new := left.filter fun e => decide (since ≤ e.born)
          match old, new with
          | [], [] => some (.tup [.bool false], st)
          | [e], [] => some (.tup [.bool true, e.key, e.val], upd st r (.iter (some m) since (seen ++ [e.born]) clock))
          | _, _ => none
      | _ => none
    | some (.siter s pos), true =>
      if pos < s.length then
        let (c, width) := Utf8.decode ⟨s.toArray⟩ pos
        some (.tup [.bool true, .int .i64 pos, .int .i32 c], upd st r (.siter s (pos + width)))
      else some (.tup [.bool false], st)
    | _, _ => none
  | _ => none

def entryE (st : St) (x : AV) : Option AV :=
  match x with
  | .ptr r 0 => match get? st r with
    | some (.iter (some m) _ seen stepped) => match get? st m, seen.getLast? with
      | some (.map es clock), some stamp =>
        if clock = stepped then (es.find? fun e => e.born == stamp).map fun e => .tup [e.key, e.val] else none
      | _, _ => none
    | _ => none
  | _ => none

/-! ### Interfaces -/
def typeAssertE (P : Program) (x : AV) (_xT aT : TypeId) (ok : Bool) : Option AV :=
  match P.underlying aT, x with
  | some (.interface _), .nilif => if ok then (zeroT P aT).map fun z => .tup [z, .bool false] else none
  | some (.interface want), .iface t v => match P.info? t with
    | some i => match Instr.missingMethod want i.methods with
      | none => some (if ok then .tup [.iface t v, .bool true] else .iface t v)
      | some _ => if ok then (zeroT P aT).map fun z => .tup [z, .bool false] else none
    | none => none
  | some _, .nilif => if ok then (zeroT P aT).map fun z => .tup [z, .bool false] else none
  | some _, .iface t v =>
    if t = aT then some (if ok then .tup [v, .bool true] else v)
    else if ok then (zeroT P aT).map fun z => .tup [z, .bool false] else none
  | _, _ => none

end Go.Proofs.YtbjhjladdkbnmaaGreatDoor.Gx
