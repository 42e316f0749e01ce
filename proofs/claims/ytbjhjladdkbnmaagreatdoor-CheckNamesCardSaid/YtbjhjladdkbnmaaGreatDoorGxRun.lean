/-
  The evaluator: operations, regions, calls, code.
-/
import Derived.Test.YtbjhjladdkbnmaaGreatDoorGxEval
namespace Go.Proofs.YtbjhjladdkbnmaaGreatDoor.Gx
open Go

/-- What the evaluator is told of the program: its text, the package variables that hold known data, which calls are sealed. -/
structure Env where
  P : Program
  G : Nat → Option (List AV)
  pol : FuncId → Bool
  memo : FuncId → List AV → Option Out

def ev (E : Env) (fr : Fr) : Operand → Option AV
  | .tmp t => some (nth fr.tm t)
  | .const v => ofV v
  | .global g => (E.G g).map .iptr
  | .func f => some (.func f [] [])

def evs (E : Env) (fr : Fr) : List Operand → Option (List AV)
  | [] => some []
  | x :: xs => match ev E fr x, evs E fr xs with
    | some v, some vs => some (v :: vs)
    | _, _ => none

def evo (E : Env) (fr : Fr) : Option Operand → Option (Option AV)
  | none => some none
  | some x => (ev E fr x).map some

def evp (E : Env) (fr : Fr) : List (Nat × Operand) → Option (List (Nat × AV))
  | [] => some []
  | (i, x) :: xs => match ev E fr x, evp E fr xs with
    | some v, some vs => some ((i, v) :: vs)
    | _, _ => none

def put : Fr → Option Tmp → AV → Fr
  | ⟨tm, df, rc, ro⟩, some d, v => ⟨upd tm d v, df, rc, ro⟩
  | fr, none, _ => fr

/-! Operations that leave the session's memory as it is. -/
abbrev PF := Env → Fr → St → Option AV
def mvF (x : Operand) : PF := fun E fr _ => ev E fr x
def pickF (c a b : Operand) : PF := fun E fr _ => match ev E fr c, ev E fr a, ev E fr b with
    | some (.bool true), some a, some _ => some a
    | some (.bool false), some _, some b => some b
    | _, _, _ => none
def buildF (t : TypeId) (parts : Array (Nat × Operand)) : PF := fun E fr _ => (evp E fr parts.toList).bind (buildE E.P t)
def loadF (t : TypeId) (a : Operand) : PF := fun E fr st => match ev E fr a with
  | some a => loadE E.P st t a
  | none => none
def nilF (x : Operand) : PF := fun E fr _ => match ev E fr x with
    | some (.ptr b o) => some (.ptr b o)
    | some (.iptr cs) => some (.iptr cs)
    | some (.func f a c) => some (.func f a c)
    | _ => none
def binF (op : BinOp) (t : TypeId) (x y : Operand) : PF := fun E fr _ => match ev E fr x, ev E fr y with
    | some a, some b => binE E.P op t x y a b
    | _, _ => none
def unF (op : UnOp) (x : Operand) : PF := fun E fr _ => (ev E fr x).bind (unE E.P op)
def convF (s d : TypeId) (x : Operand) : PF := fun E fr _ => (ev E fr x).bind (convE E.P s d)
def mkifF (t : TypeId) (x : Operand) : PF := fun E fr _ => match E.P.underlying t, ev E fr x with
    | some (.interface _), _ => none
    | some _, some v => some (.iface t v)
    | _, _ => none
def mkfnF (fn : Fn) (a c : Array Operand) : PF := fun E fr _ => match fn, evs E fr a.toList, evs E fr c.toList with
    | .func f, some a, some c => some (.func f a c)
    | _, _, _ => none
def sliceF (t : TypeId) (x : Operand) (lo hi mx : Option Operand) : PF := fun E fr _ => match ev E fr x, evo E fr lo, evo E fr hi, evo E fr mx with
    | some x, some lo, some hi, some mx => sliceE E.P t x lo hi mx
    | _, _, _, _ => none
def faddrF (t : TypeId) (x : Operand) (f : Nat) : PF := fun E fr _ => match ev E fr x with
  | some a => fieldAddrE E.P t a f
  | none => none
def fieldF (t : TypeId) (x : Operand) (f : Nat) : PF := fun E fr _ => (ev E fr x).bind fun a => fieldE E.P t a f
def iaddrF (t : TypeId) (x i : Operand) : PF := fun E fr _ => match ev E fr x, ev E fr i with
    | some x, some i => indexAddrE E.P t x i
    | _, _ => none
def indexF (t : TypeId) (x i : Operand) : PF := fun E fr _ => match ev E fr x, ev E fr i with
    | some x, some i => indexE E.P t x i
    | _, _ => none
def lookupF (t : TypeId) (x i : Operand) (ok : Bool) : PF := fun E fr st => match ev E fr x, ev E fr i with
    | some x, some i => lookupE E.P st t x i ok
    | _, _ => none
def extractF (t : Operand) (i : Nat) : PF := fun E fr _ => match ev E fr t with
    | some (.tup vs) => get? vs i
    | _ => none
def assertF (x : Operand) (xT aT : TypeId) (ok : Bool) : PF := fun E fr _ => (ev E fr x).bind fun a => typeAssertE E.P a xT aT ok
def lenF (args : Array Operand) (argTypes : Array TypeId) : PF := fun E fr st => match evs E fr args.toList, argTypes[0]? with
    | some (x :: _), some t => lenE E.P st t x
    | _, _ => none
def minF (args : Array Operand) (argTypes : Array TypeId) : PF := fun E fr _ => (evs E fr args.toList).bind (scalars E.P Builtin.min_ argTypes 0)
def maxF (args : Array Operand) (argTypes : Array TypeId) : PF := fun E fr _ => (evs E fr args.toList).bind (scalars E.P Builtin.max_ argTypes 0)
def noneF : PF := fun _ _ _ => none

def builtinPure : Builtin → Array Operand → Array TypeId → PF
  | .len => lenF
  | .min => minF
  | .max => maxF
  | _ => fun _ _ => noneF

def callPure (c : Call) : PF :=
  match c.callee with
  | .builtin b => builtinPure b c.args c.argTypes
  | _ => noneF

def pureOp : Op → PF
  | .move x => mvF x
  | .assign x => mvF x
  | .pick c a b => pickF c a b
  | .build t parts => buildF t parts
  | .load t a => loadF t a
  | .nilCheck x => nilF x
  | .binOp op t x y _ => binF op t x y
  | .unOp op _ x => unF op x
  | .convert s d x => convF s d x
  | .makeInterface t x => mkifF t x
  | .makeFunc fn a c => mkfnF fn a c
  | .slice t x lo hi mx => sliceF t x lo hi mx
  | .fieldAddr t x f => faddrF t x f
  | .field t x f => fieldF t x f
  | .indexAddr t x i => iaddrF t x i
  | .index t x i => indexF t x i
  | .lookup t x i ok => lookupF t x i ok
  | .extract t i => extractF t i
  | .typeAssert x xT aT ok => assertF x xT aT ok
  | .call c => callPure c
  | _ => noneF

/-! Operations that make a new block and do nothing else: the block, and the value, given the block's number. -/
abbrev AF := Env → Fr → Option (AB × (Nat → AV))
def ptrTo (b : Nat) : AV := .ptr b 0
def slTo (len cap : Nat) (b : Nat) : AV := .sl b 0 len (.ex cap)
def ownIf (cs : List AV) (mk : Nat → AV) : Option (AB × (Nat → AV)) := match cs.all isCell with
  | true => some (.own cs, mk)
  | false => none
def allocF (t : TypeId) : AF := fun E _ => match zeroT E.P t with
    | some z => ownIf (cellsOf z) ptrTo
    | none => none
def boxF (x : Operand) : AF := fun E fr => match ev E fr x with
    | some v => ownIf (cellsOf v) ptrTo
    | none => none
def bslF (t : TypeId) (len : Nat) (parts : Array (Nat × Operand)) : AF := fun E fr => match evp E fr parts.toList with
  | some ps => match buildSliceE E.P t len ps with
    | some cs => some (.own cs, slTo len len)
    | none => none
  | none => none
def mslF (t : TypeId) (l c : Operand) : AF := fun E fr => match ev E fr l, ev E fr c with
    | some l, some c => match makeSliceE E.P t l c with
      | some (cs, l, c) => some (.own cs, slTo l c)
      | none => none
    | _, _ => none
def mmapF (r : Option Operand) : AF := fun _ _ => match r with
  | none => some (.map [] 0, .map)
  | some _ => none
def noneA : AF := fun _ _ => none

def allocOp : Op → AF
  | .alloc t => allocF t
  | .box _ x => boxF x
  | .buildSlice t len parts => bslF t len parts
  | .makeSlice t l c => mslF t l c
  | .makeMap _ r => mmapF r
  | _ => noneA

inductive OKind where
  | pure | alloc | eff
  deriving DecidableEq

def builtinKind : Builtin → OKind
  | .len | .min | .max => .pure
  | _ => .eff

def callKind (c : Call) : OKind :=
  match c.callee with
  | .builtin b => builtinKind b
  | _ => .eff

def kindOf : Op → OKind
  | .alloc _ | .box .. | .buildSlice .. | .makeSlice .. | .makeMap .. => .alloc
  | .move _ | .assign _ | .pick .. | .build .. | .load .. | .nilCheck _ | .binOp .. | .unOp .. | .convert .. | .makeInterface .. | .makeFunc ..
  | .slice .. | .fieldAddr .. | .field .. | .indexAddr .. | .index .. | .lookup .. | .extract .. | .typeAssert .. => .pure
  | .call c => callKind c
  | _ => .eff

def doRecover : Fr → Option (AV × Fr)
  | ⟨tm, df, rc, ro⟩ => match ro, rc with
    | some _, _ => none
    | none, some (.panicking (⟨v, false⟩ :: older)) => some (v, ⟨tm, df, some (.panicking (⟨v, true⟩ :: older)), none⟩)
    | none, rc => some (.nilif, ⟨tm, df, rc, none⟩)

abbrev Cal := AV → List AV → St → Option (Out × St)

/-! All other operations. -/
abbrev EF := Env → Cal → Fr → St → Option EO
def valU (o : Option St) : Option EO := match o with
  | some st => some (.val (.tup []) st)
  | none => none
def valV (o : Option (AV × St)) : Option EO := match o with
  | some (v, st) => some (.val v st)
  | none => none
def valO (o : Option (Out × St)) : Option EO := match o with
  | some (.ret v, st) => some (.val v st)
  | some (.pan ch, st) => some (.pan ch st)
  | none => none
def storeF (t : TypeId) (a v : Operand) : EF := fun E _ fr st => match ev E fr a, ev E fr v with
    | some a, some v => valU (storeE E.P st t a v)
    | _, _ => none
def callVF (f : Operand) (args : Array Operand) : EF := fun E cal fr st => match ev E fr f, evs E fr args.toList with
    | some f, some args => valO (cal f args st)
    | _, _ => none
def appF (args : Array Operand) (argTypes : Array TypeId) : EF := fun E _ fr st => match evs E fr args.toList, argTypes[0]? with
    | some [x, y], some t => valV (appendE E.P st t argTypes[1]? x y)
    | _, _ => none
def copyF (args : Array Operand) (argTypes : Array TypeId) : EF := fun E _ fr st => match evs E fr args.toList, argTypes[0]? with
    | some [x, y], some t => valV (copyE E.P st t x y)
    | _, _ => none
def recF : EF := fun _ _ _ _ => some .recov
def panF (x : Option Operand) : EF := fun E _ fr st => match x with
  | some x => match ev E fr x with
    | some (.iface t v) => some (.pan [⟨.iface t v, false⟩] st)
    | _ => none
  | none => none
def mapUpF (t : TypeId) (m k v : Operand) : EF := fun E _ fr st => match ev E fr m, ev E fr k, ev E fr v with
    | some m, some k, some v => valU (mapUpdateE E.P st t m k v)
    | _, _, _ => none
def rangeOpF (t : TypeId) (x : Operand) : EF := fun E _ fr st => match ev E fr x with
    | some x => valV (rangeE E.P st t x)
    | none => none
def nextF (x : Operand) (s : Bool) : EF := fun E _ fr st => match ev E fr x with
    | some x => valV (nextE st x s)
    | none => none
def entryF (x : Operand) : EF := fun E _ fr st => match ev E fr x with
    | some x => match entryE st x with
      | some v => some (.val v st)
      | none => none
    | none => none
def deferF (c : Call) : EF := fun E _ fr _ => match c.callee with
  | .value f => match ev E fr f, evs E fr c.args.toList with
    | some (.func g a c), some args => some (.dfr (.call (.func g a c) args))
    | _, _ => none
  | _ => none
def noneE : EF := fun _ _ _ _ => none

def builtinEff : Builtin → Array Operand → Array TypeId → EF
  | .append => appF
  | .copy => copyF
  | .recover => fun _ _ => recF
  | .panic => fun args _ => panF args[0]?
  | _ => fun _ _ => noneE

def callEff (c : Call) : EF :=
  match c.callee with
  | .value f => callVF f c.args
  | .builtin b => builtinEff b c.args c.argTypes
  | _ => noneE

def effOp : Op → EF
  | .store t a v => storeF t a v
  | .call c => callEff c
  | .panic x => panF (some x)
  | .mapUpdate t m k v => mapUpF t m k v
  | .insert t m k v => mapUpF t m k v
  | .range t x => rangeOpF t x
  | .next x s => nextF x s
  | .entry x => entryF x
  | .defer c => deferF c
  | _ => noneE

def pushDef : Fr → ADef → Fr
  | ⟨tm, df, rc, ro⟩, d => ⟨tm, d :: df, rc, ro⟩

def doPure (f : PF) (dst : Option Tmp) (E : Env) (fr : Fr) (st : St) : Option OpOut :=
  match f E fr st with
  | some v => some (.ok (put fr dst v) st)
  | none => none

def doAlloc (f : AF) (dst : Option Tmp) (E : Env) (fr : Fr) (st : St) : Option OpOut :=
  match f E fr with
  | some (ab, mk) => some (.ok (put fr dst (mk st.length)) (st ++ [ab]))
  | none => none

def doEff (dst : Option Tmp) (fr : Fr) (st : St) : Option EO → Option OpOut
  | some (.val v st') => some (.ok (put fr dst v) st')
  | some (.pan ch st') => some (.pan ch fr st')
  | some .recov => match doRecover fr with
    | some (v, fr') => some (.ok (put fr' dst v) st)
    | none => none
  | some (.dfr d) => match fr.ro with
    | none => some (.ok (put (pushDef fr d) dst (.tup [])) st)
    | some _ => none
  | none => none

def kindEval : OKind → Op → Option Tmp → Env → Cal → Fr → St → Option OpOut
  | .pure => fun o dst E _ fr st => doPure (pureOp o) dst E fr st
  | .alloc => fun o dst E _ fr st => doAlloc (allocOp o) dst E fr st
  | .eff => fun o dst E cal fr st => doEff dst fr st (effOp o E cal fr st)

def evalOp (E : Env) (cal : Cal) (o : Oper) (fr : Fr) (st : St) : Option OpOut := kindEval (kindOf o.op) o.op o.dst E cal fr st

/-- Is the operation wanted? none: its guard is no bool. -/
def wants (ops : List Oper) (tm : List AV) (o : Oper) : Option Bool :=
  match o.guard with
  | none => some true
  | some (j, w) => match (get? ops j).bind (·.dst) with
    | some d => match nth tm d with
      | .bool b => some (b == w)
      | .tup [] => some false
      | _ => none
    | none => none

/-- A region in the order of its text. -/
def evalOps (E : Env) (cal : Cal) (ops : List Oper) : List Oper → Fr → St → Option OpOut
  | [], fr, st => some (.ok fr st)
  | o :: rest, fr, st => match wants ops fr.tm o with
    | some true => match evalOp E cal o fr st with
      | some (.ok fr' st') => evalOps E cal ops rest fr' st'
      | r => r
    | some false => evalOps E cal ops rest (put fr o.dst (.tup [])) st
    | none => none

/-! ### A region that draws its order -/
def bit : List Bool → Nat → Bool
  | [], _ => false
  | b :: _, 0 => b
  | _ :: l, n + 1 => bit l n

/-- May the operation come up? -/
def readyB (o : Oper) (listed : List Bool) : Bool := o.after.toList.all fun e => !Region.binds .any e || bit listed e.on

/-- The numbers of the operations that may come up. -/
def readyL (listed : List Bool) : List Oper → List Bool → Nat → List Nat
  | [], _, _ => []
  | o :: ops, b :: bs, i => if !b && readyB o listed then i :: readyL listed ops bs (i + 1) else readyL listed ops bs (i + 1)
  | _ :: _, [], _ => []

/-- What a temporary's reader looks at. -/
def looks (ops : List Oper) (o : Oper) : List Tmp :=
  (o.op.operands.toList.filterMap fun | .tmp t => some t | _ => none) ++
  (match o.guard with
   | some (g, _) => ((get? ops g).bind (·.dst)).toList
   | none => [])

/-- Does the operation wait for number i? -/
def waitsOn (o : Oper) (i : Nat) : Bool := o.after.toList.any fun e => Region.binds .any e && Nat.beq e.on i

/-- Whoever reads a temporary that the region writes waits for its writer. -/
def readsOk (ts : List Tmp) (o : Oper) : List Oper → Nat → Bool
  | [], _ => true
  | q :: qs, i => (match q.dst with | some d => !ts.contains d || waitsOn o i | none => true) && readsOk ts o qs (i + 1)

/-- No temporary is written twice. -/
def onceOk : List Oper → Bool
  | [] => true
  | q :: qs => (match q.dst with | some d => qs.all (fun p => match p.dst with | some d' => !Nat.beq d d' | none => true) | none => true) && onceOk qs

/-- An operation waits for earlier ones alone. -/
def edgesOk : List Oper → Nat → Bool
  | [], _ => true
  | o :: os, i => o.after.toList.all (fun e => !Region.binds .any e || Nat.blt e.on i) && edgesOk os (i + 1)

def ssa (ops : List Oper) : Bool := ops.all (fun o => readsOk (looks ops o) o ops 0) && onceOk ops && edgesOk ops 0

/-- What has been carried out quietly in a region that draws, and may in truth still be open: a load (its type, its address, what it gave), a new block; a look into a map that no effect may follow. -/
inductive Pend where
  | load (i : Nat) (t : TypeId) (a v : AV)
  | blk (i : Nat) (b : Nat) (ab : AB)
  | busy (i : Nat)

def Pend.num : Pend → Nat
  | .load i .. => i
  | .blk i .. => i
  | .busy i => i

def abSame : AB → AB → Bool
  | .own a, .own b => avsEq a b
  | .map [] 0, .map [] 0 => true
  | _, _ => false

/-- Is it as it was? -/
def still (E : Env) (st : St) : Pend → Bool
  | .load _ t a v => match loadE E.P st t a with
    | some u => avEq u v
    | none => false
  | .blk _ b ab => match get? st b with
    | some ab' => abSame ab' ab
    | none => false
  | .busy _ => false

/-- Behind an effect: what is pending is as it was, but for what the effect has waited for. -/
def stable (E : Env) (o : Oper) (st : St) : List Pend → Option (List Pend)
  | [] => some []
  | p :: ps => match stable E o st ps with
    | none => none
    | some ps' => match waitsOn o p.num with
      | true => some ps'
      | false => match still E st p with
        | true => some (p :: ps')
        | false => none

def pendCall (i : Nat) (c : Call) (E : Env) (fr : Fr) : Option (List Pend) :=
  match evs E fr c.args.toList with
  | some (.map _ :: _) => some [.busy i]
  | some _ => some []
  | none => none

/-- Quiet operations: what is left pending of one. -/
def pendOf (i : Nat) : Op → Env → Fr → AV → Option (List Pend)
  | .load t a => fun E fr v => match ev E fr a with
    | some a => some [.load i t a v]
    | none => none
  | .lookup .. => fun _ _ _ => some [.busy i]
  | .call c => fun E fr _ => pendCall i c E fr
  | _ => fun _ _ _ => some []

def firstQ (ops : List Oper) : List Nat → Option (Nat × Oper)
  | [] => none
  | i :: is => match get? ops i with
    | some o => match kindOf o.op with
      | .eff => firstQ ops is
      | _ => some (i, o)
    | none => none

/-- All that the region writes is forgotten. -/
def forget : List Oper → List AV → List AV
  | [], tm => tm
  | o :: ops, tm => match o.dst with
    | some d => forget ops (upd tm d .unk)
    | none => forget ops tm

def forgetF (ops : List Oper) : Fr → Fr
  | ⟨tm, df, rc, ro⟩ => ⟨forget ops tm, df, rc, ro⟩

/-- A quiet operation in a region that draws: what it gives, what is pending, the memory. -/
def quietOp (E : Env) (i : Nat) (o : Oper) (fr : Fr) (st : St) : Option (AV × List Pend × St) :=
  match kindOf o.op with
  | .pure => match pureOp o.op E fr st with
    | some v => match pendOf i o.op E fr v with
      | some ps => some (v, ps, st)
      | none => none
    | none => none
  | .alloc => match allocOp o.op E fr with
    | some (ab, mk) => some (mk st.length, [.blk i st.length ab], st ++ [ab])
    | none => none
  | .eff => none

def drawn (E : Env) (cal : Cal) (ops : List Oper) : Nat → List Bool → List Pend → Fr → St → Option OpOut
  | 0, _, _, _, _ => none
  | n + 1, listed, ps, fr, st =>
    match firstQ ops (readyL listed ops listed 0) with
    | some (i, o) => match wants ops fr.tm o with
      | some false => drawn E cal ops n (upd listed i true) ps (put fr o.dst (.tup [])) st
      | some true => match quietOp E i o fr st with
        | some (v, p, st') => drawn E cal ops n (upd listed i true) (p ++ ps) (put fr o.dst v) st'
        | none => none
      | none => none
    | none => match readyL listed ops listed 0 with
      | [] => match listed.all id with
        | true => some (.ok fr st)
        | false => none
      | [i] => match get? ops i with
        | none => none
        | some o => match wants ops fr.tm o with
          | some false => drawn E cal ops n (upd listed i true) ps (put fr o.dst (.tup [])) st
          | some true => match effOp o.op E cal fr st with
            | some (.val v st') => match stable E o st' ps with
              | some ps' => drawn E cal ops n (upd listed i true) ps' (put fr o.dst v) st'
              | none => none
            | some (.pan ch st') => some (.pan ch (forgetF ops fr) st')
            | _ => none
          | none => none
      | _ => none

/-! ### Calls -/
abbrev Rn := Code → Fr → St → Option (Ex × Fr × St)

def pads (n : Nat) : List AV := List.replicate n (.tup [])

def resL (E : Env) (st : St) (tm : List AV) : List ResultVar → Option (List AV)
  | [] => some []
  | r :: rs => match (match r with | .tmp t => some (nth tm t) | .cell a t => loadE E.P st t (nth tm a)), resL E st tm rs with
    | some v, some vs => some (v :: vs)
    | _, _ => none

def resV : List AV → AV
  | [v] => v
  | vs => .tup vs

def settleA : AMode → AMode
  | .panicking (⟨_, true⟩ :: _) => .returning
  | m => m

def raisedA (m : AMode) (chain : List APan) : AMode :=
  match m with
  | .panicking old => .panicking (chain ++ old)
  | _ => .panicking chain

/-- A function's text. -/
def bodyOf (E : Env) (f : FuncId) : Option (Func × Code) :=
  match E.P.funcs[f]? with
  | some fn => match fn.body with
    | some c => some (fn, c)
    | none => none
  | none => none

/-- The body of a function; how it left, and the frame. -/
def body (R : Rn) (fn : Func) (c : Code) (args : List AV) (rc : Option AMode) (st : St) : Option (AMode × Fr × St) :=
  match R c ⟨args ++ pads (fn.ntmps - args.length), [], rc, none⟩ st with
  | some (.normal, fr, st') | some (.ret, fr, st') => some (.returning, fr, st')
  | some (.pan ch, fr, st') => some (.panicking ch, fr, st')
  | _ => none

/-- Leaving a function that has no deferred calls left. -/
def ends (E : Env) (fn : Func) (m : AMode) (fr : Fr) (st : St) : Option Out :=
  match m with
  | .returning => (resL E st fr.tm fn.results.toList).map fun vs => .ret (resV vs)
  | .panicking ch => some (.pan ch)

/-- A deferred call: its own deferred calls are not borne. -/
def deferred (E : Env) (R : Rn) (fv : AV) (args : List AV) (m : AMode) (st : St) : Option (AMode × St) :=
  match fv with
  | .func f a c => match bodyOf E f with
    | some (fn, cd) => match body R fn cd (a ++ args ++ c) (some m) st with
      | some (m', fr, st') => match fr.df, fr.rc, ends E fn m' fr st' with
        | [], some u, some (.ret _) => some (settleA u, st')
        | [], some u, some (.pan ch) => some (raisedA u ch, st')
        | _, _, _ => none
      | none => none
    | none => none
  | _ => none

def leave (E : Env) (R : Rn) : List ADef → AMode → St → Option (AMode × St)
  | [], m, st => some (m, st)
  | .coll b :: ds, m, st => match get? st b with
    | some (.defd false) => leave E R ds m (upd st b (.defd true))
    | _ => none
  | .call fv args :: ds, m, st => match deferred E R fv args m st with
    | some (m', st') => leave E R ds m' st'
    | none => none

/-- A call that shares the session's memory. -/
def inline (E : Env) (R : Rn) (f : FuncId) (args : List AV) (st : St) : Option (Out × St) :=
  match bodyOf E f with
  | some (fn, c) => match body R fn c args none st with
    | some (m, fr, st1) => match leave E R fr.df m st1 with
      | some (m', st2) => (ends E fn m' fr st2).map (·, st2)
      | none => none
    | none => none
  | none => none

def frzOut (o : Out) (st : St) : Option Out :=
  match o with
  | .ret v => (frzV frzDepth v st).map fun (v', _) => .ret v'
  | .pan ch => match ch with
    | [⟨v, false⟩] => (frzV frzDepth v st).map fun (v', _) => .pan [⟨v', false⟩]
    | _ => none

/-- A call with memory of its own: a function of its arguments alone. -/
def sealed (E : Env) (R : Rn) (f : FuncId) (args : List AV) : Option Out :=
  match inline E R f args [] with
  | some (o, st) => frzOut o st
  | none => none

/-- Does a value hold a pointer into the session's memory, a map or a loop? -/
def holdsPtr : Nat → AV → Bool
  | 0, _ => true
  | n + 1, v => match v with
    | .ptr _ _ | .map _ | .yld _ => true
    | .func _ a c => a.any (holdsPtr n) || c.any (holdsPtr n)
    | .iface _ v => holdsPtr n v
    | .agg cs => cs.any (holdsPtr n)
    | .tup cs => cs.any (holdsPtr n)
    | _ => false

def callF (E : Env) (R : Rn) (f : FuncId) (args : List AV) (st : St) : Option (Out × St) :=
  if E.pol f && !args.any (holdsPtr 8) then match frzL (frzV frzDepth) args st with
    | some (args', st') => match E.memo f args' with
      | some out => some (out, st')
      | none => match sealed E R f args' with
        | some out => some (out, st')
        | none => none
    | none => inline E R f args st
  else inline E R f args st

def setParams : List Tmp → List AV → List AV → List AV
  | t :: ts, v :: vs, tm => setParams ts vs (upd tm t v)
  | _, _, tm => tm

/-- How a round's text has ended. -/
def endRound (l : Nat) (L : ALoop) (ex : Ex) (st : St) : Option (Out × St) :=
  match ex with
  | .normal => some (.ret (.bool true), upd st l (.loop { L with state := .ready, pending := none }))
  | .ret => some (.ret (.bool false), upd st l (.loop { L with state := .done, pending := some .ret }))
  | .exit id => some (.ret (.bool false), upd st l (.loop { L with state := .done, pending := some (.exit id) }))
  | .pan ch => some (.pan ch, st)

/-- A round of a range over a function. -/
def round (R : Rn) (l : Nat) (args : List AV) (st : St) : Option (Out × St) :=
  match get? st l with
  | some (.loop L) =>
    if args.length = L.params.length then
      match R L.assign ⟨setParams L.params args L.tmps, [], none, some l⟩ st with
      | some (.normal, fr1, st1) => match get? st1 l with
        | some (.loop L1) =>
          if L1.state = .ready then
            match R L.body fr1 (upd st1 l (.loop { L1 with state := .busy })) with
            | some (ex, ⟨_, [], _, _⟩, st2) => match get? st2 l with
              | some (.loop L2) => endRound l L2 ex st2
              | _ => none
            | _ => none
          else none
        | _ => none
      | _ => none
    else none
  | _ => none

def callV (E : Env) (R : Rn) (fv : AV) (args : List AV) (st : St) : Option (Out × St) :=
  match fv with
  | .func f a c => callF E R f (a ++ args ++ c) st
  | .yld l => round R l args st
  | _ => none

/-- The block of a loop's deferred calls, the mark among the frame's, the memory. -/
def enterL (fr : Fr) (st : St) : Option (Nat × List ADef × St) :=
  match fr.ro with
  | none => some (st.length, [ADef.coll st.length], st ++ [AB.defd false])
  | some l => match get? st l with
    | some (AB.loop L) => some (L.defers, [], st)
    | _ => none

/-- Behind a range over a function. -/
def endL (lid : Nat) (fr : Fr) : Option (Out × St) → Option (Ex × Fr × St)
  | some (.ret _, st3) => match get? st3 lid with
    | some (AB.loop L) =>
      if L.state = LoopState.busy then none else
      match L.pending with
      | none => some (.normal, fr, upd st3 lid (.loop { L with state := .exhausted }))
      | some .ret => some (.ret, fr, upd st3 lid (.loop { L with state := .exhausted }))
      | some (.exit id) => some (.exit id, fr, upd st3 lid (.loop { L with state := .exhausted }))
      | some _ => none
    | _ => none
  | some (.pan ch, st3) => some (.pan ch, fr, st3)
  | none => none

/-- A range over a function. -/
def rangeF (E : Env) (R : Rn) (f : Operand) (params : List Tmp) (assign bd : Code) (fr : Fr) (st : St) : Option (Ex × Fr × St) :=
  match ev E fr f, enterL fr st with
  | some fv, some (dblk, mark, st1) =>
    endL st1.length { fr with df := mark ++ fr.df }
      (callV E R fv [.yld st1.length] (st1 ++ [AB.loop ⟨.ready, none, fr.tm, params, assign, bd, dblk⟩]))
  | _, _ => none

def outEx : Option OpOut → Option (Ex × Fr × St)
  | some (.ok fr st) => some (.normal, fr, st)
  | some (.pan ch fr st) => some (.pan ch, fr, st)
  | none => none

def region (E : Env) (R : Rn) (ops : List Oper) (draw : Bool) (fr : Fr) (st : St) : Option (Ex × Fr × St) :=
  if draw then
    if ssa ops then outEx (drawn E (callV E R) ops (ops.length + 1) (List.replicate ops.length false) [] fr st) else none
  else outEx (evalOps E (callV E R) ops ops fr st)

def runSeq (R : Rn) (b : Code) : Option (Ex × Fr × St) → Option (Ex × Fr × St)
  | some (.normal, fr, st) => R b fr st
  | r => r

def runBlock (id : Nat) : Option (Ex × Fr × St) → Option (Ex × Fr × St)
  | some (.exit j, fr, st) => if j = id then some (.normal, fr, st) else some (.exit j, fr, st)
  | r => r

abbrev CF := Env → Rn → Fr → St → Option (Ex × Fr × St)
def skipC : CF := fun _ _ fr st => some (.normal, fr, st)
def regC (ops : Array Oper) (draw : Bool) : CF := fun E R fr st => region E R ops.toList draw fr st
def seqC (a b : Code) : CF := fun _ R fr st => runSeq R b (R a fr st)
def condC (c : Operand) (a b : Code) : CF := fun E R fr st => match ev E fr c with
  | some (.bool true) => R a fr st
  | some (.bool false) => R b fr st
  | _ => none
def blockC (id : Nat) (b : Code) : CF := fun _ R fr st => runBlock id (R b fr st)
def loopC (b : Code) : CF := fun _ R fr st => runSeq R (.loop b) (R b fr st)
def rangeC (f : Operand) (params : Array Tmp) (assign bd : Code) : CF := fun E R fr st => rangeF E R f params.toList assign bd fr st
def exitC (id : Nat) : CF := fun _ _ fr st => some (.exit id, fr, st)
def retC : CF := fun _ _ fr st => some (.ret, fr, st)
def noneC : CF := fun _ _ _ _ => none

def codeC : Code → CF
  | .skip => skipC
  | .region _ ops draw => regC ops draw
  | .seq a b => seqC a b
  | .cond c a b => condC c a b
  | .block id b => blockC id b
  | .loop b => loopC b
  | .rangeFunc f params assign bd => rangeC f params assign bd
  | .exit id => exitC id
  | .ret => retC
  | _ => noneC

def run (E : Env) : Nat → Rn
  | 0 => fun _ _ _ => none
  | n + 1 => fun c => codeC c E (run E n)

/-- A sealed call with so much fuel. -/
def callS (E : Env) (n : Nat) (f : FuncId) (args : List AV) : Option Out := sealed E (run E n) f args

end Go.Proofs.YtbjhjladdkbnmaaGreatDoor.Gx
