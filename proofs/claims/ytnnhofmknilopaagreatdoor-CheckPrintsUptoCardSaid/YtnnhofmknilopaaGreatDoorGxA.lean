import GoSem.Step
import Derived.Defers
namespace Go.Proofs.YtnnhofmknilopaaGreatDoor.Gx
open Go
inductive Cap where
 | ex (c:Nat)
 | gr (sz:Nat)
inductive AV where
 | bool (b:Bool)
 | int (k:IntKind) (n:Int)
 | str (s:List UInt8)
 | nilptr
 | ptr (b off:Nat)
 | iptr (cs:List AV)
 | nilsl
 | sl (b off len:Nat) (cap:Cap)
 | isl (len:Nat) (cs:List AV) (cap:Option Nat)
 | nilmap
 | map (b:Nat)
 | func (f:FuncId) (first captured:List AV)
 | yld (l:Nat)
 | nilfn
 | iface (t:TypeId) (v:AV)
 | nilif
 | agg (cs:List AV)
 | tup (vs:List AV)
 | unk
 | oint (k:IntKind) (lo hi:Int)
 | ostr (ne:List (List UInt8))
instance:Inhabited AV:=⟨.tup []⟩
structure AEnt where
 key:AV
 val:AV
 born:Nat
structure ALoop where
 state:LoopState
 pending:Option Code
 tmps:List AV
 params:List Tmp
 assign:Code
 body:Code
 defers:Nat
inductive AB where
 | own (cs:List AV)
 | frz (cs:List AV)
 | dead
 | map (es:List AEnt) (clock:Nat)
 | iter (m:Option Nat) (since:Nat) (seen:List Nat) (stepped:Nat)
 | siter (s:List UInt8) (pos:Nat)
 | loop (l:ALoop)
 | defd (taken:Bool)
abbrev St:=List AB
inductive ADef where
 | call (fv:AV) (args:List AV)
 | coll (b:Nat)
structure APan where
 v:AV
 recovered:Bool
inductive AMode where
 | returning
 | panicking (chain:List APan)
structure Fr where
 tm:List AV
 df:List ADef
 rc:Option AMode
 ro:Option Nat
inductive Ex where
 | normal
 | exit (id:Nat)
 | ret
 | pan (chain:List APan)
inductive Out where
 | ret (v:AV)
 | pan (chain:List APan)
inductive EO where
 | val (v:AV) (st:St)
 | pan (chain:List APan) (st:St)
 | recov
 | dfr (d:ADef)
inductive OpOut where
 | ok (fr:Fr) (st:St)
 | pan (chain:List APan) (fr:Fr) (st:St)
def nth:List AV->Nat->AV
 | [],_=>.tup []
 | x::_,0=>x
 | _::l,n+1=>nth l n
def upd {α:Type}:List α->Nat->α->List α
 | [],_,_=>[]
 | _::l,0,v=>v::l
 | x::l,n+1,v=>x::upd l n v
def get? {α:Type}:List α->Nat->Option α
 | [],_=>none
 | x::_,0=>some x
 | _::l,n+1=>get? l n
def writeAt:List AV->Nat->List AV->Option (List AV)
 | cs,_,[]=>some cs
 | [],_,_::_=>none
 | _::cs,0,v::vs=>(writeAt cs 0 vs).map (v::·)
 | c::cs,n+1,vs=>(writeAt cs n vs).map (c::·)
def takeN:List AV->Nat->Option (List AV)
 | _,0=>some []
 | [],_+1=>none
 | c::cs,n+1=>(takeN cs n).map (c::·)
def dropN:List AV->Nat->List AV
 | cs,0=>cs
 | [],_+1=>[]
 | _::cs,n+1=>dropN cs n
def isCell:AV->Bool
 | .agg _ | .tup _ | .unk=>false
 | _=>true
def cellsOf:AV->List AV
 | .agg cs=>cs
 | v=>[v]
def ofS:Value->Option AV
 | .bool b=>some (.bool b)
 | .int k n=>some (.int k n)
 | .string s=>some (.str s.data.toList)
 | .pointer none=>some .nilptr
 | .slice none 0 0=>some .nilsl
 | .map none=>some .nilmap
 | .nilFunc=>some .nilfn
 | .nilIface=>some .nilif
 | _=>none
def ofL:List Value->Option (List AV)
 | []=>some []
 | v::vs=>match ofS v,ofL vs with
  | some a,some l=>some (a::l)
  | _,_=>none
def ofV:Value->Option AV
 | .agg cs=>(ofL cs.toList).map .agg
 | .tuple vs=>(ofL vs.toList).map .tup
 | v=>ofS v
def toS:AV->Option Value
 | .bool b=>some (.bool b)
 | .int k n=>some (.int k n)
 | .str s=>some (.string ⟨s.toArray⟩)
 | .nilptr=>some (.pointer none)
 | .nilsl=>some (.slice none 0 0)
 | .nilmap=>some (.map none)
 | .nilfn=>some .nilFunc
 | .nilif=>some .nilIface
 | _=>none
def toL:List AV->Option (List Value)
 | []=>some []
 | v::vs=>match toS v,toL vs with
  | some a,some l=>some (a::l)
  | _,_=>none
def toV:AV->Option Value
 | .agg cs=>(toL cs).map fun l=>.agg l.toArray
 | v=>toS v
def pureRun {α:Type} (P:Program):Sem α->Option α
 | .pure a=>some a
 | .program k=>pureRun P (k P)
 | _=>none
def ltI:Int->Int->Bool
 | .ofNat a,.ofNat b=>Nat.blt a b
 | .ofNat _,.negSucc _=>false
 | .negSucc _,.ofNat _=>true
 | .negSucc a,.negSucc b=>Nat.blt b a
def eqI:Int->Int->Bool
 | .ofNat a,.ofNat b=>Nat.beq a b
 | .negSucc a,.negSucc b=>Nat.beq a b
 | _,_=>false
def slowWrap (k:IntKind) (n:Int):Int:=k.wrap n
def wrapS (k:IntKind) (lim:Nat):Int->Int
 | .ofNat m=>match Nat.blt m lim with
  | true=>.ofNat m
  | false=>slowWrap k (.ofNat m)
 | .negSucc m=>match Nat.blt m lim with
  | true=>.negSucc m
  | false=>slowWrap k (.negSucc m)
def wrapU (k:IntKind) (lim:Nat):Int->Int
 | .ofNat m=>.ofNat (Nat.mod m lim)
 | .negSucc m=>slowWrap k (.negSucc m)
def wrapF:IntKind->Int->Int
 | .u8=>wrapU .u8 256
 | .u16=>wrapU .u16 65536
 | .u32=>wrapU .u32 4294967296
 | .u64=>wrapU .u64 18446744073709551616
 | .i8=>wrapS .i8 128
 | .i16=>wrapS .i16 32768
 | .i32=>wrapS .i32 2147483648
 | .i64=>wrapS .i64 9223372036854775808
def capEq:Cap->Cap->Bool
 | .ex a,.ex b=>a==b
 | .gr a,.gr b=>a==b
 | _,_=>false
mutual
def avEq:AV->AV->Bool
 | .bool a,.bool b=>a==b
 | .int j a,.int k b=>j==k&&a==b
 | .str a,.str b=>a==b
 | .nilptr,.nilptr=>true
 | .ptr a o,.ptr b p=>a==b&&o==p
 | .iptr a,.iptr b=>avsEq a b
 | .nilsl,.nilsl=>true
 | .sl a o l c,.sl b p m d=>a==b&&o==p&&l==m&&capEq c d
 | .isl l a c,.isl m b d=>l==m&&c==d&&avsEq a b
 | .nilmap,.nilmap=>true
 | .map a,.map b=>a==b
 | .func f a c,.func g b d=>f==g&&avsEq a b&&avsEq c d
 | .yld a,.yld b=>a==b
 | .nilfn,.nilfn=>true
 | .iface t a,.iface u b=>t==u&&avEq a b
 | .nilif,.nilif=>true
 | .agg a,.agg b=>avsEq a b
 | .tup a,.tup b=>avsEq a b
 | .unk,.unk=>true
 | .oint j a b,.oint k c d=>j==k&&a==c&&b==d
 | .ostr a,.ostr b=>a==b
 | _,_=>false
def avsEq:List AV->List AV->Bool
 | [],[]=>true
 | a::l,b::m=>avEq a b&&avsEq l m
 | _,_=>false
end
def frzL (f:AV->St->Option (AV × St)):List AV->St->Option (List AV × St)
 | [],st=>some ([],st)
 | v::vs,st=>match f v st with
  | some (v',st1)=>match frzL f vs st1 with
   | some (vs',st2)=>some (v'::vs',st2)
   | none=>none
  | none=>none
def capOpt:Cap->Option Nat
 | .ex c=>some c
 | .gr _=>none
def frzBlk (f:AV->St->Option (AV × St)) (b:Nat) (st:St):Option (List AV × St):=
 match get? st b with
 | some (.own cs)=>match frzL f cs st with
  | some (cs',st')=>match get? st' b with
   | some (.own _)=>some (cs',upd st' b (.frz cs'))
   | _=>none
  | none=>none
 | some (.frz cs)=>some (cs,st)
 | _=>none
def frzV:Nat->AV->St->Option (AV × St)
 | 0,_,_=>none
 | n+1,v,st=>
  match v with
  | .ptr b off=>(frzBlk (frzV n) b st).map fun(cs,st)=>(.iptr (dropN cs off),st)
  | .sl b off len cap=>(frzBlk (frzV n) b st).map fun(cs,st)=>(.isl len (if len=0 then [] else dropN cs off) (capOpt cap),st)
  | .map _ | .yld _=>none
  | .func f a c=>match frzL (frzV n) a st with
   | some (a',st1)=>(frzL (frzV n) c st1).map fun(c',st2)=>(.func f a' c',st2)
   | none=>none
  | .iface t v=>(frzV n v st).map fun(v',st)=>(.iface t v',st)
  | .agg cs=>(frzL (frzV n) cs st).map fun(cs',st)=>(.agg cs',st)
  | .tup cs=>(frzL (frzV n) cs st).map fun(cs',st)=>(.tup cs',st)
  | v=>some (v,st)
def frzDepth:Nat:=60
def szOf (P:Program) (t:TypeId):Option Nat:=(P.info? t).map (·.size)
def aggT (P:Program) (t:TypeId):Option Bool:=
 match P.underlying t with
 | some (.struct _) | some (.array _ _)=>some true
 | some _=>some false
 | none=>none
def zeroT (P:Program) (t:TypeId):Option AV:=((P.info? t).bind (·.zero)).bind ofV
def cellsAt (st:St):AV->Option (List AV)
 | .ptr b off=>match get? st b with
  | some (.own cs) | some (.frz cs)=>some (dropN cs off)
  | _=>none
 | .iptr cs=>some cs
 | _=>none
def loadE (P:Program) (st:St) (t:TypeId) (a:AV):Option AV:=
 match cellsAt st a,aggT P t with
 | some cs,some true=>match szOf P t with
  | some n=>(takeN cs n).map .agg
  | none=>none
 | some (c::_),some false=>some c
 | _,_=>none
def storeE (P:Program) (st:St) (t:TypeId) (a v:AV):Option St:=
 match a with
 | .ptr b off=>match get? st b with
  | some (.own cs)=>
   if szOf P t=some (cellsOf v).length&&(cellsOf v).all isCell then(writeAt cs off (cellsOf v)).map fun cs'=>upd st b (.own cs') else none
  | _=>none
 | _=>none
def fieldOf (P:Program) (t:TypeId) (f:Nat):Option (Nat × TypeId):=
 match P.underlying t with
 | some (.struct fs)=>(fs[f]?).map fun x=>(x.offset,x.type)
 | _=>none
def fieldAddrE (P:Program) (t:TypeId) (a:AV) (f:Nat):Option AV:=
 match fieldOf P t f with
 | some (o,ft)=>match szOf P ft,a with
  | some (_+1),.ptr b off=>some (.ptr b (off+o))
  | some (_+1),.iptr cs=>some (.iptr (dropN cs o))
  | _,_=>none
 | none=>none
def partE (P:Program) (t:TypeId) (cs:List AV) (off:Nat):Option AV:=
 match aggT P t with
 | some true=>match szOf P t with
  | some n=>(takeN (dropN cs off) n).map .agg
  | none=>none
 | some false=>get? cs off
 | none=>none
def fieldE (P:Program) (t:TypeId) (a:AV) (f:Nat):Option AV:=
 match fieldOf P t f,a with
 | some (o,ft),.agg cs=>partE P ft cs o
 | _,_=>none
def idx:AV->Nat->Option Nat
 | .int _ (.ofNat n),len=>match Nat.blt n len with
  | true=>some n
  | false=>none
 | _,_=>none
def indexAddrE (P:Program) (t:TypeId) (x i:AV):Option AV:=
 match P.underlying t with
 | some (.slice e)=>match szOf P e,x with
  | some s,.sl b off len _=>(idx i len).map fun i=>.ptr b (off+i*s)
  | some s,.isl len cs _=>match idx i len with
   | some i=>match dropN cs (i*s) with
    | []=>none
    | c::cs=>some (.iptr (c::cs))
   | none=>none
  | _,_=>none
 | some (.array len e)=>match szOf P e,x with
  | some s,.ptr b off=>(idx i len).map fun i=>.ptr b (off+i*s)
  | some s,.iptr cs=>(idx i len).map fun i=>.iptr (dropN cs (i*s))
  | _,_=>none
 | _=>none
def indexE (P:Program) (t:TypeId) (x i:AV):Option AV:=
 match P.underlying t,x with
 | some (.array len e),.agg cs=>match szOf P e,idx i len with
  | some s,some i=>partE P e cs (i*s)
  | _,_=>none
 | some .string,.str s=>match i with
  | .int _ (.ofNat n)=>(get? s n).map fun b=>.int .u8 b.toNat
  | _=>none
 | _,_=>none
def bnd:Option AV->Nat->Nat->Option Nat
 | none,d,_=>some d
 | some (.int _ (.ofNat n)),_,y=>match Nat.ble n y with
  | true=>some n
  | false=>none
 | some _,_,_=>none
def sliceStr (s:List UInt8) (lo hi mx:Option AV):Option AV:=
 match mx with
 | some _=>none
 | none=>match bnd hi s.length s.length with
  | some h=>(bnd lo 0 h).map fun l=>.str ((s.drop l).take (h - l))
  | none=>none
def sliceLH (len:Nat) (m:Option Nat) (lo hi:Option AV):Option (Nat × Nat × Option Nat):=
 match bnd hi len (m.getD len) with
 | none=>none
 | some h=>match bnd lo 0 h with
  | none=>none
  | some l=>some (l,h,m.map (·- l))
def sliceB (len:Nat) (cap:Option Nat) (lo hi mx:Option AV):Option (Nat × Nat × Option Nat):=
 match mx with
 | none=>sliceLH len cap lo hi
 | some v=>match hi,bnd (some v) 0 (cap.getD len) with
  | some _,some m=>sliceLH len (some m) lo hi
  | _,_=>none
def sliceE (P:Program) (t:TypeId) (x:AV) (lo hi mx:Option AV):Option AV:=
 match P.underlying t,x with
 | some .string,.str s=>sliceStr s lo hi mx
 | some (.slice e),.sl b off len cap=>match szOf P e,sliceB len (capOpt cap) lo hi mx with
  | some s,some (l,h,some c)=>some (.sl b (off+l*s) (h - l) (.ex c))
  | some s,some (l,h,none)=>match cap with
   | .gr z=>if z=s then some (.sl b (off+l*s) (h - l) (.gr s)) else none
   | .ex _=>none
  | _,_=>none
 | some (.slice e),.isl len cs cap=>match szOf P e,sliceB len cap lo hi mx with
  | some s,some (l,h,m)=>some (.isl (h - l) (if h - l=0 then [] else dropN cs (l*s)) m)
  | _,_=>none
 | some (.slice e),.nilsl=>match szOf P e,sliceB 0 (some 0) lo hi mx with
  | some _,some _=>some .nilsl
  | _,_=>none
 | some (.array n e),.ptr b off=>match szOf P e,sliceB n (some n) lo hi mx with
  | some s,some (l,h,some c)=>some (.sl b (off+l*s) (h - l) (.ex c))
  | _,_=>none
 | some (.array n e),.iptr cs=>match szOf P e,sliceB n (some n) lo hi mx with
  | some s,some (l,h,some c)=>some (.isl (h - l) (if h - l=0 then [] else dropN cs (l*s)) (some c))
  | _,_=>none
 | _,_=>none
def setAll (cs:List AV) (off:Nat):List AV->List AV
 | []=>cs
 | v::vs=>setAll (upd cs off v) (off+1) vs
def fillE (place:Nat->Option (Nat × Nat)) (cs:List AV):List (Nat × AV)->Option (List AV)
 | []=>some cs
 | (i,v)::rest=>match place i with
  | none=>none
  | some (off,size)=>
   if (cellsOf v).length=size&&off+size<=cs.length&&(cellsOf v).all isCell then fillE place (setAll cs off (cellsOf v)) rest else none
def placesOf (P:Program):List Field->Option (List (Nat × Nat))
 | []=>some []
 | f::fs=>match szOf P f.type,placesOf P fs with
  | some s,some l=>some ((f.offset,s)::l)
  | _,_=>none
def buildE (P:Program) (t:TypeId) (parts:List (Nat × AV)):Option AV:=
 match zeroT P t,P.underlying t with
 | some z,some (.struct fs)=>match placesOf P fs.toList with
  | some l=>(fillE (get? l) (cellsOf z) parts).map .agg
  | none=>none
 | some z,some (.array _ e)=>match szOf P e with
  | some s=>(fillE (fun i=>some (i*s,s)) (cellsOf z) parts).map .agg
  | none=>none
 | _,_=>none
def rep (z:List AV):Nat->List AV
 | 0=>[]
 | n+1=>z++rep z n
def buildSliceE (P:Program) (t:TypeId) (len:Nat) (parts:List (Nat × AV)):Option (List AV):=
 match P.underlying t with
 | some (.slice e)=>match szOf P e,zeroT P e with
  | some s,some z=>
   if len*s<=16777216&&(cellsOf z).length=s then fillE (fun i=>some (i*s,s)) (rep (cellsOf z) len) parts
   else none
  | _,_=>none
 | _=>none
def makeSliceE (P:Program) (t:TypeId) (len cap:AV):Option (List AV × Nat × Nat):=
 match P.underlying t,len,cap with
 | some (.slice e),.int _ (.ofNat l),.int _ (.ofNat c)=>match P.info? e,zeroT P e with
  | some i,some z=>
   if l<=c&&c*i.bytes<=70368744177664&&c<=70368744177664&&(cellsOf z).length=i.size then
    some (rep (cellsOf z) c,l,c)
   else none
  | _,_=>none
 | _,_,_=>none
def srcOf (st:St) (s:Nat) (x:AV):Option (Nat × List AV):=
 match x with
 | .nilsl=>some (0,[])
 | .isl len cs _=>(takeN cs (len*s)).map (len,·)
 | .sl b off len _=>match cellsAt st (.ptr b off) with
  | some cs=>(takeN cs (len*s)).map (len,·)
  | none=>none
 | .str l=>if s=1 then some (l.length,l.map fun b=>.int .u8 b.toNat) else none
 | _=>none
def grow (st:St) (s need:Nat) (cs:List AV):AV × St:=(.sl st.length 0 need (.gr s),st++[.own cs])
def zOk (P:Program) (e:TypeId) (s:Nat):Bool:=
 match zeroT P e with
 | some z=>Nat.beq (cellsOf z).length s
 | none=>false
def appendB (st:St) (s n l:Nat) (old new:List AV) (x:AV):Option (AV × St):=
 match x with
 | .nilsl=>some (grow st s (l+n) new)
 | .sl b off _ (.ex c)=>
  match Nat.ble (l+n) c with
  | true=>match get? st b with
   | some (.own cs)=>match new.all isCell,writeAt cs (off+l*s) new with
    | true,some cs'=>some (.sl b off (l+n) (.ex c),upd st b (.own cs'))
    | _,_=>none
   | _=>none
  | false=>some (grow st s (l+n) (old++new))
 | .sl b off _ (.gr z)=>match get? st b with
  | some (.own cs)=>match Nat.beq z s&&new.all isCell&&Nat.ble (off+l*s) cs.length with
   | true=>some (grow (upd st b .dead) s (l+n) (old++new))
   | false=>none
  | _=>none
 | .isl _ _ (some c)=>match Nat.ble (l+n) c with
  | true=>none
  | false=>some (grow st s (l+n) (old++new))
 | _=>none
def append0 (st:St):AV->Option (AV × St)
 | .str _=>none
 | x=>some (x,st)
def appendZ (P:Program) (st:St) (e:TypeId) (x y:AV):Option (AV × St):=
 match x,y with
 | .nilsl,.int _ (.ofNat n)=>match P.info? e,zeroT P e with
  | some i,some z=>
   match Nat.blt 0 n&&Nat.ble ((2*n+1024)*(i.bytes+1)) 70368744177664&&Nat.beq (cellsOf z).length i.size with
   | true=>some (grow st i.size n (rep (cellsOf z) n))
   | false=>none
  | _,_=>none
 | _,_=>none
def appendE (P:Program) (st:St) (sT:TypeId) (xT:Option TypeId) (x y:AV):Option (AV × St):=
 match P.underlying sT,xT.bind P.underlying with
 | some (.slice e),some (.int _)=>appendZ P st e x y
 | _,some (.int _)=>none
 | some (.slice e),some _=>match P.info? e with
  | none=>none
  | some i=>
   match srcOf st i.size y,srcOf st i.size x with
   | some (n,new),some (l,old)=>
    match Nat.ble ((2*(l+n)+1024)*(i.bytes+1)) 70368744177664&&zOk P e i.size,n with
    | true,0=>append0 st x
    | true,_+1=>appendB st i.size n l old new x
    | false,_=>none
   | _,_=>none
 | _,_=>none
def copyE (P:Program) (st:St) (dT:TypeId) (x y:AV):Option (AV × St):=
 match P.underlying dT with
 | some (.slice e)=>match szOf P e with
  | none=>none
  | some s=>match srcOf st s y,x with
   | some _,.nilsl=>some (.int .i64 0,st)
   | some (n,new),.sl b off len _=>match get? st b,takeN new (min n len*s) with
    | some (.own cs),some new=>if new.all isCell then(writeAt cs off new).map fun cs'=>(.int .i64 (min n len:Nat),upd st b (.own cs')) else none
    | _,_=>none
   | _,_=>none
 | _=>none
def lenE (P:Program) (st:St) (t:TypeId) (x:AV):Option AV:=
 match P.underlying t,x with
 | some .string,.str s=>some (.int .i64 s.length)
 | some (.array n _),_=>some (.int .i64 n)
 | some (.slice _),.nilsl=>some (.int .i64 0)
 | some (.slice _),.sl _ _ n _=>some (.int .i64 n)
 | some (.slice _),.isl n _ _=>some (.int .i64 n)
 | some (.map _ _),.nilmap=>some (.int .i64 0)
 | some (.map _ _),.map b=>match get? st b with
  | some (.map es _)=>some (.int .i64 es.length)
  | _=>none
 | _,_=>none
def nilEq:TypeDesc->AV->AV->Option Bool
 | .pointer _=>fun x y=>match x,y with
  | .nilptr,.ptr _ _ | .nilptr,.iptr _ | .ptr _ _,.nilptr | .iptr _,.nilptr=>some false
  | _,_=>none
 | .slice _=>fun x y=>match x,y with
  | .nilsl,.sl _ _ _ _ | .nilsl,.isl _ _ _ | .sl _ _ _ _,.nilsl | .isl _ _ _,.nilsl=>some false
  | _,_=>none
 | .map _ _=>fun x y=>match x,y with
  | .nilmap,.map _ | .map _,.nilmap=>some false
  | _,_=>none
 | .func _ _ _=>fun x y=>match x,y with
  | .nilfn,.func _ _ _ | .func _ _ _,.nilfn=>some false
  | _,_=>none
 | .interface _=>fun x y=>match x,y with
  | .nilif,.iface _ _ | .iface _ _,.nilif=>some false
  | _,_=>none
 | _=>fun _ _=>none
def nilCmp (op:BinOp) (d:Option TypeDesc) (x y:AV):Option AV:=
 match d with
 | none=>none
 | some d=>match op,nilEq d x y with
  | .eql,some b=>some (.bool b)
  | .neq,some b=>some (.bool (!b))
  | _,_=>none
def intBin:BinOp->IntKind->Int->Int->Option AV
 | .add=>fun k a b=>some (.int k (wrapF k (Int.add a b)))
 | .sub=>fun k a b=>some (.int k (wrapF k (Int.sub a b)))
 | .mul=>fun k a b=>some (.int k (wrapF k (Int.mul a b)))
 | .eql=>fun _ a b=>some (.bool (eqI a b))
 | .neq=>fun _ a b=>some (.bool (!eqI a b))
 | .lss=>fun _ a b=>some (.bool (ltI a b))
 | .leq=>fun _ a b=>some (.bool (!ltI b a))
 | .gtr=>fun _ a b=>some (.bool (ltI b a))
 | .geq=>fun _ a b=>some (.bool (!ltI a b))
 | _=>fun _ _ _=>none
def slowBin (P:Program) (op:BinOp) (t:TypeId) (ox oy:Operand) (x y:AV):Option AV:=
 match toV x,toV y with
 | some a,some b=>match pureRun P (do eqGuard op t ox oy a b;binOp op t a b) with
  | some v=>ofV v
  | none=>none
 | _,_=>none
def strBin (op:BinOp) (a b:List UInt8):Option AV:=
 match op with
 | .eql=>some (.bool (a==b))
 | .neq=>some (.bool (!(a==b)))
 | .lss=>some (.bool (Op.bytesLess a b))
 | .leq=>some (.bool (Op.bytesLess a b||a==b))
 | .gtr=>some (.bool (!(Op.bytesLess a b||a==b)))
 | .geq=>some (.bool (!Op.bytesLess a b))
 | .add=>if a.length+b.length<=70368744177664 then some (.str (a++b)) else none
 | _=>none
def kIdx:IntKind->Nat
 | .i8=>0 | .i16=>1 | .i32=>2 | .i64=>3 | .u8=>4 | .u16=>5 | .u32=>6 | .u64=>7
def rngBin (lo hi b:Int):BinOp->Option Bool
 | .eql=>match ltI hi b||ltI b lo with
  | true=>some false
  | false=>none
 | .neq=>match ltI hi b||ltI b lo with
  | true=>some true
  | false=>none
 | .lss=>match ltI hi b with
  | true=>some true
  | false=>match ltI lo b with
   | true=>none
   | false=>some false
 | .leq=>match ltI b hi with
  | false=>some true
  | true=>match ltI b lo with
   | true=>some false
   | false=>none
 | .gtr=>match ltI b lo with
  | true=>some true
  | false=>match ltI b hi with
   | true=>none
   | false=>some false
 | .geq=>match ltI lo b with
  | false=>some true
  | true=>match ltI hi b with
   | true=>some false
   | false=>none
 | _=>none
def neBin (op:BinOp) (ne:List (List UInt8)) (b:List UInt8):Option AV:=
 match ne.any fun a=>a==b with
 | true=>match op with
  | .eql=>some (.bool false)
  | .neq=>some (.bool true)
  | _=>none
 | false=>none
def binE (P:Program) (op:BinOp) (t:TypeId) (ox oy:Operand) (x y:AV):Option AV:=
 match x,y with
 | .int k a,.int j b=>match Nat.beq (kIdx k) (kIdx j),intBin op k a b with
  | true,some v=>some v
  | _,_=>slowBin P op t ox oy (.int k a) (.int j b)
 | .str a,.str b=>strBin op a b
 | .oint k lo hi,.int j b=>match Nat.beq (kIdx k) (kIdx j),rngBin lo hi b op with
  | true,some v=>some (.bool v)
  | _,_=>none
 | .ostr ne,.str b=>neBin op ne b
 | .str a,.ostr ne=>neBin op ne a
 | x,y=>match nilCmp op (P.underlying t) x y with
  | some v=>some v
  | none=>slowBin P op t ox oy x y
def unE (P:Program) (op:UnOp) (x:AV):Option AV:=
 match op,x with
 | .not,.bool b=>some (.bool (!b))
 | _,_=>match toV x with
  | some a=>match pureRun P (Op.unary op a) with
   | some v=>ofV v
   | none=>none
  | none=>none
def convE (P:Program) (src dst:TypeId) (x:AV):Option AV:=
 match x with
 | .int _ n=>match P.underlying src,P.underlying dst with
  | some _,some (.int k)=>some (.int k (wrapF k n))
  | _,_=>none
 | .str s=>match P.underlying src,P.underlying dst with
  | some _,some .string=>some (.str s)
  | _,_=>none
 | _=>none
def scalars (P:Program) (f:Array TypeId->TypeId->Array Value->Sem Value) (ts:Array TypeId) (t:TypeId) (xs:List AV):Option AV:=
 match toL xs with
 | some vs=>match pureRun P (f ts t vs.toArray) with
  | some v=>ofV v
  | none=>none
 | none=>none
def keyScalar (P:Program) (kT:TypeId) (a:AV):Bool:=
 match P.underlying kT,a with
 | some .string,.str _=>true
 | some (.int k),.int j _=>k==j
 | some .bool,.bool _=>true
 | _,_=>false
def sameKey:AV->AV->Bool
 | .str a,.str b=>a==b
 | .int _ a,.int _ b=>a==b
 | .bool a,.bool b=>a==b
 | _,_=>false
def findE (k:AV):List AEnt->Nat->Option (Nat × AV)
 | [],_=>none
 | e::es,i=>if sameKey k e.key then some (i,e.val) else findE k es (i+1)
def mapUpdateE (P:Program) (st:St) (t:TypeId) (m k v:AV):Option St:=
 match P.underlying t,m with
 | some (.map kT _),.map b=>match get? st b with
  | some (.map es clock)=>
   if keyScalar P kT k&&es.all (fun e=>keyScalar P kT e.key) then
    match findE k es 0 with
    | some (i,_)=>match get? es i with
     | some e=>some (upd st b (.map (upd es i { e with key:=k,val:=v }) clock))
     | none=>none
    | none=>some (upd st b (.map (es++[⟨k,v,clock⟩]) (clock+1)))
   else none
  | _=>none
 | _,_=>none
def lookupE (P:Program) (st:St) (t:TypeId) (m k:AV) (ok:Bool):Option AV:=
 match P.underlying t with
 | some (.map kT eT)=>
  let es:=match m with
   | .nilmap=>some []
   | .map b=>match get? st b with
    | some (.map es _)=>some es
    | _=>none
   | _=>none
  match es,zeroT P eT with
  | some es,some z=>
   if keyScalar P kT k&&es.all (fun e=>keyScalar P kT e.key) then
    match findE k es 0 with
    | some (_,v)=>some (if ok then .tup [v,.bool true] else v)
    | none=>some (if ok then .tup [z,.bool false] else z)
   else none
  | _,_=>none
 | _=>none
def rangeE (P:Program) (st:St) (t:TypeId) (x:AV):Option (AV × St):=
 match P.underlying t,x with
 | some (.map _ _),.nilmap=>some (.ptr st.length 0,st++[.iter none 0 [] 0])
 | some (.map _ _),.map b=>match get? st b with
  | some (.map _ clock)=>some (.ptr st.length 0,st++[.iter (some b) clock [] clock])
  | _=>none
 | some .string,.str s=>some (.ptr st.length 0,st++[.siter s 0])
 | _,_=>none
def nextE (st:St) (x:AV) (isString:Bool):Option (AV × St):=
 match x with
 | .ptr r 0=>match get? st r,isString with
  | some (.iter none _ _ _),false=>some (.tup [.bool false],st)
  | some (.iter (some m) since seen last),false=>match get? st m with
   | some (.map es clock)=>
    if !seen.isEmpty&&!es.isEmpty&&es.all (fun e=>decide (last<=e.born)) then none
    else
     let left:=es.filter fun e=>!seen.contains e.born
     let old:=left.filter fun e=>decide (e.born<since)
     let new:=left.filter fun e=>decide (since<=e.born)
     match old,new with
     | [],[]=>some (.tup [.bool false],st)
     | [e],[]=>some (.tup [.bool true,e.key,e.val],upd st r (.iter (some m) since (seen++[e.born]) clock))
     | _,_=>none
   | _=>none
  | some (.siter s pos),true=>
   if pos<s.length then
    let (c,width):=Utf8.decode ⟨s.toArray⟩ pos
    some (.tup [.bool true,.int .i64 pos,.int .i32 c],upd st r (.siter s (pos+width)))
   else some (.tup [.bool false],st)
  | _,_=>none
 | _=>none
def entryE (st:St) (x:AV):Option AV:=
 match x with
 | .ptr r 0=>match get? st r with
  | some (.iter (some m) _ seen stepped)=>match get? st m,seen.getLast? with
   | some (.map es clock),some stamp=>
    if clock=stepped then(es.find? fun e=>e.born==stamp).map fun e=>.tup [e.key,e.val] else none
   | _,_=>none
  | _=>none
 | _=>none
def typeAssertE (P:Program) (x:AV) (_xT aT:TypeId) (ok:Bool):Option AV:=
 match P.underlying aT,x with
 | some (.interface _),.nilif=>if ok then(zeroT P aT).map fun z=>.tup [z,.bool false] else none
 | some (.interface want),.iface t v=>match P.info? t with
  | some i=>match Instr.missingMethod want i.methods with
   | none=>some (if ok then .tup [.iface t v,.bool true] else .iface t v)
   | some _=>if ok then(zeroT P aT).map fun z=>.tup [z,.bool false] else none
  | none=>none
 | some _,.nilif=>if ok then(zeroT P aT).map fun z=>.tup [z,.bool false] else none
 | some _,.iface t v=>
  if t=aT then some (if ok then .tup [v,.bool true] else v)
  else if ok then(zeroT P aT).map fun z=>.tup [z,.bool false] else none
 | _,_=>none
end Go.Proofs.YtnnhofmknilopaaGreatDoor.Gx
namespace Go.Proofs.YtnnhofmknilopaaGreatDoor.Gx
open Go
inductive Ent where
 | count
 | indexByte
structure Env where
 P:Program
 G:Nat->Option (List AV)
 pol:FuncId->Bool
 memo:FuncId->List AV->Option Out
 ext:FuncId->Option Ent:=fun _=>none
def cntB (c:UInt8):List UInt8->Nat->Nat
 | [],n=>n
 | x::l,n=>match x==c with
  | true=>cntB c l (n+1)
  | false=>cntB c l n
def idxB (c:UInt8):List UInt8->Nat->Int
 | [],_=>-1
 | x::l,n=>match x==c with
  | true=>Int.ofNat n
  | false=>idxB c l (n+1)
def extA:Ent->List AV->Option AV
 | .count,[.str s,.int .u8 c]=>some (.int .i64 (Int.ofNat (cntB (UInt8.ofNat c.toNat) s 0)))
 | .indexByte,[.str s,.int .u8 c]=>some (.int .i64 (idxB (UInt8.ofNat c.toNat) s 0))
 | _,_=>none
def extV (E:Env) (fv:AV) (args:List AV):Option AV:=
 match fv with
 | .func f [] []=>match E.ext f with
  | some k=>extA k args
  | none=>none
 | _=>none
def ev (E:Env) (fr:Fr):Operand->Option AV
 | .tmp t=>some (nth fr.tm t)
 | .const v=>ofV v
 | .global g=>(E.G g).map .iptr
 | .func f=>some (.func f [] [])
def evs (E:Env) (fr:Fr):List Operand->Option (List AV)
 | []=>some []
 | x::xs=>match ev E fr x,evs E fr xs with
  | some v,some vs=>some (v::vs)
  | _,_=>none
def evo (E:Env) (fr:Fr):Option Operand->Option (Option AV)
 | none=>some none
 | some x=>(ev E fr x).map some
def evp (E:Env) (fr:Fr):List (Nat × Operand)->Option (List (Nat × AV))
 | []=>some []
 | (i,x)::xs=>match ev E fr x,evp E fr xs with
  | some v,some vs=>some ((i,v)::vs)
  | _,_=>none
def put:Fr->Option Tmp->AV->Fr
 | ⟨tm,df,rc,ro⟩,some d,v=>⟨upd tm d v,df,rc,ro⟩
 | fr,none,_=>fr
abbrev PF:=Env->Fr->St->Option AV
def mvF (x:Operand):PF:=fun E fr _=>ev E fr x
def pickF (c a b:Operand):PF:=fun E fr _=>match ev E fr c,ev E fr a,ev E fr b with
 | some (.bool true),some a,some _=>some a
 | some (.bool false),some _,some b=>some b
 | _,_,_=>none
def buildF (t:TypeId) (parts:Array (Nat × Operand)):PF:=fun E fr _=>(evp E fr parts.toList).bind (buildE E.P t)
def loadF (t:TypeId) (a:Operand):PF:=fun E fr st=>match ev E fr a with
 | some a=>loadE E.P st t a
 | none=>none
def nilF (x:Operand):PF:=fun E fr _=>match ev E fr x with
 | some (.ptr b o)=>some (.ptr b o)
 | some (.iptr cs)=>some (.iptr cs)
 | some (.func f a c)=>some (.func f a c)
 | _=>none
def binF (op:BinOp) (t:TypeId) (x y:Operand):PF:=fun E fr _=>match ev E fr x,ev E fr y with
 | some a,some b=>binE E.P op t x y a b
 | _,_=>none
def unF (op:UnOp) (x:Operand):PF:=fun E fr _=>(ev E fr x).bind (unE E.P op)
def convF (s d:TypeId) (x:Operand):PF:=fun E fr _=>(ev E fr x).bind (convE E.P s d)
def mkifF (t:TypeId) (x:Operand):PF:=fun E fr _=>match E.P.underlying t,ev E fr x with
 | some (.interface _),_=>none
 | some _,some v=>some (.iface t v)
 | _,_=>none
def mkfnF (fn:Fn) (a c:Array Operand):PF:=fun E fr _=>match fn,evs E fr a.toList,evs E fr c.toList with
 | .func f,some a,some c=>some (.func f a c)
 | _,_,_=>none
def sliceF (t:TypeId) (x:Operand) (lo hi mx:Option Operand):PF:=fun E fr _=>match ev E fr x,evo E fr lo,evo E fr hi,evo E fr mx with
 | some x,some lo,some hi,some mx=>sliceE E.P t x lo hi mx
 | _,_,_,_=>none
def faddrF (t:TypeId) (x:Operand) (f:Nat):PF:=fun E fr _=>match ev E fr x with
 | some a=>fieldAddrE E.P t a f
 | none=>none
def fieldF (t:TypeId) (x:Operand) (f:Nat):PF:=fun E fr _=>(ev E fr x).bind fun a=>fieldE E.P t a f
def iaddrF (t:TypeId) (x i:Operand):PF:=fun E fr _=>match ev E fr x,ev E fr i with
 | some x,some i=>indexAddrE E.P t x i
 | _,_=>none
def indexF (t:TypeId) (x i:Operand):PF:=fun E fr _=>match ev E fr x,ev E fr i with
 | some x,some i=>indexE E.P t x i
 | _,_=>none
def lookupF (t:TypeId) (x i:Operand) (ok:Bool):PF:=fun E fr st=>match ev E fr x,ev E fr i with
 | some x,some i=>lookupE E.P st t x i ok
 | _,_=>none
def extractF (t:Operand) (i:Nat):PF:=fun E fr _=>match ev E fr t with
 | some (.tup vs)=>get? vs i
 | _=>none
def assertF (x:Operand) (xT aT:TypeId) (ok:Bool):PF:=fun E fr _=>(ev E fr x).bind fun a=>typeAssertE E.P a xT aT ok
def lenF (args:Array Operand) (argTypes:Array TypeId):PF:=fun E fr st=>match evs E fr args.toList,argTypes[0]? with
 | some (x::_),some t=>lenE E.P st t x
 | _,_=>none
def capE (P:Program) (t:TypeId) (x:AV):Option AV:=
 match P.underlying t,x with
 | some (.slice _),.nilsl=>some (.int .i64 0)
 | some (.slice _),.sl _ _ _ (.ex c)=>some (.int .i64 c)
 | some (.slice _),.isl _ _ (some c)=>some (.int .i64 c)
 | _,_=>none
def capF (args:Array Operand) (argTypes:Array TypeId):PF:=fun E fr _=>match evs E fr args.toList,argTypes[0]? with
 | some (x::_),some t=>capE E.P t x
 | _,_=>none
def minF (args:Array Operand) (argTypes:Array TypeId):PF:=fun E fr _=>(evs E fr args.toList).bind (scalars E.P Builtin.min_ argTypes 0)
def maxF (args:Array Operand) (argTypes:Array TypeId):PF:=fun E fr _=>(evs E fr args.toList).bind (scalars E.P Builtin.max_ argTypes 0)
def noneF:PF:=fun _ _ _=>none
def builtinPure:Builtin->Array Operand->Array TypeId->PF
 | .len=>lenF
 | .cap=>capF
 | .min=>minF
 | .max=>maxF
 | _=>fun _ _=>noneF
def callPure (c:Call):PF:=
 match c.callee with
 | .builtin b=>builtinPure b c.args c.argTypes
 | _=>noneF
def pureOp:Op->PF
 | .move x=>mvF x
 | .assign x=>mvF x
 | .pick c a b=>pickF c a b
 | .build t parts=>buildF t parts
 | .load t a=>loadF t a
 | .nilCheck x=>nilF x
 | .binOp op t x y _=>binF op t x y
 | .unOp op _ x=>unF op x
 | .convert s d x=>convF s d x
 | .makeInterface t x=>mkifF t x
 | .makeFunc fn a c=>mkfnF fn a c
 | .slice t x lo hi mx=>sliceF t x lo hi mx
 | .fieldAddr t x f=>faddrF t x f
 | .field t x f=>fieldF t x f
 | .indexAddr t x i=>iaddrF t x i
 | .index t x i=>indexF t x i
 | .lookup t x i ok=>lookupF t x i ok
 | .extract t i=>extractF t i
 | .typeAssert x xT aT ok=>assertF x xT aT ok
 | .call c=>callPure c
 | _=>noneF
abbrev AF:=Env->Fr->Option (AB × (Nat->AV))
def ptrTo (b:Nat):AV:=.ptr b 0
def slTo (len cap:Nat) (b:Nat):AV:=.sl b 0 len (.ex cap)
def ownIf (cs:List AV) (mk:Nat->AV):Option (AB × (Nat->AV)):=match cs.all isCell with
 | true=>some (.own cs,mk)
 | false=>none
def allocF (t:TypeId):AF:=fun E _=>match zeroT E.P t with
 | some z=>ownIf (cellsOf z) ptrTo
 | none=>none
def boxF (x:Operand):AF:=fun E fr=>match ev E fr x with
 | some v=>ownIf (cellsOf v) ptrTo
 | none=>none
def bslF (t:TypeId) (len:Nat) (parts:Array (Nat × Operand)):AF:=fun E fr=>match evp E fr parts.toList with
 | some ps=>match buildSliceE E.P t len ps with
  | some cs=>some (.own cs,slTo len len)
  | none=>none
 | none=>none
def mslF (t:TypeId) (l c:Operand):AF:=fun E fr=>match ev E fr l,ev E fr c with
 | some l,some c=>match makeSliceE E.P t l c with
  | some (cs,l,c)=>some (.own cs,slTo l c)
  | none=>none
 | _,_=>none
def mmapF (r:Option Operand):AF:=fun _ _=>match r with
 | none=>some (.map [] 0,.map)
 | some _=>none
def noneA:AF:=fun _ _=>none
def allocOp:Op->AF
 | .alloc t=>allocF t
 | .box _ x=>boxF x
 | .buildSlice t len parts=>bslF t len parts
 | .makeSlice t l c=>mslF t l c
 | .makeMap _ r=>mmapF r
 | _=>noneA
inductive OKind where
 | pure | alloc | eff
 deriving DecidableEq
def builtinKind:Builtin->OKind
 | .len | .cap | .min | .max=>.pure
 | _=>.eff
def callKind (c:Call):OKind:=
 match c.callee with
 | .builtin b=>builtinKind b
 | _=>.eff
def kindOf:Op->OKind
 | .alloc _ | .box .. | .buildSlice .. | .makeSlice .. | .makeMap ..=>.alloc
 | .move _ | .assign _ | .pick .. | .build .. | .load .. | .nilCheck _ | .binOp .. | .unOp .. | .convert .. | .makeInterface .. | .makeFunc ..
 | .slice .. | .fieldAddr .. | .field .. | .indexAddr .. | .index .. | .lookup .. | .extract .. | .typeAssert ..=>.pure
 | .call c=>callKind c
 | _=>.eff
def doRecover:Fr->Option (AV × Fr)
 | ⟨tm,df,rc,ro⟩=>match ro,rc with
  | some _,_=>none
  | none,some (.panicking (⟨v,false⟩::older))=>some (v,⟨tm,df,some (.panicking (⟨v,true⟩::older)),none⟩)
  | none,rc=>some (.nilif,⟨tm,df,rc,none⟩)
abbrev Cal:=AV->List AV->St->Option (Out × St)
abbrev EF:=Env->Cal->Fr->St->Option EO
def valU (o:Option St):Option EO:=match o with
 | some st=>some (.val (.tup []) st)
 | none=>none
def valV (o:Option (AV × St)):Option EO:=match o with
 | some (v,st)=>some (.val v st)
 | none=>none
def valO (o:Option (Out × St)):Option EO:=match o with
 | some (.ret v,st)=>some (.val v st)
 | some (.pan ch,st)=>some (.pan ch st)
 | none=>none
def storeF (t:TypeId) (a v:Operand):EF:=fun E _ fr st=>match ev E fr a,ev E fr v with
 | some a,some v=>valU (storeE E.P st t a v)
 | _,_=>none
def callVF (f:Operand) (args:Array Operand):EF:=fun E cal fr st=>match ev E fr f,evs E fr args.toList with
 | some f,some args=>match extV E f args with
  | some v=>some (.val v st)
  | none=>valO (cal f args st)
 | _,_=>none
def appF (args:Array Operand) (argTypes:Array TypeId):EF:=fun E _ fr st=>match evs E fr args.toList,argTypes[0]? with
 | some [x,y],some t=>valV (appendE E.P st t argTypes[1]? x y)
 | _,_=>none
def copyF (args:Array Operand) (argTypes:Array TypeId):EF:=fun E _ fr st=>match evs E fr args.toList,argTypes[0]? with
 | some [x,y],some t=>valV (copyE E.P st t x y)
 | _,_=>none
def recF:EF:=fun _ _ _ _=>some .recov
def panF (x:Option Operand):EF:=fun E _ fr st=>match x with
 | some x=>match ev E fr x with
  | some (.iface t v)=>some (.pan [⟨.iface t v,false⟩] st)
  | _=>none
 | none=>none
def mapUpF (t:TypeId) (m k v:Operand):EF:=fun E _ fr st=>match ev E fr m,ev E fr k,ev E fr v with
 | some m,some k,some v=>valU (mapUpdateE E.P st t m k v)
 | _,_,_=>none
def rangeOpF (t:TypeId) (x:Operand):EF:=fun E _ fr st=>match ev E fr x with
 | some x=>valV (rangeE E.P st t x)
 | none=>none
def nextF (x:Operand) (s:Bool):EF:=fun E _ fr st=>match ev E fr x with
 | some x=>valV (nextE st x s)
 | none=>none
def entryF (x:Operand):EF:=fun E _ fr st=>match ev E fr x with
 | some x=>match entryE st x with
  | some v=>some (.val v st)
  | none=>none
 | none=>none
def deferF (c:Call):EF:=fun E _ fr _=>match c.callee with
 | .value f=>match ev E fr f,evs E fr c.args.toList with
  | some (.func g a c),some args=>some (.dfr (.call (.func g a c) args))
  | _,_=>none
 | _=>none
def noneE:EF:=fun _ _ _ _=>none
def builtinEff:Builtin->Array Operand->Array TypeId->EF
 | .append=>appF
 | .copy=>copyF
 | .recover=>fun _ _=>recF
 | .panic=>fun args _=>panF args[0]?
 | _=>fun _ _=>noneE
def callEff (c:Call):EF:=
 match c.callee with
 | .value f=>callVF f c.args
 | .builtin b=>builtinEff b c.args c.argTypes
 | _=>noneE
def effOp:Op->EF
 | .store t a v=>storeF t a v
 | .call c=>callEff c
 | .panic x=>panF (some x)
 | .mapUpdate t m k v=>mapUpF t m k v
 | .insert t m k v=>mapUpF t m k v
 | .range t x=>rangeOpF t x
 | .next x s=>nextF x s
 | .entry x=>entryF x
 | .defer c=>deferF c
 | _=>noneE
def pushDef:Fr->ADef->Fr
 | ⟨tm,df,rc,ro⟩,d=>⟨tm,d::df,rc,ro⟩
def doPure (f:PF) (dst:Option Tmp) (E:Env) (fr:Fr) (st:St):Option OpOut:=
 match f E fr st with
 | some v=>some (.ok (put fr dst v) st)
 | none=>none
def doAlloc (f:AF) (dst:Option Tmp) (E:Env) (fr:Fr) (st:St):Option OpOut:=
 match f E fr with
 | some (ab,mk)=>some (.ok (put fr dst (mk st.length)) (st++[ab]))
 | none=>none
def doEff (dst:Option Tmp) (fr:Fr) (st:St):Option EO->Option OpOut
 | some (.val v st')=>some (.ok (put fr dst v) st')
 | some (.pan ch st')=>some (.pan ch fr st')
 | some .recov=>match doRecover fr with
  | some (v,fr')=>some (.ok (put fr' dst v) st)
  | none=>none
 | some (.dfr d)=>match fr.ro with
  | none=>some (.ok (put (pushDef fr d) dst (.tup [])) st)
  | some _=>none
 | none=>none
def kindEval:OKind->Op->Option Tmp->Env->Cal->Fr->St->Option OpOut
 | .pure=>fun o dst E _ fr st=>doPure (pureOp o) dst E fr st
 | .alloc=>fun o dst E _ fr st=>doAlloc (allocOp o) dst E fr st
 | .eff=>fun o dst E cal fr st=>doEff dst fr st (effOp o E cal fr st)
def toB:List AV->Option (List UInt8)
 | []=>some []
 | .int .u8 k::cs=>match toB cs with
  | some l=>some (UInt8.ofNat k.toNat::l)
  | none=>none
 | _=>none
def convX (E:Env) (fr:Fr) (st:St) (s d:TypeId) (x:Operand):Option (AV × St):=
 match ev E fr x,E.P.underlying s,E.P.underlying d with
 | some (.str l),some _,some (.slice e)=>match E.P.underlying e with
  | some (.int .u8)=>some (.sl st.length 0 l.length (.gr 1),st++[.frz (l.map fun b=>.int .u8 b.toNat)])
  | _=>none
 | some (.str _),_,_=>none
 | some a,some (.slice e),some .string=>match E.P.underlying e with
  | some (.int .u8)=>match srcOf st 1 a with
   | some (_,cs)=>match toB cs with
    | some l=>some (.str l,st)
    | none=>none
   | none=>none
  | _=>none
 | _,_,_=>none
def doConv:Op->Option Tmp->Env->Fr->St->Option OpOut
 | .convert s d x,dst,E,fr,st=>match convX E fr st s d x with
  | some (v,st')=>some (.ok (put fr dst v) st')
  | none=>none
 | _,_,_,_,_=>none
def evalOp (E:Env) (cal:Cal) (o:Oper) (fr:Fr) (st:St):Option OpOut:=
 match kindEval (kindOf o.op) o.op o.dst E cal fr st with
 | some r=>some r
 | none=>doConv o.op o.dst E fr st
def wants (ops:List Oper) (tm:List AV) (o:Oper):Option Bool:=
 match o.guard with
 | none=>some true
 | some (j,w)=>match (get? ops j).bind (·.dst) with
  | some d=>match nth tm d with
   | .bool b=>some (b==w)
   | .tup []=>some false
   | _=>none
  | none=>none
def evalOps (E:Env) (cal:Cal) (ops:List Oper):List Oper->Fr->St->Option OpOut
 | [],fr,st=>some (.ok fr st)
 | o::rest,fr,st=>match wants ops fr.tm o with
  | some true=>match evalOp E cal o fr st with
   | some (.ok fr' st')=>evalOps E cal ops rest fr' st'
   | r=>r
  | some false=>evalOps E cal ops rest (put fr o.dst (.tup [])) st
  | none=>none
def bit:List Bool->Nat->Bool
 | [],_=>false
 | b::_,0=>b
 | _::l,n+1=>bit l n
def readyB (o:Oper) (listed:List Bool):Bool:=o.after.toList.all fun e=>!Region.binds .any e||bit listed e.on
def readyL (listed:List Bool):List Oper->List Bool->Nat->List Nat
 | [],_,_=>[]
 | o::ops,b::bs,i=>if !b&&readyB o listed then i::readyL listed ops bs (i+1) else readyL listed ops bs (i+1)
 | _::_,[],_=>[]
def looks (ops:List Oper) (o:Oper):List Tmp:=
 (o.op.operands.toList.filterMap fun | .tmp t=>some t | _=>none)++
 (match o.guard with
  | some (g,_)=>((get? ops g).bind (·.dst)).toList
  | none=>[])
def waitsOn (o:Oper) (i:Nat):Bool:=o.after.toList.any fun e=>Region.binds .any e&&Nat.beq e.on i
def readsOk (ts:List Tmp) (o:Oper):List Oper->Nat->Bool
 | [],_=>true
 | q::qs,i=>(match q.dst with | some d=>!ts.contains d||waitsOn o i | none=>true)&&readsOk ts o qs (i+1)
def onceOk:List Oper->Bool
 | []=>true
 | q::qs=>(match q.dst with | some d=>qs.all (fun p=>match p.dst with | some d'=>!Nat.beq d d' | none=>true) | none=>true)&&onceOk qs
def edgesOk:List Oper->Nat->Bool
 | [],_=>true
 | o::os,i=>o.after.toList.all (fun e=>!Region.binds .any e||Nat.blt e.on i)&&edgesOk os (i+1)
def ssa (ops:List Oper):Bool:=ops.all (fun o=>readsOk (looks ops o) o ops 0)&&onceOk ops&&edgesOk ops 0
inductive Pend where
 | load (i:Nat) (t:TypeId) (a v:AV)
 | blk (i:Nat) (b:Nat) (ab:AB)
 | busy (i:Nat)
def Pend.num:Pend->Nat
 | .load i ..=>i
 | .blk i ..=>i
 | .busy i=>i
def abSame:AB->AB->Bool
 | .own a,.own b=>avsEq a b
 | .map [] 0,.map [] 0=>true
 | _,_=>false
def still (E:Env) (st:St):Pend->Bool
 | .load _ t a v=>match loadE E.P st t a with
  | some u=>avEq u v
  | none=>false
 | .blk _ b ab=>match get? st b with
  | some ab'=>abSame ab' ab
  | none=>false
 | .busy _=>false
def stable (E:Env) (o:Oper) (st:St):List Pend->Option (List Pend)
 | []=>some []
 | p::ps=>match stable E o st ps with
  | none=>none
  | some ps'=>match waitsOn o p.num with
   | true=>some ps'
   | false=>match still E st p with
    | true=>some (p::ps')
    | false=>none
def pendCall (i:Nat) (c:Call) (E:Env) (fr:Fr):Option (List Pend):=
 match evs E fr c.args.toList with
 | some (.map _::_)=>some [.busy i]
 | some _=>some []
 | none=>none
def pendOf (i:Nat):Op->Env->Fr->AV->Option (List Pend)
 | .load t a=>fun E fr v=>match ev E fr a with
  | some a=>some [.load i t a v]
  | none=>none
 | .lookup ..=>fun _ _ _=>some [.busy i]
 | .call c=>fun E fr _=>pendCall i c E fr
 | _=>fun _ _ _=>some []
def firstQ (ops:List Oper):List Nat->Option (Nat × Oper)
 | []=>none
 | i::is=>match get? ops i with
  | some o=>match kindOf o.op with
   | .eff=>firstQ ops is
   | _=>some (i,o)
  | none=>none
def forget:List Oper->List AV->List AV
 | [],tm=>tm
 | o::ops,tm=>match o.dst with
  | some d=>forget ops (upd tm d .unk)
  | none=>forget ops tm
def forgetF (ops:List Oper):Fr->Fr
 | ⟨tm,df,rc,ro⟩=>⟨forget ops tm,df,rc,ro⟩
def quietOp (E:Env) (i:Nat) (o:Oper) (fr:Fr) (st:St):Option (AV × List Pend × St):=
 match kindOf o.op with
 | .pure=>match pureOp o.op E fr st with
  | some v=>match pendOf i o.op E fr v with
   | some ps=>some (v,ps,st)
   | none=>none
  | none=>none
 | .alloc=>match allocOp o.op E fr with
  | some (ab,mk)=>some (mk st.length,[.blk i st.length ab],st++[ab])
  | none=>none
 | .eff=>none
def drawn (E:Env) (cal:Cal) (ops:List Oper):Nat->List Bool->List Pend->Fr->St->Option OpOut
 | 0,_,_,_,_=>none
 | n+1,listed,ps,fr,st=>
  match firstQ ops (readyL listed ops listed 0) with
  | some (i,o)=>match wants ops fr.tm o with
   | some false=>drawn E cal ops n (upd listed i true) ps (put fr o.dst (.tup [])) st
   | some true=>match quietOp E i o fr st with
    | some (v,p,st')=>drawn E cal ops n (upd listed i true) (p++ps) (put fr o.dst v) st'
    | none=>none
   | none=>none
  | none=>match readyL listed ops listed 0 with
   | []=>match listed.all id with
    | true=>some (.ok fr st)
    | false=>none
   | [i]=>match get? ops i with
    | none=>none
    | some o=>match wants ops fr.tm o with
     | some false=>drawn E cal ops n (upd listed i true) ps (put fr o.dst (.tup [])) st
     | some true=>match effOp o.op E cal fr st with
      | some (.val v st')=>match stable E o st' ps with
       | some ps'=>drawn E cal ops n (upd listed i true) ps' (put fr o.dst v) st'
       | none=>none
      | some (.pan ch st')=>some (.pan ch (forgetF ops fr) st')
      | _=>none
     | none=>none
   | _=>none
abbrev Rn:=Code->Fr->St->Option (Ex × Fr × St)
def pads (n:Nat):List AV:=List.replicate n (.tup [])
def resL (E:Env) (st:St) (tm:List AV):List ResultVar->Option (List AV)
 | []=>some []
 | r::rs=>match (match r with | .tmp t=>some (nth tm t) | .cell a t=>loadE E.P st t (nth tm a)),resL E st tm rs with
  | some v,some vs=>some (v::vs)
  | _,_=>none
def resV:List AV->AV
 | [v]=>v
 | vs=>.tup vs
def settleA:AMode->AMode
 | .panicking (⟨_,true⟩::_)=>.returning
 | m=>m
def raisedA (m:AMode) (chain:List APan):AMode:=
 match m with
 | .panicking old=>.panicking (chain++old)
 | _=>.panicking chain
def bodyOf (E:Env) (f:FuncId):Option (Func × Code):=
 match E.P.funcs[f]? with
 | some fn=>match fn.body with
  | some c=>some (fn,c)
  | none=>none
 | none=>none
def body (R:Rn) (fn:Func) (c:Code) (args:List AV) (rc:Option AMode) (st:St):Option (AMode × Fr × St):=
 match R c ⟨args++pads (fn.ntmps - args.length),[],rc,none⟩ st with
 | some (.normal,fr,st') | some (.ret,fr,st')=>some (.returning,fr,st')
 | some (.pan ch,fr,st')=>some (.panicking ch,fr,st')
 | _=>none
def ends (E:Env) (fn:Func) (m:AMode) (fr:Fr) (st:St):Option Out:=
 match m with
 | .returning=>(resL E st fr.tm fn.results.toList).map fun vs=>.ret (resV vs)
 | .panicking ch=>some (.pan ch)
def deferred (E:Env) (R:Rn) (fv:AV) (args:List AV) (m:AMode) (st:St):Option (AMode × St):=
 match fv with
 | .func f a c=>match bodyOf E f with
  | some (fn,cd)=>match body R fn cd (a++args++c) (some m) st with
   | some (m',fr,st')=>match fr.df,fr.rc,ends E fn m' fr st' with
    | [],some u,some (.ret _)=>some (settleA u,st')
    | [],some u,some (.pan ch)=>some (raisedA u ch,st')
    | _,_,_=>none
   | none=>none
  | none=>none
 | _=>none
def leave (E:Env) (R:Rn):List ADef->AMode->St->Option (AMode × St)
 | [],m,st=>some (m,st)
 | .coll b::ds,m,st=>match get? st b with
  | some (.defd false)=>leave E R ds m (upd st b (.defd true))
  | _=>none
 | .call fv args::ds,m,st=>match deferred E R fv args m st with
  | some (m',st')=>leave E R ds m' st'
  | none=>none
def inline (E:Env) (R:Rn) (f:FuncId) (args:List AV) (st:St):Option (Out × St):=
 match bodyOf E f with
 | some (fn,c)=>match body R fn c args none st with
  | some (m,fr,st1)=>match leave E R fr.df m st1 with
   | some (m',st2)=>(ends E fn m' fr st2).map (·,st2)
   | none=>none
  | none=>none
 | none=>none
def frzOut (o:Out) (st:St):Option Out:=
 match o with
 | .ret v=>(frzV frzDepth v st).map fun(v',_)=>.ret v'
 | .pan ch=>match ch with
  | [⟨v,false⟩]=>(frzV frzDepth v st).map fun(v',_)=>.pan [⟨v',false⟩]
  | _=>none
def sealed (E:Env) (R:Rn) (f:FuncId) (args:List AV):Option Out:=
 match inline E R f args [] with
 | some (o,st)=>frzOut o st
 | none=>none
def holdsPtr:Nat->AV->Bool
 | 0,_=>true
 | n+1,v=>match v with
  | .ptr _ _ | .map _ | .yld _=>true
  | .func _ a c=>a.any (holdsPtr n)||c.any (holdsPtr n)
  | .iface _ v=>holdsPtr n v
  | .agg cs=>cs.any (holdsPtr n)
  | .tup cs=>cs.any (holdsPtr n)
  | _=>false
def callF (E:Env) (R:Rn) (f:FuncId) (args:List AV) (st:St):Option (Out × St):=
 if E.pol f&&!args.any (holdsPtr 8) then match frzL (frzV frzDepth) args st with
  | some (args',st')=>match E.memo f args' with
   | some out=>some (out,st')
   | none=>match sealed E R f args' with
    | some out=>some (out,st')
    | none=>none
  | none=>inline E R f args st
 else inline E R f args st
def setParams:List Tmp->List AV->List AV->List AV
 | t::ts,v::vs,tm=>setParams ts vs (upd tm t v)
 | _,_,tm=>tm
def endRound (l:Nat) (L:ALoop) (ex:Ex) (st:St):Option (Out × St):=
 match ex with
 | .normal=>some (.ret (.bool true),upd st l (.loop { L with state:=.ready,pending:=none }))
 | .ret=>some (.ret (.bool false),upd st l (.loop { L with state:=.done,pending:=some .ret }))
 | .exit id=>some (.ret (.bool false),upd st l (.loop { L with state:=.done,pending:=some (.exit id) }))
 | .pan ch=>some (.pan ch,st)
def round (R:Rn) (l:Nat) (args:List AV) (st:St):Option (Out × St):=
 match get? st l with
 | some (.loop L)=>
  if args.length=L.params.length then
   match R L.assign ⟨setParams L.params args L.tmps,[],none,some l⟩ st with
   | some (.normal,fr1,st1)=>match get? st1 l with
    | some (.loop L1)=>
     if L1.state=.ready then
      match R L.body fr1 (upd st1 l (.loop { L1 with state:=.busy })) with
      | some (ex,⟨_,[],_,_⟩,st2)=>match get? st2 l with
       | some (.loop L2)=>endRound l L2 ex st2
       | _=>none
      | _=>none
     else none
    | _=>none
   | _=>none
  else none
 | _=>none
def callV (E:Env) (R:Rn) (fv:AV) (args:List AV) (st:St):Option (Out × St):=
 match fv with
 | .func f a c=>callF E R f (a++args++c) st
 | .yld l=>round R l args st
 | _=>none
def enterL (fr:Fr) (st:St):Option (Nat × List ADef × St):=
 match fr.ro with
 | none=>some (st.length,[ADef.coll st.length],st++[AB.defd false])
 | some l=>match get? st l with
  | some (AB.loop L)=>some (L.defers,[],st)
  | _=>none
def endL (lid:Nat) (fr:Fr):Option (Out × St)->Option (Ex × Fr × St)
 | some (.ret _,st3)=>match get? st3 lid with
  | some (AB.loop L)=>
   if L.state=LoopState.busy then none else
   match L.pending with
   | none=>some (.normal,fr,upd st3 lid (.loop { L with state:=.exhausted }))
   | some .ret=>some (.ret,fr,upd st3 lid (.loop { L with state:=.exhausted }))
   | some (.exit id)=>some (.exit id,fr,upd st3 lid (.loop { L with state:=.exhausted }))
   | some _=>none
  | _=>none
 | some (.pan ch,st3)=>some (.pan ch,fr,st3)
 | none=>none
def rangeF (E:Env) (R:Rn) (f:Operand) (params:List Tmp) (assign bd:Code) (fr:Fr) (st:St):Option (Ex × Fr × St):=
 match ev E fr f,enterL fr st with
 | some fv,some (dblk,mark,st1)=>
  endL st1.length { fr with df:=mark++fr.df }
   (callV E R fv [.yld st1.length] (st1++[AB.loop ⟨.ready,none,fr.tm,params,assign,bd,dblk⟩]))
 | _,_=>none
def outEx:Option OpOut->Option (Ex × Fr × St)
 | some (.ok fr st)=>some (.normal,fr,st)
 | some (.pan ch fr st)=>some (.pan ch,fr,st)
 | none=>none
def region (E:Env) (R:Rn) (ops:List Oper) (draw:Bool) (fr:Fr) (st:St):Option (Ex × Fr × St):=
 if draw then
  if ssa ops then outEx (drawn E (callV E R) ops (ops.length+1) (List.replicate ops.length false) [] fr st) else none
 else outEx (evalOps E (callV E R) ops ops fr st)
def runSeq (R:Rn) (b:Code):Option (Ex × Fr × St)->Option (Ex × Fr × St)
 | some (.normal,fr,st)=>R b fr st
 | r=>r
def runBlock (id:Nat):Option (Ex × Fr × St)->Option (Ex × Fr × St)
 | some (.exit j,fr,st)=>if j=id then some (.normal,fr,st) else some (.exit j,fr,st)
 | r=>r
abbrev CF:=Env->Rn->Fr->St->Option (Ex × Fr × St)
def skipC:CF:=fun _ _ fr st=>some (.normal,fr,st)
def regC (ops:Array Oper) (draw:Bool):CF:=fun E R fr st=>region E R ops.toList draw fr st
def seqC (a b:Code):CF:=fun _ R fr st=>runSeq R b (R a fr st)
def condC (c:Operand) (a b:Code):CF:=fun E R fr st=>match ev E fr c with
 | some (.bool true)=>R a fr st
 | some (.bool false)=>R b fr st
 | _=>none
def blockC (id:Nat) (b:Code):CF:=fun _ R fr st=>runBlock id (R b fr st)
def loopC (b:Code):CF:=fun _ R fr st=>runSeq R (.loop b) (R b fr st)
def rangeC (f:Operand) (params:Array Tmp) (assign bd:Code):CF:=fun E R fr st=>rangeF E R f params.toList assign bd fr st
def exitC (id:Nat):CF:=fun _ _ fr st=>some (.exit id,fr,st)
def retC:CF:=fun _ _ fr st=>some (.ret,fr,st)
def noneC:CF:=fun _ _ _ _=>none
def codeC:Code->CF
 | .skip=>skipC
 | .region _ ops draw=>regC ops draw
 | .seq a b=>seqC a b
 | .cond c a b=>condC c a b
 | .block id b=>blockC id b
 | .loop b=>loopC b
 | .rangeFunc f params assign bd=>rangeC f params assign bd
 | .exit id=>exitC id
 | .ret=>retC
 | _=>noneC
def run (E:Env):Nat->Rn
 | 0=>fun _ _ _=>none
 | n+1=>fun c=>codeC c E (run E n)
def callS (E:Env) (n:Nat) (f:FuncId) (args:List AV):Option Out:=sealed E (run E n) f args
end Go.Proofs.YtnnhofmknilopaaGreatDoor.Gx
namespace Go.Proofs.YtnnhofmknilopaaGreatDoor.Gx
open Go
theorem get?_eq {α:Type}:∀(l:List α) (i:Nat),get? l i=l[i]?
 | [],_=>by simp[get?]
 | x::l,0=>by simp[get?]
 | x::l,n+1=>by simp[get?,get?_eq l n]
theorem upd_eq {α:Type}:∀(l:List α) (i:Nat) (v:α),upd l i v=l.set i v
 | [],_,_=>by simp[upd]
 | x::l,0,v=>by simp[upd]
 | x::l,n+1,v=>by simp[upd,upd_eq l n v]
theorem nth_eq:∀(l:List AV) (i:Nat),nth l i=(l[i]?).getD (.tup [])
 | [],_=>by simp[nth]
 | x::l,0=>by simp[nth]
 | x::l,n+1=>by simp[nth,nth_eq l n]
theorem dropN_eq:∀(l:List AV) (n:Nat),dropN l n=l.drop n
 | l,0=>by cases l<;>simp[dropN]
 | [],n+1=>by simp[dropN]
 | x::l,n+1=>by simp[dropN,dropN_eq l n]
theorem takeN_some:∀(l:List AV) (n:Nat) (r:List AV),takeN l n=some r->r=l.take n/\r.length=n
 | l,0,r,h=>by cases l<;>simp[takeN] at h<;>simp[<-h]
 | [],n+1,r,h=>by simp[takeN] at h
 | x::l,n+1,r,h=>by
  simp only[takeN,Option.map_eq_some_iff] at h
  obtain⟨r',h1,rfl⟩:=h
  obtain⟨h2,h3⟩:=takeN_some l n r' h1
  exact⟨by simp[h2],by simp[h3]⟩
theorem writeAt_some:∀(cs:List AV) (n:Nat) (vs r:List AV),writeAt cs n vs=some r->
  r.length=cs.length/\(vs≠[]->n+vs.length<=cs.length)/\∀j,r[j]?=if n<=j/\j<n+vs.length then vs[j - n]? else cs[j]?
 | cs,n,[],r,h=>by
  have:r=cs:=by cases cs<;>simp[writeAt] at h<;>simp[h]
  subst this
  refine⟨rfl,by simp,fun j=>?_⟩
  rw[if_neg (by simp)]
 | [],n,v::vs,r,h=>by simp[writeAt] at h
 | c::cs,0,v::vs,r,h=>by
  simp only[writeAt,Option.map_eq_some_iff] at h
  obtain⟨r',h1,rfl⟩:=h
  obtain⟨h2,h3,h4⟩:=writeAt_some cs 0 vs r' h1
  refine⟨by simp[h2],fun _=>?_,fun j=>?_⟩
  ·by_cases he:vs=[]
   ·subst he;simp
   ·have:=h3 he;simp at *;omega
  ·cases j with
   | zero=>simp
   | succ j=>
    have:=h4 j
    simp only[List.getElem?_cons_succ,this]
    by_cases hj:j<vs.length
    ·simp[hj]
    ·simp[hj]
 | c::cs,n+1,v::vs,r,h=>by
  simp only[writeAt,Option.map_eq_some_iff] at h
  obtain⟨r',h1,rfl⟩:=h
  obtain⟨h2,h3,h4⟩:=writeAt_some cs n (v::vs) r' h1
  refine⟨by simp[h2],fun hne=>?_,fun j=>?_⟩
  ·have:=h3 hne;simp at *;omega
  ·cases j with
   | zero=>simp
   | succ j=>
    have:=h4 j
    simp only[List.getElem?_cons_succ,this]
    by_cases hj:n<=j/\j<n+(v::vs).length
    ·rw[if_pos hj,if_pos (by omega)]
     congr 1
     omega
    ·rw[if_neg hj,if_neg (by omega)]
abbrev Phi:=Nat->Option (Nat × Nat)
def phi0:Phi:=fun _=>none
inductive VRel (B:Nat->Prop) (w:World):Phi->AV->Value->Prop
 | bool {φ:Phi} (b:Bool):VRel B w φ (.bool b) (.bool b)
 | int {φ:Phi} (k:IntKind) (n:Int):VRel B w φ (.int k n) (.int k n)
 | str {φ:Phi} (l:List UInt8):VRel B w φ (.str l) (.string ⟨l.toArray⟩)
 | nilptr {φ:Phi}:VRel B w φ .nilptr (.pointer none)
 | ptr {φ:Phi} {b off cb co:Nat} (h:φ b=some (cb,co)):VRel B w φ (.ptr b off) (.pointer (some ⟨cb,co+off,none⟩))
 | iptr {φ:Phi} {cs:List AV} {cb o:Nat} (vs:Nat->Value) (hb:¬B cb) (hl:cb<w.heap.size)
  (hc:∀(j:Nat) c,cs[j]?=some c->w.cell? ⟨cb,o+j,none⟩=some (vs j))
  (hv:∀(j:Nat) c,cs[j]?=some c->VRel B w phi0 c (vs j)):VRel B w φ (.iptr cs) (.pointer (some ⟨cb,o,none⟩))
 | nilsl {φ:Phi}:VRel B w φ .nilsl (.slice none 0 0)
 | sl {φ:Phi} {b off len:Nat} {cap:Cap} {cb co o ccap:Nat} (h:φ b=some (cb,co)) (ho:ccap=0\/o=co+off) (hl:len<=ccap)
  (hx:∀c,cap=.ex c->ccap=c)
  (hg:∀sz,cap=.gr sz->ccap=0\/∃cells t fz,w.heap[cb]?=some (.cells cells t fz)/\co+off+ccap*sz<=cells.size):
  VRel B w φ (.sl b off len cap) (.slice (some ⟨cb,o,none⟩) len ccap)
 | isl {φ:Phi} {len:Nat} {cs:List AV} {cap:Option Nat} {a:Addr} {ccap:Nat} (vs:Nat->Value) (hx:∀c,cap=some c->ccap=c) (hl:len<=ccap)
  (hb:cs≠[]->¬B a.block/\a.spot=none)
  (hc:∀(j:Nat) c,cs[j]?=some c->w.cell? ⟨a.block,a.off+j,none⟩=some (vs j))
  (hv:∀(j:Nat) c,cs[j]?=some c->VRel B w phi0 c (vs j)):VRel B w φ (.isl len cs cap) (.slice (some a) len ccap)
 | nilmap {φ:Phi}:VRel B w φ .nilmap (.map none)
 | map {φ:Phi} {b cb co:Nat} (h:φ b=some (cb,co)):VRel B w φ (.map b) (.map (some cb))
 | func {φ:Phi} {f:FuncId} {a c:List AV} {a' c':Array Value} (ha:a.length=a'.size) (hc:c.length=c'.size)
  (hav:∀(j:Nat) x v,a[j]?=some x->a'[j]?=some v->VRel B w φ x v) (hcv:∀(j:Nat) x v,c[j]?=some x->c'[j]?=some v->VRel B w φ x v):
  VRel B w φ (.func f a c) (.func (.func f) a' c')
 | yld {φ:Phi} {l cl co:Nat} (h:φ l=some (cl,co)):VRel B w φ (.yld l) (.func (.yield cl) #[] #[])
 | nilfn {φ:Phi}:VRel B w φ .nilfn .nilFunc
 | iface {φ:Phi} {t:TypeId} {x:AV} {v:Value} (h:VRel B w φ x v):VRel B w φ (.iface t x) (.iface t v)
 | nilif {φ:Phi}:VRel B w φ .nilif .nilIface
 | agg {φ:Phi} {cs:List AV} {vs:Array Value} (hl:cs.length=vs.size) (hv:∀(j:Nat) x v,cs[j]?=some x->vs[j]?=some v->VRel B w φ x v):
  VRel B w φ (.agg cs) (.agg vs)
 | tup {φ:Phi} {cs:List AV} {vs:Array Value} (hl:cs.length=vs.size) (hv:∀(j:Nat) x v,cs[j]?=some x->vs[j]?=some v->VRel B w φ x v):
  VRel B w φ (.tup cs) (.tuple vs)
 | unk {φ:Phi} (u:Value):VRel B w φ .unk u
 | oint {φ:Phi} {k:IntKind} {lo hi n:Int} (h1:lo<=n) (h2:n<=hi):VRel B w φ (.oint k lo hi) (.int k n)
 | ostr {φ:Phi} {ne:List (List UInt8)} {l:List UInt8} (h:l∉ne):VRel B w φ (.ostr ne) (.string ⟨l.toArray⟩)
def LRel (B:Nat->Prop) (w:World) (φ:Phi) (l:List AV) (vs:List Value):Prop:=
 l.length=vs.length/\∀(j:Nat) x v,l[j]?=some x->vs[j]?=some v->VRel B w φ x v
section
variable {B:Nat->Prop} {w:World} {φ:Phi}
theorem LRel.nil:LRel B w φ [] []:=⟨rfl,fun j x v h=>by simp at h⟩
theorem LRel.cons {x:AV} {v:Value} {l:List AV} {vs:List Value} (h:VRel B w φ x v) (hl:LRel B w φ l vs):LRel B w φ (x::l) (v::vs):=by
 refine⟨by simp[hl.1],fun j y u hy hu=>?_⟩
 cases j with
 | zero=>simp at hy hu;subst hy;subst hu;exact h
 | succ j=>simp at hy hu;exact hl.2 j y u hy hu
theorem LRel.of_cons {x:AV} {v:Value} {l:List AV} {vs:List Value} (h:LRel B w φ (x::l) (v::vs)):VRel B w φ x v/\LRel B w φ l vs:=
 ⟨h.2 0 x v rfl rfl,by simpa using h.1,fun j y u hy hu=>h.2 (j+1) y u (by simpa using hy) (by simpa using hu)⟩
theorem LRel.inv_cons {x:AV} {l:List AV} {vs:List Value} (h:LRel B w φ (x::l) vs):∃v vs',vs=v::vs'/\VRel B w φ x v/\LRel B w φ l vs':=by
 cases vs with
 | nil=>have:=h.1;simp at this
 | cons v vs'=>exact⟨v,vs',rfl,h.of_cons.1,h.of_cons.2⟩
theorem LRel.inv_nil {vs:List Value} (h:LRel B w φ [] vs):vs=[]:=by
 have:=h.1;simp at this;exact List.eq_nil_of_length_eq_zero this.symm
theorem LRel.append {l l':List AV} {vs vs':List Value} (h:LRel B w φ l vs) (h':LRel B w φ l' vs'):LRel B w φ (l++l') (vs++vs'):=by
 induction l generalizing vs with
 | nil=>rw[h.inv_nil];simpa using h'
 | cons x l ih=>
  obtain⟨v,vs1,rfl,h1,h2⟩:=h.inv_cons
  exact LRel.cons h1 (ih h2)
theorem LRel.drop {l:List AV} {vs:List Value} (h:LRel B w φ l vs) (n:Nat):LRel B w φ (l.drop n) (vs.drop n):=
 ⟨by simp[h.1],fun j x v hx hv=>h.2 (n+j) x v (by simpa using hx) (by simpa using hv)⟩
theorem LRel.take {l:List AV} {vs:List Value} (h:LRel B w φ l vs) (n:Nat):LRel B w φ (l.take n) (vs.take n):=by
 refine⟨by simp[h.1],fun j x v hx hv=>?_⟩
 rw[List.getElem?_take] at hx hv
 split at hx
 ·rename_i hj;rw[if_pos hj] at hv;exact h.2 j x v hx hv
 ·simp at hx
theorem LRel.set {l:List AV} {vs:List Value} (h:LRel B w φ l vs) (i:Nat) {x:AV} {v:Value} (hv:VRel B w φ x v):LRel B w φ (l.set i x) (vs.set i v):=by
 refine⟨by simp[h.1],fun j y u hy hu=>?_⟩
 rw[List.getElem?_set] at hy hu
 by_cases hij:i=j
 ·subst hij
  simp only[if_true] at hy hu
  split at hy
  ·split at hu
   ·simp at hy hu;subst hy;subst hu;exact hv
   ·simp at hu
  ·simp at hy
 ·simp only[hij,if_false] at hy hu
  exact h.2 j y u hy hu
theorem VRel.cells {v:AV} {u:Value} (h:VRel B w φ v u) (hne:v≠.unk):LRel B w φ (cellsOf v) u.cells.toList:=by
 cases h with
 | unk=>exact absurd rfl hne
 | agg hl hv=>exact⟨by simpa [Value.cells,cellsOf] using hl,fun j x v hx hv'=>hv j x v (by simpa [cellsOf] using hx) (by simpa [Value.cells] using hv')⟩
 | bool b=>exact LRel.cons (.bool b) .nil
 | int k n=>exact LRel.cons (.int k n) .nil
 | str l=>exact LRel.cons (.str l) .nil
 | nilptr=>exact LRel.cons .nilptr .nil
 | ptr h=>exact LRel.cons (.ptr h) .nil
 | iptr vs hb hl hc hv=>exact LRel.cons (.iptr vs hb hl hc hv) .nil
 | nilsl=>exact LRel.cons .nilsl .nil
 | sl h ho hl hx hg=>exact LRel.cons (.sl h ho hl hx hg) .nil
 | isl vs hx hl hb hc hv=>exact LRel.cons (.isl vs hx hl hb hc hv) .nil
 | nilmap=>exact LRel.cons .nilmap .nil
 | map h=>exact LRel.cons (.map h) .nil
 | func ha hc hav hcv=>exact LRel.cons (.func ha hc hav hcv) .nil
 | yld h=>exact LRel.cons (.yld h) .nil
 | nilfn=>exact LRel.cons .nilfn .nil
 | iface h=>exact LRel.cons (.iface h) .nil
 | nilif=>exact LRel.cons .nilif .nil
 | tup hl hv=>exact LRel.cons (.tup hl hv) .nil
 | oint h1 h2=>exact LRel.cons (.oint h1 h2) .nil
 | ostr h=>exact LRel.cons (.ostr h) .nil
theorem ne_unk {v:AV} (h:(cellsOf v).all isCell=true):v≠.unk:=fun e=>by subst e;simp[cellsOf,isCell] at h
theorem VRel.of_list {l:List AV} {vs:List Value} (h:LRel B w φ l vs):VRel B w φ (.agg l) (.agg vs.toArray):=
 .agg (by simp[h.1]) (fun j x v hx hv=>h.2 j x v hx (by simpa using hv))
theorem VRel.of_list_tup {l:List AV} {vs:List Value} (h:LRel B w φ l vs):VRel B w φ (.tup l) (.tuple vs.toArray):=
 .tup (by simp[h.1]) (fun j x v hx hv=>h.2 j x v hx (by simpa using hv))
theorem VRel.undef:VRel B w φ (.tup []) undef:=.tup rfl (fun j x v h=>by simp at h)
theorem ofS_rel {v:Value} {x:AV} (h:ofS v=some x):VRel B w φ x v:=by
 unfold ofS at h
 split at h<;>simp at h<;>subst h
 case h_3 s=>exact .str s.data.toList
 all_goals constructor
theorem ofL_rel:∀{vs:List Value} {l:List AV},ofL vs=some l->LRel B w φ l vs
 | [],l,h=>by simp[ofL] at h;subst h;exact .nil
 | v::vs,l,h=>by
  unfold ofL at h
  split at h
  ·rename_i a l' ha hl'
   simp at h;subst h
   exact .cons (ofS_rel ha) (ofL_rel hl')
  ·simp at h
theorem ofV_rel {v:Value} {x:AV} (h:ofV v=some x):VRel B w φ x v:=by
 unfold ofV at h
 split at h
 ·rename_i cs
  simp at h
  obtain⟨l,h1,rfl⟩:=h
  have:=VRel.of_list (ofL_rel (B:=B) (w:=w) (φ:=φ) h1)
  simpa using this
 ·rename_i vs
  simp at h
  obtain⟨l,h1,rfl⟩:=h
  have:=VRel.of_list_tup (ofL_rel (B:=B) (w:=w) (φ:=φ) h1)
  simpa using this
 ·exact ofS_rel h
theorem ofV_ne {v:Value} {x:AV} (h:ofV v=some x):x≠.unk:=by
 intro e;subst e
 unfold ofV at h
 split at h
 ·simp at h
 ·simp at h
 ·unfold ofS at h;split at h<;>simp at h
theorem toS_rel {x:AV} {v u:Value} (h:toS x=some v) (hr:VRel B w φ x u):u=v:=by
 cases hr<;>simp[toS] at h<;>exact h
theorem toL_rel:∀{l:List AV} {vs us:List Value},toL l=some vs->LRel B w φ l us->us=vs
 | [],vs,us,h,hr=>by simp[toL] at h;subst h;exact hr.inv_nil
 | x::l,vs,us,h,hr=>by
  unfold toL at h
  split at h
  ·rename_i a l' ha hl'
   simp at h;subst h
   obtain⟨v,vs',rfl,h1,h2⟩:=hr.inv_cons
   rw[toS_rel ha h1,toL_rel hl' h2]
  ·simp at h
theorem toV_rel {x:AV} {v u:Value} (h:toV x=some v) (hr:VRel B w φ x u):u=v:=by
 unfold toV at h
 split at h
 ·rename_i cs
  simp at h
  obtain⟨l,h1,rfl⟩:=h
  cases hr with
  | agg hl hv=>
   rename_i vs
   have:vs.toList=l:=toL_rel h1 ⟨by simpa using hl,fun j x v hx hv'=>hv j x v hx (by simpa using hv')⟩
   rw[<-this]
 ·exact toS_rel h hr
end
theorem pureRun_run {α:Type} {P:Program}:∀(s:Sem α) {a:α},pureRun P s=some a->∀w,s.run P w=.ok a w
 | .pure a,_,h,w=>by simp[pureRun] at h;subst h;rfl
 | .program k,_,h,w=>by simp only[pureRun] at h;simp only[Sem.run];exact pureRun_run (k P) h w
 | .load ..,_,h,_=>by simp[pureRun] at h
 | .store ..,_,h,_=>by simp[pureRun] at h
 | .new ..,_,h,_=>by simp[pureRun] at h
 | .shape ..,_,h,_=>by simp[pureRun] at h
 | .freeze ..,_,h,_=>by simp[pureRun] at h
 | .frozen ..,_,h,_=>by simp[pureRun] at h
 | .getObj ..,_,h,_=>by simp[pureRun] at h
 | .setObj ..,_,h,_=>by simp[pureRun] at h
 | .choose ..,_,h,_=>by simp[pureRun] at h
 | .sys ..,_,h,_=>by simp[pureRun] at h
 | .mark ..,_,h,_=>by simp[pureRun] at h
 | .halt _,_,h,_=>by simp[pureRun] at h
end Go.Proofs.YtnnhofmknilopaaGreatDoor.Gx
namespace Go.Proofs.YtnnhofmknilopaaGreatDoor.Gx
open Go
def live:AB->Bool
 | .frz _ | .dead=>false
 | _=>true
def Own (φ:Phi) (st:St) (cb:Nat):Prop:=∃b ab co,st[b]?=some ab/\live ab=true/\φ b=some (cb,co)
def Bd (F:Nat->Prop) (φ:Phi) (st:St) (cb:Nat):Prop:=F cb\/Own φ st cb
def EntRel (B:Nat->Prop) (w:World) (φ:Phi) (es:List AEnt) (ces:Array MapEntry):Prop:=
 es.length=ces.size/\∀(j:Nat) e c,es[j]?=some e->ces[j]?=some c->VRel B w φ e.key c.key/\VRel B w φ e.val c.val/\e.born=c.born
def ORel (P:Program) (B:Nat->Prop) (w:World) (φ:Phi) (cb co:Nat):AB->Prop
 | .own cs=>∃cells t,w.heap[cb]?=some (.cells cells t (0,0))/\∀(j:Nat) c,cs[j]?=some c->∃v,cells[co+j]?=some v/\VRel B w φ c v
 | .frz cs=>¬B cb/\∃cells t fz,w.heap[cb]?=some (.cells cells t fz)/\∀(j:Nat) c,cs[j]?=some c->∃v,cells[co+j]?=some v/\VRel B w phi0 c v
 | .dead=>True
 | .map es clock=>∃ces,w.heap[cb]?=some (.map ces clock)/\EntRel B w φ es ces
 | .iter m since seen stepped=>co=0/\∃cm,w.heap[cb]?=some (.mapIter cm since seen.toArray stepped)/\(m=none->cm=none)/\(∀b,m=some b->∃x y,cm=some x/\φ b=some (x,y))
 | .siter s pos=>co=0/\w.heap[cb]?=some (.stringIter ⟨s.toArray⟩ pos)
 | .loop L=>∃CL,w.heap[cb]?=some (.loop CL)/\CL.state=L.state/\CL.pending=L.pending/\CL.params.toList=L.params/\CL.assign=L.assign/\CL.body=L.body/\
  LRel B w φ L.tmps CL.tmps.toList/\(∃y,φ L.defers=some (CL.defers,y))/\(P.funcs[CL.fn]?).isSome=true
 | .defd taken=>w.heap[cb]?=some (.deferred (if taken then none else some []))
structure Sess (E:Env) (F:Nat->Prop) (φ:Phi) (st:St) (w:World):Prop where
 blk:∀b ab cb co,st[b]?=some ab->φ b=some (cb,co)->ORel E.P (Bd F φ st) w φ cb co ab
 inj:∀b b' ab ab' cb co co',st[b]?=some ab->live ab=true->st[b']?=some ab'->live ab'=true->φ b=some (cb,co)->φ b'=some (cb,co')->b=b'
 lt:∀b cb co,φ b=some (cb,co)->cb<w.heap.size/\b<st.length
 glob:∀g cs,E.G g=some cs->VRel (Bd F φ st) w phi0 (.iptr cs) (.pointer (some ⟨g,0,none⟩))
 fout:∀cb,F cb->cb<w.heap.size/\¬Own φ st cb
structure Ext0 (φ:Phi) (st:St) (w:World) (φ':Phi) (st':St) (w':World):Prop where
 phi:∀b x,φ b=some x->φ' b=some x
 size:w.heap.size<=w'.heap.size
 keep:∀(cb:Nat),cb<w.heap.size->¬Own φ st cb->w'.heap[cb]?=w.heap[cb]?
 ownd:∀cb,cb<w.heap.size->Own φ' st' cb->Own φ st cb
 shape:∀(cb:Nat) (cells:Array Value) (t:TypeId) (fz:Nat × Nat),w.heap[cb]?=some (.cells cells t fz)->∃cells':Array Value,w'.heap[cb]?=some (.cells cells' t fz)/\cells'.size=cells.size
 len:st.length<=st'.length
 aux:w'.tape=w.tape/\w'.os=w.os/\w'.output=w.output
structure Ext (φ:Phi) (st:St) (w:World) (φ':Phi) (st':St) (w':World):Prop extends Ext0 φ st w φ' st' w' where
 old:∀b,b<st.length->φ' b=φ b
theorem Ext0.refl (φ:Phi) (st:St) (w:World):Ext0 φ st w φ st w:=
 ⟨fun _ _ h=>h,Nat.le_refl _,fun _ _ _=>rfl,fun _ _ h=>h,fun _ cells _ _ h=>⟨cells,h,rfl⟩,Nat.le_refl _,rfl,rfl,rfl⟩
theorem Ext.refl (φ:Phi) (st:St) (w:World):Ext φ st w φ st w:=⟨Ext0.refl φ st w,fun _ _=>rfl⟩
theorem Ext0.trans {φ φ' φ'':Phi} {st st' st'':St} {w w' w'':World} (h:Ext0 φ st w φ' st' w') (h':Ext0 φ' st' w' φ'' st'' w''):Ext0 φ st w φ'' st'' w'' where
 phi b x hb:=h'.phi b x (h.phi b x hb)
 size:=Nat.le_trans h.size h'.size
 keep cb hlt ho:=by rw[h'.keep cb (Nat.lt_of_lt_of_le hlt h.size) (fun o=>ho (h.ownd cb hlt o)),h.keep cb hlt ho]
 ownd cb hlt o:=h.ownd cb hlt (h'.ownd cb (Nat.lt_of_lt_of_le hlt h.size) o)
 shape cb cells t fz hc:=by
  obtain⟨c1,h1,e1⟩:=h.shape cb cells t fz hc
  obtain⟨c2,h2,e2⟩:=h'.shape cb c1 t fz h1
  exact⟨c2,h2,e2.trans e1⟩
 len:=Nat.le_trans h.len h'.len
 aux:=⟨h'.aux.1.trans h.aux.1,h'.aux.2.1.trans h.aux.2.1,h'.aux.2.2.trans h.aux.2.2⟩
theorem Ext.trans {φ φ' φ'':Phi} {st st' st'':St} {w w' w'':World} (h:Ext φ st w φ' st' w') (h':Ext φ' st' w' φ'' st'' w''):Ext φ st w φ'' st'' w'':=
 ⟨h.toExt0.trans h'.toExt0,fun b hb=>by rw[h'.old b (Nat.lt_of_lt_of_le hb h.len),h.old b hb]⟩
theorem cell?_of_heap {w w':World} {cb:Nat} (h:w'.heap[cb]?=w.heap[cb]?) (o:Nat):w'.cell? ⟨cb,o,none⟩=w.cell? ⟨cb,o,none⟩:=by
 simp only[World.cell?,h]
theorem lt_of_cell? {w:World} {cb o:Nat} {v:Value} (h:w.cell? ⟨cb,o,none⟩=some v):cb<w.heap.size:=by
 simp only[World.cell?] at h
 rcases Nat.lt_or_ge cb w.heap.size with hl | hl
 ·exact hl
 ·simp[Array.getElem?_eq_none hl] at h
structure Goes (B:Nat->Prop) (w:World) (B':Nat->Prop) (w':World):Prop where
 keep:∀(cb:Nat),cb<w.heap.size->¬B cb->¬B' cb/\w'.heap[cb]?=w.heap[cb]?
 size:w.heap.size<=w'.heap.size
 shape:∀(cb:Nat) (cells:Array Value) (t:TypeId) (fz:Nat × Nat),w.heap[cb]?=some (.cells cells t fz)->∃cells':Array Value,w'.heap[cb]?=some (.cells cells' t fz)/\cells'.size=cells.size
theorem VRel.mono {B B':Nat->Prop} {w w':World} (g:Goes B w B' w') {φ:Phi} {v:AV} {u:Value} (h:VRel B w φ v u):
  ∀{φ':Phi},(∀b x,φ b=some x->φ' b=some x)->VRel B' w' φ' v u:=by
 induction h with
 | bool b=>intro φ' _;exact .bool b
 | int k n=>intro φ' _;exact .int k n
 | str l=>intro φ' _;exact .str l
 | nilptr=>intro φ' _;exact .nilptr
 | ptr h=>intro φ' hp;exact .ptr (hp _ _ h)
 | iptr vs hb hl hc hv ih=>
  intro φ' _
  obtain⟨h1,h2⟩:=g.keep _ hl hb
  exact .iptr vs h1 (Nat.lt_of_lt_of_le hl g.size) (fun j c hj=>by rw[cell?_of_heap h2];exact hc j c hj) (fun j c hj=>ih j c hj (fun _ _ h=>h))
 | nilsl=>intro φ' _;exact .nilsl
 | sl h ho hl hx hg=>
  intro φ' hp
  refine .sl (hp _ _ h) ho hl hx (fun sz e=>(hg sz e).imp id fun⟨cells,t,fz,h1,h2⟩=>?_)
  obtain⟨c',h3,h4⟩:=g.shape _ _ _ _ h1
  exact⟨c',t,fz,h3,by omega⟩
 | isl vs hx hl hb hc hv ih=>
  rename_i cs cap a ccap
  intro φ' _
  refine .isl vs hx hl (fun hne=>?_) (fun j c hj=>?_) (fun j c hj=>ih j c hj (fun _ _ h=>h))
  ·cases cs with
   | nil=>exact absurd rfl hne
   | cons c cs=>exact⟨(g.keep _ (lt_of_cell? (hc 0 c rfl)) (hb hne).1).1,(hb hne).2⟩
  ·have hne:cs≠[]:=fun e=>by subst e;simp at hj
   rw[cell?_of_heap (g.keep _ (lt_of_cell? (hc j c hj)) (hb hne).1).2]
   exact hc j c hj
 | nilmap=>intro φ' _;exact .nilmap
 | map h=>intro φ' hp;exact .map (hp _ _ h)
 | func ha hc hav hcv iha ihc=>intro φ' hp;exact .func ha hc (fun j x v hx hv=>iha j x v hx hv hp) (fun j x v hx hv=>ihc j x v hx hv hp)
 | yld h=>intro φ' hp;exact .yld (hp _ _ h)
 | nilfn=>intro φ' _;exact .nilfn
 | iface h ih=>intro φ' hp;exact .iface (ih hp)
 | nilif=>intro φ' _;exact .nilif
 | agg hl hv ih=>intro φ' hp;exact .agg hl (fun j x v hx hv=>ih j x v hx hv hp)
 | tup hl hv ih=>intro φ' hp;exact .tup hl (fun j x v hx hv=>ih j x v hx hv hp)
 | unk u=>intro φ' _;exact .unk u
 | oint h1 h2=>intro φ' _;exact .oint h1 h2
 | ostr h=>intro φ' _;exact .ostr h
theorem LRel.mono {B B':Nat->Prop} {w w':World} (g:Goes B w B' w') {φ φ':Phi} (hp:∀b x,φ b=some x->φ' b=some x) {l:List AV} {vs:List Value}
 (h:LRel B w φ l vs):LRel B' w' φ' l vs:=⟨h.1,fun j x v hx hv=>(h.2 j x v hx hv).mono g hp⟩
theorem Ext0.goes {F:Nat->Prop} {φ φ':Phi} {st st':St} {w w':World} (h:Ext0 φ st w φ' st' w'):Goes (Bd F φ st) w (Bd F φ' st') w' where
 keep cb hlt hb:=⟨fun hb'=>hb'.elim (fun hf=>hb (.inl hf)) (fun o=>hb (.inr (h.ownd cb hlt o))),h.keep cb hlt (fun o=>hb (.inr o))⟩
 size:=h.size
 shape:=h.shape
theorem Ext0.val {F:Nat->Prop} {φ φ':Phi} {st st':St} {w w':World} (h:Ext0 φ st w φ' st' w') {v:AV} {u:Value} (hv:VRel (Bd F φ st) w φ v u):
 VRel (Bd F φ' st') w' φ' v u:=hv.mono h.goes h.phi
theorem Ext0.list {F:Nat->Prop} {φ φ':Phi} {st st':St} {w w':World} (h:Ext0 φ st w φ' st' w') {l:List AV} {vs:List Value} (hv:LRel (Bd F φ st) w φ l vs):
 LRel (Bd F φ' st') w' φ' l vs:=hv.mono h.goes h.phi
theorem ORel.other {P:Program} {B B':Nat->Prop} {w w':World} (g:Goes B w B' w') {φ φ':Phi} (hp:∀b x,φ b=some x->φ' b=some x) {cb co:Nat} {ab:AB}
  (hh:w'.heap[cb]?=w.heap[cb]?) (hB:live ab=false->cb<w.heap.size) (h:ORel P B w φ cb co ab):ORel P B' w' φ' cb co ab:=by
 cases ab with
 | own cs=>
  obtain⟨cells,t,h1,h2⟩:=h
  exact⟨cells,t,hh ▸ h1,fun j c hj=>let ⟨v,e,r⟩:=h2 j c hj;⟨v,e,r.mono g hp⟩⟩
 | frz cs=>
  obtain⟨hb,cells,t,fz,h1,h2⟩:=h
  exact⟨(g.keep cb (hB rfl) hb).1,cells,t,fz,hh ▸ h1,fun j c hj=>let ⟨v,e,r⟩:=h2 j c hj;⟨v,e,r.mono g (fun _ _ h=>h)⟩⟩
 | dead=>trivial
 | map es clock=>
  obtain⟨ces,h1,h2,h3⟩:=h
  exact⟨ces,hh ▸ h1,h2,fun j e c he hc=>let ⟨a,b,d⟩:=h3 j e c he hc;⟨a.mono g hp,b.mono g hp,d⟩⟩
 | iter m since seen stepped=>
  obtain⟨h0,cm,h1,h2,h3⟩:=h
  exact⟨h0,cm,hh ▸ h1,h2,fun b hb=>let ⟨x,y,e,r⟩:=h3 b hb;⟨x,y,e,hp _ _ r⟩⟩
 | siter s pos=>exact⟨h.1,hh ▸ h.2⟩
 | loop L=>
  obtain⟨CL,h1,h2,h3,h4,h5,h6,h7,⟨y,h8⟩,h9⟩:=h
  exact⟨CL,hh ▸ h1,h2,h3,h4,h5,h6,h7.mono g hp,⟨y,hp _ _ h8⟩,h9⟩
 | defd taken=>exact hh.trans h
def pushed (w:World) (o:Obj):World:={ w with heap:=w.heap.push o }
theorem pushed_old (w:World) (o:Obj) {cb:Nat} (h:cb<w.heap.size):(pushed w o).heap[cb]?=w.heap[cb]?:=by
 simp[pushed,Array.getElem?_push,Nat.ne_of_lt h]
theorem pushed_new (w:World) (o:Obj):(pushed w o).heap[w.heap.size]?=some o:=by simp[pushed]
theorem heap_lt {w:World} {cb:Nat} {o:Obj} (h:w.heap[cb]?=some o):cb<w.heap.size:=by
 rcases Nat.lt_or_ge cb w.heap.size with hl | hl
 ·exact hl
 ·simp[Array.getElem?_eq_none hl] at h
def setAt (w:World) (cb:Nat) (o:Obj):World:={ w with heap:=w.heap.setIfInBounds cb o }
theorem setAt_same {w:World} {cb:Nat} {o o':Obj} (h:w.heap[cb]?=some o):(setAt w cb o').heap[cb]?=some o':=by
 simp[setAt,heap_lt h]
theorem setAt_other (w:World) {cb x:Nat} (o:Obj) (h:cb≠x):(setAt w cb o).heap[x]?=w.heap[x]?:=by
 simp[setAt,h]
def phiSet (φ:Phi) (b cb co:Nat):Phi:=fun x=>if x=b then some (cb,co) else φ x
theorem phiSet_le {φ:Phi} {b cb co:Nat} (h:φ b=none):∀x y,φ x=some y->phiSet φ b cb co x=some y:=by
 intro x y hx
 unfold phiSet
 split
 ·rename_i e;subst e;rw[h] at hx;cases hx
 ·exact hx
section
variable {E:Env} {F:Nat->Prop} {φ:Phi} {st:St} {w:World}
theorem Sess.fresh (h:Sess E F φ st w) {b:Nat} (hb:st.length<=b):φ b=none:=by
 cases e:φ b with
 | none=>rfl
 | some x=>have:=(h.lt b x.1 x.2 e).2;omega
theorem get_append {st:St} {ab x:AB} {b:Nat} (h:(st++[ab])[b]?=some x):(b<st.length/\st[b]?=some x)\/(b=st.length/\x=ab):=by
 rcases Nat.lt_trichotomy b st.length with hl | hl | hl
 ·exact .inl ⟨hl,by rwa [List.getElem?_append_left hl] at h⟩
 ·subst hl;simp at h;exact .inr ⟨rfl,h.symm⟩
 ·rw[List.getElem?_eq_none (by simp;omega)] at h;cases h
theorem lt_of_get {α:Type} {l:List α} {i:Nat} {x:α} (h:l[i]?=some x):i<l.length:=by
 rcases Nat.lt_or_ge i l.length with hl | hl
 ·exact hl
 ·simp[List.getElem?_eq_none hl] at h
theorem own_ghost (hf:φ st.length=none) (ab:AB) (cb:Nat):Own φ (st++[ab]) cb↔Own φ st cb:=by
 constructor
 ·rintro⟨b,x,co,h1,h2,h3⟩
  rcases get_append h1 with⟨_,h⟩ | ⟨rfl,_⟩
  ·exact⟨b,x,co,h,h2,h3⟩
  ·rw[hf] at h3;cases h3
 ·rintro⟨b,x,co,h1,h2,h3⟩
  exact⟨b,x,co,by rw[List.getElem?_append_left (lt_of_get h1)];exact h1,h2,h3⟩
theorem Sess.ghost (h:Sess E F φ st w) (ab:AB):Sess E F φ (st++[ab]) w/\Ext φ st w φ (st++[ab]) w:=by
 have hf:=h.fresh (Nat.le_refl st.length)
 have ho:=own_ghost hf ab
 have hB:Bd F φ (st++[ab])=Bd F φ st:=funext fun cb=>by simp only[Bd,ho]
 refine⟨⟨?_,?_,?_,?_,?_⟩,⟨⟨fun _ _ h=>h,Nat.le_refl _,fun _ _ _=>rfl,fun cb _ o=>(ho cb).1 o,fun _ c _ _ h=>⟨c,h,rfl⟩,by simp,rfl,rfl,rfl⟩,fun _ _=>rfl⟩⟩
 ·intro b x cb co h1 h2
  rw[hB]
  rcases get_append h1 with⟨_,h3⟩ | ⟨rfl,_⟩
  ·exact h.blk b x cb co h3 h2
  ·rw[hf] at h2;cases h2
 ·intro b b' x x' cb co co' h1 h2 h3 h4 h5 h6
  rcases get_append h1 with⟨_,h1⟩ | ⟨rfl,_⟩
  ·rcases get_append h3 with⟨_,h3⟩ | ⟨rfl,_⟩
   ·exact h.inj b b' x x' cb co co' h1 h2 h3 h4 h5 h6
   ·rw[hf] at h6;cases h6
  ·rw[hf] at h5;cases h5
 ·intro b cb co hb
  have:=h.lt b cb co hb
  exact⟨this.1,by simp;omega⟩
 ·rw[hB];exact h.glob
 ·intro cb hf;exact⟨(h.fout cb hf).1,fun o=>(h.fout cb hf).2 ((ho cb).1 o)⟩
theorem Sess.realize0 (h:Sess E F φ st w) {b:Nat} {ab:AB} (hb:st[b]?=some ab) (hf:φ b=none) (o:Obj)
  (bM:Goes (Bd F φ st) w (Bd F (phiSet φ b w.heap.size 0) st) (pushed w o)->ORel E.P (Bd F (phiSet φ b w.heap.size 0) st) (pushed w o) (phiSet φ b w.heap.size 0) w.heap.size 0 ab):
  Sess E F (phiSet φ b w.heap.size 0) st (pushed w o)/\Ext0 φ st w (phiSet φ b w.heap.size 0) st (pushed w o):=by
 have hle:=phiSet_le (cb:=w.heap.size) (co:=0) hf
 have az:∀cb,Own (phiSet φ b w.heap.size 0) st cb->cb<w.heap.size->Own φ st cb:=by
  rintro cb ⟨x,ax,co,h1,h2,h3⟩ hlt
  unfold phiSet at h3
  split at h3
  ·simp at h3;omega
  ·exact⟨x,ax,co,h1,h2,h3⟩
 have aV:Ext0 φ st w (phiSet φ b w.heap.size 0) st (pushed w o):=
  ⟨hle,by simp[pushed],fun cb hlt _=>pushed_old w o hlt,fun cb hlt ho=>az cb ho hlt,
   fun cb c t fz hc=>⟨c,by rw[pushed_old w o (heap_lt hc)];exact hc,rfl⟩,Nat.le_refl _,rfl,rfl,rfl⟩
 have g:=aV.goes (F:=F)
 refine⟨⟨?_,?_,?_,?_,?_⟩,aV⟩
 ·intro x ax cb co h1 h2
  by_cases hx:x=b
  ·subst hx
   rw[hb] at h1;cases h1
   have:cb=w.heap.size/\co=0:=by simp[phiSet] at h2;omega
   obtain⟨rfl,rfl⟩:=this
   exact bM g
  ·have h3:φ x=some (cb,co):=by simpa [phiSet,hx] using h2
   have hlt:=(h.lt x cb co h3).1
   exact(h.blk x ax cb co h1 h3).other g hle (pushed_old w o hlt) (fun _=>hlt)
 ·intro x x' ax ax' cb co co' h1 h2 h3 h4 h5 h6
  by_cases hx:x=b
  ·by_cases hx':x'=b
   ·rw[hx,hx']
   ·subst hx
    have e1:cb=w.heap.size:=by simp[phiSet] at h5;omega
    have e2:φ x'=some (cb,co'):=by simpa [phiSet,hx'] using h6
    have:=(h.lt x' cb co' e2).1
    omega
  ·have e1:φ x=some (cb,co):=by simpa [phiSet,hx] using h5
   by_cases hx':x'=b
   ·subst hx'
    have e2:cb=w.heap.size:=by simp[phiSet] at h6;omega
    have:=(h.lt x cb co e1).1
    omega
   ·exact h.inj x x' ax ax' cb co co' h1 h2 h3 h4 e1 (by simpa [phiSet,hx'] using h6)
 ·intro x cb co hx
  by_cases e:x=b
  ·subst e
   have e1:cb=w.heap.size:=by simp[phiSet] at hx;omega
   exact⟨by simp[pushed,e1],lt_of_get hb⟩
  ·have:=h.lt x cb co (by simpa [phiSet,e] using hx)
   exact⟨by simp[pushed];omega,this.2⟩
 ·intro gl cs hg;exact(h.glob gl cs hg).mono g (fun _ _ h=>h)
 ·intro cb hf;exact⟨by have:=(h.fout cb hf).1;simp[pushed];omega,fun ho=>(h.fout cb hf).2 (az cb ho (h.fout cb hf).1)⟩
theorem Sess.realize (h:Sess E F φ st w) {b:Nat} {ab:AB} (hb:st[b]?=some ab) (_hl:live ab=true) (hf:φ b=none) (o:Obj)
 (bM:∀B',Goes (Bd F φ st) w B' (pushed w o)->ORel E.P B' (pushed w o) (phiSet φ b w.heap.size 0) w.heap.size 0 ab):
 Sess E F (phiSet φ b w.heap.size 0) st (pushed w o)/\Ext0 φ st w (phiSet φ b w.heap.size 0) st (pushed w o):=h.realize0 hb hf o (bM _)
theorem Sess.realizeF (h:Sess E F φ st w) {b:Nat} {cs:List AV} (hb:st[b]?=some (.frz cs)) (hf:φ b=none) (cells:Array Value) (t:TypeId) (fz:Nat × Nat)
  (bM:∀(j:Nat) c,cs[j]?=some c->∃v,cells[j]?=some v/\VRel (Bd F φ st) w phi0 c v):
  Sess E F (phiSet φ b w.heap.size 0) st (pushed w (.cells cells t fz))/\Ext0 φ st w (phiSet φ b w.heap.size 0) st (pushed w (.cells cells t fz)):=by
 refine h.realize0 hb hf _ fun g=>⟨?_,cells,t,fz,pushed_new w _,fun j c hj=>?_⟩
 ·rintro(hF | ⟨x,ax,co,h1,h2,h3⟩)
  ·have:=(h.fout _ hF).1;omega
  ·by_cases e:x=b
   ·subst e;rw[hb] at h1;cases h1;cases h2
   ·have:=(h.lt x w.heap.size co (by simpa [phiSet,e] using h3)).1;omega
 ·obtain⟨v,h1,h2⟩:=bM j c hj
  exact⟨v,by simpa using h1,h2.mono g (fun _ _ h=>h)⟩
theorem ghost_real {φ':Phi} {ab:AB} {w':World} {cb co:Nat} (h1:Ext φ st w φ (st++[ab]) w) (h2:Ext0 φ (st++[ab]) w (phiSet φ st.length cb co) (st++[ab]) w') (hφ:φ'=phiSet φ st.length cb co):
  Ext φ st w φ' (st++[ab]) w':=by
 subst hφ
 exact⟨h1.toExt0.trans h2,fun b hb=>by simp[phiSet,Nat.ne_of_lt hb]⟩
theorem Sess.change (h:Sess E F φ st w) {b:Nat} {ab ab':AB} (hb:st[b]?=some ab) (hl:live ab=true) (hl':live ab'=true) {cb co:Nat} (hp:φ b=some (cb,co))
  {o':Obj} (hsh:∀(cells:Array Value) (t:TypeId) (fz:Nat × Nat),w.heap[cb]?=some (.cells cells t fz)->∃cells':Array Value,o'=.cells cells' t fz/\cells'.size=cells.size)
  (bM:ORel E.P (Bd F φ st) (setAt w cb o') φ cb co ab'):
  Sess E F φ (st.set b ab') (setAt w cb o')/\Ext φ st w φ (st.set b ab') (setAt w cb o'):=by
 have hlt:=(h.lt b cb co hp).1
 have hcb:∃o,w.heap[cb]?=some o:=⟨w.heap[cb],Array.getElem?_eq_getElem hlt⟩
 obtain⟨o,ho⟩:=hcb
 have aW:∀(x:Nat) ax,(st.set b ab')[x]?=some ax->(x=b/\ax=ab')\/(x≠b/\st[x]?=some ax):=by
  intro x ax hx
  rw[List.getElem?_set] at hx
  by_cases e:b=x
  ·subst e;simp[lt_of_get hb] at hx;exact .inl ⟨rfl,hx.symm⟩
  ·simp[e] at hx;exact .inr ⟨fun e'=>e e'.symm,hx⟩
 have az:∀c,Own φ (st.set b ab') c↔Own φ st c:=by
  intro c
  constructor
  ·rintro⟨x,ax,co',h1,h2,h3⟩
   rcases aW x ax h1 with⟨rfl,rfl⟩ | ⟨_,h1⟩
   ·exact⟨x,ab,co',hb,hl,h3⟩
   ·exact⟨x,ax,co',h1,h2,h3⟩
  ·rintro⟨x,ax,co',h1,h2,h3⟩
   by_cases e:x=b
   ·subst e;exact⟨x,ab',co',by simp[lt_of_get hb],hl',h3⟩
   ·exact⟨x,ax,co',by rw[List.getElem?_set_ne (fun e'=>e e'.symm)];exact h1,h2,h3⟩
 have hB:Bd F φ (st.set b ab')=Bd F φ st:=funext fun c=>by simp only[Bd,az]
 have fg:Own φ st cb:=⟨b,ab,co,hb,hl,hp⟩
 have aV:Ext φ st w φ (st.set b ab') (setAt w cb o'):=by
  refine⟨⟨fun _ _ h=>h,by simp[setAt],fun c _ hn=>setAt_other w o' (fun e=>hn (e ▸ fg)),fun c _ ho=>(az c).1 ho,fun c cells t fz hc=>?_,by simp,rfl,rfl,rfl⟩,fun _ _=>rfl⟩
  by_cases e:cb=c
  ·subst e
   obtain⟨c',e1,e2⟩:=hsh cells t fz hc
   exact⟨c',by rw[setAt_same hc,e1],e2⟩
  ·exact⟨cells,by rw[setAt_other w o' e];exact hc,rfl⟩
 have g:Goes (Bd F φ st) w (Bd F φ st) (setAt w cb o'):=by have:=aV.goes (F:=F);rwa [hB] at this
 refine⟨⟨?_,?_,?_,?_,?_⟩,aV⟩
 ·intro x ax c co' h1 h2
  rw[hB]
  rcases aW x ax h1 with⟨rfl,rfl⟩ | ⟨hne,h1⟩
  ·rw[hp] at h2;cases h2;exact bM
  ·by_cases e:cb=c
   ·subst e
    cases hlx:live ax with
    | true=>exact absurd (h.inj x b ax ab cb co' co h1 hlx hb hl h2 hp) hne
    | false=>
     cases ax with
     | dead=>trivial
     | frz cs=>exact absurd (.inr fg) (h.blk x _ cb co' h1 h2).1
     | _=>cases hlx
   ·exact(h.blk x ax c co' h1 h2).other g (fun _ _ h=>h) (setAt_other w o' e) (fun _=>(h.lt x c co' h2).1)
 ·intro x x' ax ax' c c1 c2 h1 h2 h3 h4 h5 h6
  rcases aW x ax h1 with⟨rfl,rfl⟩ | ⟨_,jb⟩
  ·rcases aW x' ax' h3 with⟨rfl,rfl⟩ | ⟨_,h3⟩
   ·rfl
   ·exact h.inj x x' ab ax' c c1 c2 hb hl h3 h4 h5 h6
  ·have h1':=jb
   rcases aW x' ax' h3 with⟨rfl,rfl⟩ | ⟨_,h3⟩
   ·exact h.inj x x' ax ab c c1 c2 h1' h2 hb hl h5 h6
   ·exact h.inj x x' ax ax' c c1 c2 h1' h2 h3 h4 h5 h6
 ·intro x c co' hx
  have:=h.lt x c co' hx
  simpa [setAt] using this
 ·rw[hB];intro gl cs hg;exact(h.glob gl cs hg).mono g (fun _ _ h=>h)
 ·intro c hf;have:=h.fout c hf;exact⟨by simpa [setAt] using this.1,fun o=>this.2 ((az c).1 o)⟩
theorem Sess.retire (h:Sess E F φ st w) {b:Nat} {ab ab':AB} (hb:st[b]?=some ab) (_hl:live ab=true) (hl':live ab'=false)
  (bM:∀cb co,φ b=some (cb,co)->ORel E.P (Bd F φ (st.set b ab')) w φ cb co ab'):
  Sess E F φ (st.set b ab') w/\Ext φ st w φ (st.set b ab') w:=by
 have aW:∀(x:Nat) ax,(st.set b ab')[x]?=some ax->(x=b/\ax=ab')\/(x≠b/\st[x]?=some ax):=by
  intro x ax hx
  rw[List.getElem?_set] at hx
  by_cases e:b=x
  ·subst e;simp[lt_of_get hb] at hx;exact .inl ⟨rfl,hx.symm⟩
  ·simp[e] at hx;exact .inr ⟨fun e'=>e e'.symm,hx⟩
 have az:∀c,Own φ (st.set b ab') c->Own φ st c:=by
  rintro c ⟨x,ax,co',h1,h2,h3⟩
  rcases aW x ax h1 with⟨rfl,rfl⟩ | ⟨_,h1⟩
  ·rw[hl'] at h2;cases h2
  ·exact⟨x,ax,co',h1,h2,h3⟩
 have aV:Ext φ st w φ (st.set b ab') w:=
  ⟨⟨fun _ _ h=>h,Nat.le_refl _,fun _ _ _=>rfl,fun c _ o=>az c o,fun _ c _ _ h=>⟨c,h,rfl⟩,by simp,rfl,rfl,rfl⟩,fun _ _=>rfl⟩
 have g:=aV.goes (F:=F)
 refine⟨⟨?_,?_,?_,?_,?_⟩,aV⟩
 ·intro x ax c co' h1 h2
  rcases aW x ax h1 with⟨rfl,rfl⟩ | ⟨_,h1⟩
  ·exact bM c co' h2
  ·exact(h.blk x ax c co' h1 h2).other g (fun _ _ h=>h) rfl (fun _=>(h.lt x c co' h2).1)
 ·intro x x' ax ax' c c1 c2 h1 h2 h3 h4 h5 h6
  rcases aW x ax h1 with⟨rfl,rfl⟩ | ⟨_,h1⟩
  ·rw[hl'] at h2;cases h2
  ·rcases aW x' ax' h3 with⟨rfl,rfl⟩ | ⟨_,h3⟩
   ·rw[hl'] at h4;cases h4
   ·exact h.inj x x' ax ax' c c1 c2 h1 h2 h3 h4 h5 h6
 ·intro x c co' hx;have:=h.lt x c co' hx;simpa using this
 ·intro gl cs hg;exact(h.glob gl cs hg).mono g (fun _ _ h=>h)
 ·intro c hf;exact⟨(h.fout c hf).1,fun o=>(h.fout c hf).2 (az c o)⟩
theorem Sess.same_heap {w':World} (h:Sess E F φ st w) (hh:w'.heap=w.heap) (ha:w'.tape=w.tape/\w'.os=w.os/\w'.output=w.output):
  Sess E F φ st w'/\Ext φ st w φ st w':=by
 have aV:Ext φ st w φ st w':=⟨⟨fun _ _ h=>h,by rw[hh];exact Nat.le_refl _,fun _ _ _=>by rw[hh],fun _ _ o=>o,fun cb c t fz hc=>⟨c,by rw[hh];exact hc,rfl⟩,Nat.le_refl _,ha.1,ha.2.1,ha.2.2⟩,fun _ _=>rfl⟩
 have g:=aV.goes (F:=F)
 exact⟨⟨fun b ab cb co h1 h2=>(h.blk b ab cb co h1 h2).other g (fun _ _ h=>h) (by rw[hh]) (fun _=>(h.lt b cb co h2).1),h.inj,
  fun b cb co hb=>by rw[hh];exact h.lt b cb co hb,fun gl cs hg=>(h.glob gl cs hg).mono g (fun _ _ h=>h),fun cb hf=>by rw[hh];exact h.fout cb hf⟩,aV⟩
end
end Go.Proofs.YtnnhofmknilopaaGreatDoor.Gx
