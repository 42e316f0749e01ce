import GoSem.Step
import Derived.Defers
namespace Go.Proofs.YthcfmhgihcjloaaGreatDoor.Gx
open Go
abbrev tC:=@Option.map_eq_some_iff
abbrev tD:=@List.getElem?_eq_getElem
abbrev tE:=@Nat.le_refl
abbrev tF:=@List.getElem?_eq_none
abbrev tG:=@Prod.mk.injEq
abbrev tH:=@Nat.lt_or_ge
abbrev tI:=@List.getElem?_append_left
abbrev tJ:=@Bool.and_eq_true
abbrev tK:=@Array.getElem?_eq_getElem
abbrev tL:=@Option.bind_eq_some_iff
abbrev tM:=@Bool.false_eq_true
abbrev tN:=@Option.some.injEq
abbrev tO:=@Nat.lt_of_lt_of_le
abbrev tP:=@Nat.add_assoc
abbrev tQ:=@List.getElem?_set
abbrev tR:=@Bool.eq_iff_iff
abbrev tS:=@List.mem_append
abbrev tT:=@Array.getElem?_eq_none
abbrev tU:=@List.eq_nil_of_length_eq_zero
abbrev tV:=@List.all_eq_true
abbrev tW:=@List.mem_cons
abbrev tX:=@List.mem_of_getElem?
abbrev tY:=@List.getElem?_cons_succ
abbrev tZ:=@List.length_set
abbrev vf:=@Array.eq_empty_of_size_eq_zero
abbrev vh:=@Bool.not_eq_true'
abbrev vj:=@Nat.eq_of_beq_eq_true
abbrev vk:=@List.getElem?_set_ne
abbrev vm:=@Nat.mul_le_mul_right
abbrev vq:=@Array.toList_setIfInBounds
abbrev vr:=@Array.toList_append
abbrev vw:=@Array.ext'
abbrev vA:=@List.take_length
abbrev vB:=@Array.all_eq_true_iff_forall_mem
abbrev vC:=@Array.getElem?_setIfInBounds_ne
abbrev vD:=@Nat.le_trans
abbrev vE:=@Array.getElem?_push
abbrev vF:=@Nat.add_mul
abbrev vG:=@List.getElem?_take
abbrev vH:=@List.getElem?_append_right
abbrev vI:=@decide_eq_true_eq
abbrev vJ:=@List.extract_eq_take_drop
abbrev vK:=@Array.mapM_eq_mapM_toList
abbrev vL:=@Nat.add_zero
abbrev vM:=@List.length_cons
abbrev vN:=@Option.getD_some
abbrev vO:=@List.getElem?_cons_zero
abbrev vP:=@Option.map_some
abbrev vQ:=@List.mapM_cons
abbrev vR:=@List.getElem?_toArray
abbrev vS:=@Nat.ble_eq_true_of_le
abbrev vT:=@Nat.blt_eq
abbrev vU:=@Array.mem_toList_iff
abbrev vV:=@List.mem_cons_of_mem
abbrev vW:=@Nat.ne_of_lt
inductive Cap where
 | ex (c:Nat)
 | gr (sz:Nat)
inductive AV where
 | bool (b:Bool)
 | int (k:IntKind) (n:Int)
 | str (s:List UInt8)
 | nilptr
 | ptr (b off:Nat)
 | iptr (cs:List AV)
 | nilsl
 | sl (b off len:Nat) (cap:Cap)
 | isl (len:Nat) (cs:List AV) (cap:Option Nat)
 | nilmap
 | map (b:Nat)
 | func (f:FuncId) (first captured:List AV)
 | yld (l:Nat)
 | nilfn
 | iface (t:TypeId) (v:AV)
 | nilif
 | agg (cs:List AV)
 | tup (vs:List AV)
 | unk
 | oint (k:IntKind) (lo hi:Int)
 | ostr (ne:List (List UInt8))
instance:Inhabited AV:=⟨.tup []⟩
structure AEnt where
 key:AV
 val:AV
 born:Nat
structure ALoop where
 state:LoopState
 pending:Option Code
 tmps:List AV
 params:List Tmp
 assign:Code
 body:Code
 defers:Nat
inductive AB where
 | own (cs:List AV)
 | frz (cs:List AV)
 | dead
 | map (es:List AEnt) (clock:Nat)
 | iter (m:Option Nat) (since:Nat) (seen:List Nat) (stepped:Nat)
 | loop (l:ALoop)
 | defd (taken:Bool)
abbrev St:=List AB
inductive ADef where
 | call (fv:AV) (args:List AV)
 | coll (b:Nat)
structure APan where
 v:AV
 recovered:Bool
inductive AMode where
 | returning
 | panicking (chain:List APan)
structure Fr where
 tm:List AV
 df:List ADef
 rc:Option AMode
 ro:Option Nat
inductive Ex where
 | normal
 | exit (id:Nat)
 | ret
 | pan (chain:List APan)
inductive Out where
 | ret (v:AV)
 | pan (chain:List APan)
inductive EO where
 | val (v:AV) (st:St)
 | pan (chain:List APan) (st:St)
 | recov
 | dfr (d:ADef)
inductive OpOut where
 | ok (fr:Fr) (st:St)
 | pan (chain:List APan) (fr:Fr) (st:St)
def fD:List AV->Nat->AV
 | [],_=>.tup []
 | x::_,0=>x
 | _::l,n+1=>fD l n
def fm {α:Type}:List α->Nat->α->List α
 | [],_,_=>[]
 | _::l,0,v=>v::l
 | x::l,n+1,v=>x::fm l n v
def get? {α:Type}:List α->Nat->Option α
 | [],_=>none
 | x::_,0=>some x
 | _::l,n+1=>get? l n
def dL:List AV->Nat->List AV->Option (List AV)
 | cs,_,[]=>some cs
 | [],_,_::_=>none
 | _::cs,0,v::vs=>(dL cs 0 vs).map (v::·)
 | c::cs,n+1,vs=>(dL cs n vs).map (c::·)
def iF:List AV->Nat->Option (List AV)
 | _,0=>some []
 | [],_+1=>none
 | c::cs,n+1=>(iF cs n).map (c::·)
def eh:List AV->Nat->List AV
 | cs,0=>cs
 | [],_+1=>[]
 | _::cs,n+1=>eh cs n
def ea:AV->Bool
 | .agg _ | .tup _ | .unk=>false
 | _=>true
def cellsOf:AV->List AV
 | .agg cs=>cs
 | v=>[v]
def ER:Value->Option AV
 | .bool b=>some<|.bool b
 | .int k n=>some<|.int k n
 | .string s=>some<|.str s.data.toList
 | .pointer none=>some .nilptr
 | .slice none 0 0=>some .nilsl
 | .map none=>some .nilmap
 | .nilFunc=>some .nilfn
 | .nilIface=>some .nilif
 | _=>none
def DN:List Value->Option (List AV)
 | []=>some []
 | v::vs=>match ER v,DN vs with
  | some a,some l=>some (a::l)
  | _,_=>none
def wn:Value->Option AV
 | .agg cs=>(DN cs.toList).map .agg
 | .tuple vs=>(DN vs.toList).map .tup
 | v=>ER v
def F9:AV->Option Value
 | .bool b=>some<|.bool b
 | .int k n=>some<|.int k n
 | .str s=>some<|.string ⟨s.toArray⟩
 | .nilptr=>some<|.pointer none
 | .nilsl=>some<|.slice none 0 0
 | .nilmap=>some<|.map none
 | .nilfn=>some .nilFunc
 | .nilif=>some .nilIface
 | _=>none
def DO:List AV->Option (List Value)
 | []=>some []
 | v::vs=>match F9 v,DO vs with
  | some a,some l=>some (a::l)
  | _,_=>none
def ES:AV->Option Value
 | .agg cs=>(DO cs).map λl=>.agg l.toArray
 | v=>F9 v
def cT {α:Type} (P:Program):Sem α->Option α
 | .pure a=>some a
 | .program k=>cT P<|k P
 | _=>none
def ltI:Int->Int->Bool
 | .ofNat a,.ofNat b=>Nat.blt a b
 | .ofNat _,.negSucc _=>false
 | .negSucc _,.ofNat _=>true
 | .negSucc a,.negSucc b=>Nat.blt b a
def eqI:Int->Int->Bool
 | .ofNat a,.ofNat b=>Nat.beq a b
 | .negSucc a,.negSucc b=>Nat.beq a b
 | _,_=>false
def kC (k:IntKind) (n:Int):Int:=k.wrap n
def oA (k:IntKind) (lim:Nat):Int->Int
 | .ofNat m=>match Nat.blt m lim with
  | true=>.ofNat m
  | false=>kC k<|.ofNat m
 | .negSucc m=>match Nat.blt m lim with
  | true=>.negSucc m
  | false=>kC k<|.negSucc m
def oB (k:IntKind) (lim:Nat):Int->Int
 | .ofNat m=>.ofNat<|Nat.mod m lim
 | .negSucc m=>kC k<|.negSucc m
def o5:IntKind->Int->Int
 | .u8=>oB .u8 256
 | .u16=>oB .u16 65536
 | .u32=>oB .u32 4294967296
 | .u64=>oB .u64 18446744073709551616
 | .i8=>oA .i8 128
 | .i16=>oA .i16 32768
 | .i32=>oA .i32 2147483648
 | .i64=>oA .i64 9223372036854775808
def wo:Cap->Cap->Bool
 | .ex a,.ex b=>a==b
 | .gr a,.gr b=>a==b
 | _,_=>false
mutual
def eE:AV->AV->Bool
 | .bool a,.bool b=>a==b
 | .int j a,.int k b=>j==k&&a==b
 | .str a,.str b=>a==b
 | .nilptr,.nilptr=>true
 | .ptr a o,.ptr b p=>a==b&&o==p
 | .iptr a,.iptr b=>fM a b
 | .nilsl,.nilsl=>true
 | .sl a o l c,.sl b p m d=>a==b&&o==p&&l==m&&wo c d
 | .isl l a c,.isl m b d=>l==m&&c==d&&fM a b
 | .nilmap,.nilmap=>true
 | .map a,.map b=>a==b
 | .func f a c,.func g b d=>f==g&&fM a b&&fM c d
 | .yld a,.yld b=>a==b
 | .nilfn,.nilfn=>true
 | .iface t a,.iface u b=>t==u&&eE a b
 | .nilif,.nilif=>true
 | .agg a,.agg b=>fM a b
 | .tup a,.tup b=>fM a b
 | .unk,.unk=>true
 | .oint j a b,.oint k c d=>j==k&&a==c&&b==d
 | .ostr a,.ostr b=>a==b
 | _,_=>false
def fM:List AV->List AV->Bool
 | [],[]=>true
 | a::l,b::m=>eE a b&&fM l m
 | _,_=>false
end
def oc (f:AV->St->Option (AV × St)):List AV->St->Option (List AV × St)
 | [],st=>some ([],st)
 | v::vs,st=>match f v st with
  | some (v',st1)=>match oc f vs st1 with
   | some (vs',st2)=>some (v'::vs',st2)
   | none=>none
  | none=>none
def gd:Cap->Option Nat
 | .ex c=>some c
 | .gr _=>none
def oM (f:AV->St->Option (AV × St)) (b:Nat) (st:St):Option (List AV × St):=
 match get? st b with
 | some (.own cs)=>match oc f cs st with
  | some (cs',st')=>match get? st' b with
   | some (.own _)=>some (cs',fm st' b<|.frz cs')
   | _=>none
  | none=>none
 | some (.frz cs)=>some (cs,st)
 | _=>none
def fx:Nat->AV->St->Option (AV × St)
 | 0,_,_=>none
 | n+1,v,st=>
  match v with
  | .ptr b off=>(oM (fx n) b st).map fun(cs,st)=>(.iptr<|eh cs off,st)
  | .sl b off len cap=>(oM (fx n) b st).map fun(cs,st)=>(.isl len (if len=0 then [] else eh cs off)<|gd cap,st)
  | .map _ | .yld _=>none
  | .func f a c=>match oc (fx n) a st with
   | some (a',st1)=>(oc (fx n) c st1).map fun(c',st2)=>(.func f a' c',st2)
   | none=>none
  | .iface t v=>(fx n v st).map fun(v',st)=>(.iface t v',st)
  | .agg cs=>(oc (fx n) cs st).map fun(cs',st)=>(.agg cs',st)
  | .tup cs=>(oc (fx n) cs st).map fun(cs',st)=>(.tup cs',st)
  | v=>some (v,st)
def fy:Nat:=60
def eG (P:Program) (t:TypeId):Option Nat:=(P.info? t).map (·.size)
def zN (P:Program) (t:TypeId):Option Bool:=
 match P.underlying t with
 | some (.struct _) | some (.array _ _)=>some true
 | some _=>some false
 | none=>none
def gQ (P:Program) (t:TypeId):Option AV:=((P.info? t).bind (·.zero)).bind wn
def dN (st:St):AV->Option (List AV)
 | .ptr b off=>match get? st b with
  | some (.own cs) | some (.frz cs)=>some<|eh cs off
  | _=>none
 | .iptr cs=>some cs
 | _=>none
def ju (P:Program) (st:St) (t:TypeId) (a:AV):Option AV:=
 match dN st a,zN P t with
 | some cs,some true=>match eG P t with
  | some n=>(iF cs n).map .agg
  | none=>none
 | some (c::_),some false=>some c
 | _,_=>none
def s0 (P:Program) (st:St) (t:TypeId) (a v:AV):Option St:=
 match a with
 | .ptr b off=>match get? st b with
  | some (.own cs)=>
   if eG P t=some (cellsOf v).length&&(cellsOf v).all ea then(dL cs off<|cellsOf v).map λcs'=>fm st b (.own cs') else none
  | _=>none
 | _=>none
def j0 (P:Program) (t:TypeId) (f:Nat):Option (Nat × TypeId):=
 match P.underlying t with
 | some (.struct fs)=>(fs[f]?).map λx=>(x.offset,x.type)
 | _=>none
def gW (P:Program) (t:TypeId) (a:AV) (f:Nat):Option AV:=
 match j0 P t f with
 | some (o,ft)=>match eG P ft,a with
  | some (_+1),.ptr b off=>some<|.ptr b<|off+o
  | some (_+1),.iptr cs=>some<|.iptr<|eh cs o
  | _,_=>none
 | none=>none
def uB (P:Program) (t:TypeId) (cs:List AV) (off:Nat):Option AV:=
 match zN P t with
 | some true=>match eG P t with
  | some n=>(iF (eh cs off) n).map .agg
  | none=>none
 | some false=>get? cs off
 | none=>none
def s8 (P:Program) (t:TypeId) (a:AV) (f:Nat):Option AV:=
 match j0 P t f,a with
 | some (o,ft),.agg cs=>uB P ft cs o
 | _,_=>none
def wq:AV->Nat->Option Nat
 | .int _ (.ofNat n),len=>match Nat.blt n len with
  | true=>some n
  | false=>none
 | _,_=>none
def hH (P:Program) (t:TypeId) (x i:AV):Option AV:=
 match P.underlying t with
 | some (.slice e)=>match eG P e,x with
  | some s,.sl b off len _=>(wq i len).map λi=>.ptr b<|off+i*s
  | some s,.isl len cs _=>match wq i len with
   | some i=>match eh cs (i*s) with
    | []=>none
    | c::cs=>some<|.iptr (c::cs)
   | none=>none
  | _,_=>none
 | some (.array len e)=>match eG P e,x with
  | some s,.ptr b off=>(wq i len).map λi=>.ptr b<|off+i*s
  | some s,.iptr cs=>(wq i len).map λi=>.iptr<|eh cs<|i*s
  | _,_=>none
 | _=>none
def s9 (P:Program) (t:TypeId) (x i:AV):Option AV:=
 match P.underlying t,x with
 | some (.array len e),.agg cs=>match eG P e,wq i len with
  | some s,some i=>uB P e cs<|i*s
  | _,_=>none
 | some .string,.str s=>match i with
  | .int _ (.ofNat n)=>(get? s n).map λb=>.int .u8 b.toNat
  | _=>none
 | _,_=>none
def F':Option AV->Nat->Nat->Option Nat
 | none,d,_=>some d
 | some (.int _<|.ofNat n),_,y=>match Nat.ble n y with
  | true=>some n
  | false=>none
 | some _,_,_=>none
def uC (len:Nat) (m:Option Nat) (lo hi:Option AV):Option (Nat × Nat × Option Nat):=
 match F' hi len (m.getD len) with
 | none=>none
 | some h=>match F' lo 0 h with
  | none=>none
  | some l=>some (l,h,m.map (·- l))
def hM (len:Nat) (cap:Option Nat) (lo hi mx:Option AV):Option (Nat × Nat × Option Nat):=
 match mx with
 | none=>uC len cap lo hi
 | some _=>none
def te (P:Program) (t:TypeId) (x:AV) (lo hi mx:Option AV):Option AV:=
 match P.underlying t,x with
 | some (.slice e),.sl b off len cap=>match eG P e,hM len (gd cap) lo hi mx with
  | some s,some (l,h,some c)=>some<|.sl b (off+l*s) (h - l)<|.ex c
  | some s,some (l,h,none)=>match cap with
   | .gr z=>if z=s then some (.sl b (off+l*s) (h - l)<|.gr s) else none
   | .ex _=>none
  | _,_=>none
 | some (.slice e),.isl len cs cap=>match eG P e,hM len cap lo hi mx with
  | some s,some (l,h,m)=>some<|.isl (h - l) (if h - l=0 then [] else eh cs<|l*s) m
  | _,_=>none
 | some (.slice e),.nilsl=>match eG P e,hM 0 (some 0) lo hi mx with
  | some _,some _=>some .nilsl
  | _,_=>none
 | some (.array n e),.ptr b off=>match eG P e,hM n (some n) lo hi mx with
  | some s,some (l,h,some c)=>some<|.sl b (off+l*s) (h - l)<|.ex c
  | _,_=>none
 | some (.array n e),.iptr cs=>match eG P e,hM n (some n) lo hi mx with
  | some s,some (l,h,some c)=>some<|.isl (h - l) (if h - l=0 then [] else eh cs<|l*s)<|some c
  | _,_=>none
 | _,_=>none
def jc (cs:List AV) (off:Nat):List AV->List AV
 | []=>cs
 | v::vs=>jc (fm cs off v) (off+1) vs
def k5 (place:Nat->Option (Nat × Nat)) (cs:List AV):List (Nat × AV)->Option (List AV)
 | []=>some cs
 | (i,v)::rest=>match place i with
  | none=>none
  | some (off,size)=>
   if (cellsOf v).length=size&&off+size<=cs.length&&(cellsOf v).all ea then k5 place (jc cs off<|cellsOf v) rest else none
def gg (P:Program):List Field->Option (List<|Nat × Nat)
 | []=>some []
 | f::fs=>match eG P f.type,gg P fs with
  | some s,some l=>some ((f.offset,s)::l)
  | _,_=>none
def ti (P:Program) (t:TypeId) (parts:List (Nat × AV)):Option AV:=
 match gQ P t,P.underlying t with
 | some z,some (.struct fs)=>match gg P fs.toList with
  | some l=>(k5 (get? l) (cellsOf z) parts).map .agg
  | none=>none
 | some z,some (.array _ e)=>match eG P e with
  | some s=>(k5 (λi=>some (i*s,s)) (cellsOf z) parts).map .agg
  | none=>none
 | _,_=>none
def zu (z:List AV):Nat->List AV
 | 0=>[]
 | n+1=>z++zu z n
def jv (P:Program) (t:TypeId) (len:Nat) (parts:List (Nat × AV)):Option (List AV):=
 match P.underlying t with
 | some (.slice e)=>match eG P e,gQ P e with
  | some s,some z=>
   if len*s<=16777216&&(cellsOf z).length=s then k5 (λi=>some (i*s,s)) (zu (cellsOf z) len) parts
   else none
  | _,_=>none
 | _=>none
def lk (P:Program) (t:TypeId) (len cap:AV):Option (List AV × Nat × Nat):=
 match P.underlying t,len,cap with
 | some (.slice e),.int _<|.ofNat l,.int _ (.ofNat c)=>match P.info? e,gQ P e with
  | some i,some z=>
   if l<=c&&c*i.bytes<=70368744177664&&c<=70368744177664&&(cellsOf z).length=i.size then
    some (zu (cellsOf z) c,l,c)
   else none
  | _,_=>none
 | _,_,_=>none
def gR (st:St) (s:Nat) (x:AV):Option (Nat × List AV):=
 match x with
 | .nilsl=>some (0,[])
 | .isl len cs _=>(iF cs<|len*s).map (len,·)
 | .sl b off len _=>match dN st (.ptr b off) with
  | some cs=>(iF cs<|len*s).map (len,·)
  | none=>none
 | .str l=>if s=1 then some (l.length,l.map λb=>.int .u8 b.toNat) else none
 | _=>none
def od (st:St) (s need:Nat) (cs:List AV):AV × St:=(.sl st.length 0 need<|.gr s,st++[.own cs])
def KF (P:Program) (e:TypeId) (s:Nat):Bool:=
 match gQ P e with
 | some z=>Nat.beq (cellsOf z).length s
 | none=>false
def uD (st:St) (s n l:Nat) (old new:List AV) (x:AV):Option (AV × St):=
 match x with
 | .nilsl=>some<|od st s (l+n) new
 | .sl b off _ (.ex c)=>
  match Nat.ble (l+n) c with
  | true=>match get? st b with
   | some (.own cs)=>match new.all ea,dL cs (off+l*s) new with
    | true,some cs'=>some (.sl b off (l+n)<|.ex c,fm st b<|.own cs')
    | _,_=>none
   | _=>none
  | false=>some<|od st s (l+n)<|old++new
 | .sl b off _ (.gr z)=>match get? st b with
  | some (.own cs)=>match Nat.beq z s&&new.all ea&&Nat.ble (off+l*s) cs.length with
   | true=>some<|od (fm st b .dead) s (l+n)<|old++new
   | false=>none
  | _=>none
 | .isl _ _ (some c)=>match Nat.ble (l+n) c with
  | true=>none
  | false=>some<|od st s (l+n)<|old++new
 | _=>none
def oN (P:Program) (st:St) (sT:TypeId) (xT:Option TypeId) (x y:AV):Option (AV × St):=
 match P.underlying sT,xT.bind P.underlying with
 | _,some (.int _)=>none
 | some (.slice e),some _=>match P.info? e with
  | none=>none
  | some i=>
   match gR st i.size y,gR st i.size x with
   | some (n,new),some (l,old)=>
    match Nat.ble ((2*(l+n)+1024)*(i.bytes+1)) 70368744177664&&KF P e i.size,n with
    | true,0=>none
    | true,_+1=>uD st i.size n l old new x
    | false,_=>none
   | _,_=>none
 | _,_=>none
def ws (P:Program) (st:St) (t:TypeId) (x:AV):Option AV:=
 match P.underlying t,x with
 | some .string,.str s=>some<|.int .i64 s.length
 | some (.array n _),_=>some<|.int .i64 n
 | some (.slice _),.nilsl=>some<|.int .i64 0
 | some (.slice _),.sl _ _ n _=>some<|.int .i64 n
 | some (.slice _),.isl n _ _=>some<|.int .i64 n
 | some (.map _ _),.nilmap=>some<|.int .i64 0
 | some (.map _ _),.map b=>match get? st b with
  | some (.map es _)=>some<|.int .i64 es.length
  | _=>none
 | _,_=>none
def wt:TypeDesc->AV->AV->Option Bool
 | .pointer _=>λx y=>match x,y with
  | .nilptr,.ptr _ _ | .nilptr,.iptr _ | .ptr _ _,.nilptr | .iptr _,.nilptr=>some false
  | _,_=>none
 | .slice _=>λx y=>match x,y with
  | .nilsl,.sl _ _ _ _ | .nilsl,.isl _ _ _ | .sl _ _ _ _,.nilsl | .isl _ _ _,.nilsl=>some false
  | _,_=>none
 | .map _ _=>λx y=>match x,y with
  | .nilmap,.map _ | .map _,.nilmap=>some false
  | _,_=>none
 | .func _ _ _=>λx y=>match x,y with
  | .nilfn,.func _ _ _ | .func _ _ _,.nilfn=>some false
  | _,_=>none
 | .interface _=>λx y=>match x,y with
  | .nilif,.iface _ _ | .iface _ _,.nilif=>some false
  | _,_=>none
 | _=>λ_ _=>none
def tu (op:BinOp) (d:Option TypeDesc) (x y:AV):Option AV:=
 match d with
 | none=>none
 | some d=>match op,wt d x y with
  | .eql,some b=>some<|.bool b
  | .neq,some b=>some<|.bool<|!b
  | _,_=>none
def ua:BinOp->IntKind->Int->Int->Option AV
 | .add=>λk a b=>some<|.int k<|o5 k<|Int.add a b
 | .sub=>λk a b=>some<|.int k<|o5 k<|Int.sub a b
 | .mul=>λk a b=>some<|.int k<|o5 k<|Int.mul a b
 | .eql=>λ_ a b=>some<|.bool<|eqI a b
 | .neq=>λ_ a b=>some<|.bool<|!eqI a b
 | .lss=>λ_ a b=>some<|.bool<|ltI a b
 | .leq=>λ_ a b=>some<|.bool<|!ltI b a
 | .gtr=>λ_ a b=>some<|.bool<|ltI b a
 | .geq=>λ_ a b=>some<|.bool<|!ltI a b
 | _=>λ_ _ _=>none
def kb (P:Program) (op:BinOp) (t:TypeId) (ox oy:Operand) (x y:AV):Option AV:=
 match ES x,ES y with
 | some a,some b=>match cT P (do eqGuard op t ox oy a b;binOp op t a b) with
  | some v=>wn v
  | none=>none
 | _,_=>none
def ub (op:BinOp) (a b:List UInt8):Option AV:=
 match op with
 | .eql=>some<|.bool<|a==b
 | .neq=>some<|.bool<|!(a==b)
 | _=>none
def ww:IntKind->Nat
 | .i8=>0 | .i16=>1 | .i32=>2 | .i64=>3 | .u8=>4 | .u16=>5 | .u32=>6 | .u64=>7
def rngBin (lo hi b:Int):BinOp->Option Bool
 | .eql=>match ltI hi b||ltI b lo with
  | true=>some false
  | false=>none
 | .neq=>match ltI hi b||ltI b lo with
  | true=>some true
  | false=>none
 | .lss=>match ltI hi b with
  | true=>some true
  | false=>match ltI lo b with
   | true=>none
   | false=>some false
 | .leq=>match ltI b hi with
  | false=>some true
  | true=>match ltI b lo with
   | true=>some false
   | false=>none
 | .gtr=>match ltI b lo with
  | true=>some true
  | false=>match ltI b hi with
   | true=>none
   | false=>some false
 | .geq=>match ltI lo b with
  | false=>some true
  | true=>match ltI hi b with
   | true=>some false
   | false=>none
 | _=>none
def neBin (op:BinOp) (ne:List (List UInt8)) (b:List UInt8):Option AV:=
 match ne.any λa=>a==b with
 | true=>match op with
  | .eql=>some<|.bool false
  | .neq=>some<|.bool true
  | _=>none
 | false=>none
def Ct (P:Program) (op:BinOp) (t:TypeId) (ox oy:Operand) (x y:AV):Option AV:=
 match x,y with
 | .int k a,.int j b=>match Nat.beq (ww k) (ww j),ua op k a b with
  | true,some v=>some v
  | _,_=>kb P op t ox oy (.int k a)<|.int j b
 | .str a,.str b=>ub op a b
 | .oint k lo hi,.int j b=>match Nat.beq (ww k) (ww j),rngBin lo hi b op with
  | true,some v=>some<|.bool v
  | _,_=>none
 | .ostr ne,.str b=>neBin op ne b
 | .str a,.ostr ne=>neBin op ne a
 | x,y=>match tu op (P.underlying t) x y with
  | some v=>some v
  | none=>kb P op t ox oy x y
def Is (P:Program) (op:UnOp) (x:AV):Option AV:=
 match op,x with
 | .not,.bool b=>some<|.bool<|!b
 | _,_=>match ES x with
  | some a=>match cT P (Op.unary op a) with
   | some v=>wn v
   | none=>none
  | none=>none
def wB (P:Program) (src dst:TypeId) (x:AV):Option AV:=
 match x with
 | .int _ n=>match P.underlying src,P.underlying dst with
  | some _,some (.int k)=>some<|.int k<|o5 k n
  | _,_=>none
 | .str s=>match P.underlying src,P.underlying dst with
  | some _,some .string=>some<|.str s
  | _,_=>none
 | _=>none
def kc (P:Program) (f:Array TypeId->TypeId->Array Value->Sem Value) (ts:Array TypeId) (t:TypeId) (xs:List AV):Option AV:=
 match DO xs with
 | some vs=>match cT P (f ts t vs.toArray) with
  | some v=>wn v
  | none=>none
 | none=>none
def dr (P:Program) (kT:TypeId) (a:AV):Bool:=
 match P.underlying kT,a with
 | some .string,.str _=>true
 | some (.int k),.int j _=>k==j
 | some .bool,.bool _=>true
 | _,_=>false
def sameKey:AV->AV->Bool
 | .str a,.str b=>a==b
 | .int _ a,.int _ b=>a==b
 | .bool a,.bool b=>a==b
 | _,_=>false
def jw (k:AV):List AEnt->Nat->Option (Nat × AV)
 | [],_=>none
 | e::es,i=>if sameKey k e.key then some (i,e.val) else jw k es<|i+1
def ia (P:Program) (st:St) (t:TypeId) (m k v:AV):Option St:=
 match P.underlying t,m with
 | some (.map kT _),.map b=>match get? st b with
  | some (.map es clock)=>
   if dr P kT k&&es.all (λe=>dr P kT e.key) then
    match jw k es 0 with
    | some (i,_)=>match get? es i with
     | some e=>some<|fm st b<|.map (fm es i { e with key:=k,val:=v }) clock
     | none=>none
    | none=>some<|fm st b<|.map (es++[⟨k,v,clock⟩])<|clock+1
   else none
  | _=>none
 | _,_=>none
def uc (P:Program) (st:St) (t:TypeId) (x:AV):Option (AV × St):=
 match P.underlying t,x with
 | some (.map _ _),.map b=>match get? st b with
  | some (.map _ clock)=>some (.ptr st.length 0,st++[.iter (some b) clock [] clock])
  | _=>none
 | _,_=>none
def wC (st:St) (x:AV) (isString:Bool):Option (AV × St):=
 match x with
 | .ptr r 0=>match get? st r,isString with
  | some (.iter (some m) since seen last),false=>match get? st m with
   | some (.map es clock)=>
    if !seen.isEmpty&&!es.isEmpty&&es.all (λe=>decide (last<=e.born)) then none
    else
     let left:=es.filter λe=>!seen.contains e.born;let old:=left.filter λe=>decide (e.born<since);let new:=left.filter λe=>decide (since<=e.born)
     match old,new with
     | [],[]=>some (.tup [.bool false],st)
     | [e],[]=>some (.tup [.bool true,e.key,e.val],fm st r<|.iter (some m) since (seen++[e.born]) clock)
     | _,_=>none
   | _=>none
  | _,_=>none
 | _=>none
def ud (st:St) (x:AV):Option AV:=
 match x with
 | .ptr r 0=>match get? st r with
  | some (.iter (some m) _ seen stepped)=>match get? st m,seen.getLast? with
   | some (.map es clock),some stamp=>
    if clock=stepped then(es.find? λe=>e.born==stamp).map λe=>.tup [e.key,e.val] else none
   | _,_=>none
  | _=>none
 | _=>none
end Go.Proofs.YthcfmhgihcjloaaGreatDoor.Gx
namespace Go.Proofs.YthcfmhgihcjloaaGreatDoor.Gx
open Go
structure Env where
 P:Program
 G:Nat->Option (List AV)
 pol:FuncId->Bool
 memo:FuncId->List AV->Option Out
def ev (E:Env) (fr:Fr):Operand->Option AV
 | .tmp t=>some<|fD fr.tm t
 | .const v=>wn v
 | .global g=>(E.G g).map .iptr
 | .func f=>some<|.func f [] []
def oO (E:Env) (fr:Fr):List Operand->Option (List AV)
 | []=>some []
 | x::xs=>match ev E fr x,oO E fr xs with
  | some v,some vs=>some (v::vs)
  | _,_=>none
def zO (E:Env) (fr:Fr):Option Operand->Option (Option AV)
 | none=>some none
 | some x=>(ev E fr x).map some
def zP (E:Env) (fr:Fr):List (Nat × Operand)->Option (List<|Nat × AV)
 | []=>some []
 | (i,x)::xs=>match ev E fr x,zP E fr xs with
  | some v,some vs=>some ((i,v)::vs)
  | _,_=>none
def put:Fr->Option Tmp->AV->Fr
 | ⟨tm,df,rc,ro⟩,some d,v=>⟨fm tm d v,df,rc,ro⟩
 | fr,none,_=>fr
abbrev PF:=Env->Fr->St->Option AV
def KG (x:Operand):PF:=λE fr _=>ev E fr x
def wD (c a b:Operand):PF:=λE fr _=>match ev E fr c,ev E fr a,ev E fr b with
 | some (.bool true),some a,some _=>some a
 | some (.bool false),some _,some b=>some b
 | _,_,_=>none
def ue (t:TypeId) (parts:Array (Nat × Operand)):PF:=λE fr _=>(zP E fr parts.toList).bind<|ti E.P t
def o6 (t:TypeId) (a:Operand):PF:=λE fr st=>match ev E fr a with
 | some a=>ju E.P st t a
 | none=>none
def Cu (x:Operand):PF:=λE fr _=>match ev E fr x with
 | some (.ptr b o)=>some<|.ptr b o
 | some (.iptr cs)=>some<|.iptr cs
 | some (.func f a c)=>some<|.func f a c
 | _=>none
def Cv (op:BinOp) (t:TypeId) (x y:Operand):PF:=λE fr _=>match ev E fr x,ev E fr y with
 | some a,some b=>Ct E.P op t x y a b
 | _,_=>none
def It (op:UnOp) (x:Operand):PF:=λE fr _=>(ev E fr x).bind<|Is E.P op
def wE (s d:TypeId) (x:Operand):PF:=λE fr _=>(ev E fr x).bind<|wB E.P s d
def wF (fn:Fn) (a c:Array Operand):PF:=λE fr _=>match fn,oO E fr a.toList,oO E fr c.toList with
 | .func f,some a,some c=>some<|.func f a c
 | _,_,_=>none
def ug (t:TypeId) (x:Operand) (lo hi mx:Option Operand):PF:=λE fr _=>match ev E fr x,zO E fr lo,zO E fr hi,zO E fr mx with
 | some x,some lo,some hi,some mx=>te E.P t x lo hi mx
 | _,_,_,_=>none
def uh (t:TypeId) (x:Operand) (f:Nat):PF:=λE fr _=>match ev E fr x with
 | some a=>gW E.P t a f
 | none=>none
def ui (t:TypeId) (x:Operand) (f:Nat):PF:=λE fr _=>(ev E fr x).bind λa=>s8 E.P t a f
def uj (t:TypeId) (x i:Operand):PF:=λE fr _=>match ev E fr x,ev E fr i with
 | some x,some i=>hH E.P t x i
 | _,_=>none
def um (t:TypeId) (x i:Operand):PF:=λE fr _=>match ev E fr x,ev E fr i with
 | some x,some i=>s9 E.P t x i
 | _,_=>none
def lq (t:Operand) (i:Nat):PF:=λE fr _=>match ev E fr t with
 | some (.tup vs)=>get? vs i
 | _=>none
def wG (args:Array Operand) (argTypes:Array TypeId):PF:=λE fr st=>match oO E fr args.toList,argTypes[0]? with
 | some (x::_),some t=>ws E.P st t x
 | _,_=>none
def Cw (args:Array Operand) (argTypes:Array TypeId):PF:=λE fr _=>(oO E fr args.toList).bind<|kc E.P Builtin.min_ argTypes 0
def Cx (args:Array Operand) (argTypes:Array TypeId):PF:=λE fr _=>(oO E fr args.toList).bind<|kc E.P Builtin.max_ argTypes 0
def iJ:PF:=λ_ _ _=>none
def ei:Builtin->Array Operand->Array TypeId->PF
 | .len=>wG
 | .min=>Cw
 | .max=>Cx
 | _=>λ_ _=>iJ
def ej (c:Call):PF:=
 match c.callee with
 | .builtin b=>ei b c.args c.argTypes
 | _=>iJ
def dt:Op->PF
 | .move x=>KG x
 | .assign x=>KG x
 | .pick c a b=>wD c a b
 | .build t parts=>ue t parts
 | .load t a=>o6 t a
 | .nilCheck x=>Cu x
 | .binOp op t x y _=>Cv op t x y
 | .unOp op _ x=>It op x
 | .convert s d x=>wE s d x
 | .makeFunc fn a c=>wF fn a c
 | .slice t x lo hi mx=>ug t x lo hi mx
 | .fieldAddr t x f=>uh t x f
 | .field t x f=>ui t x f
 | .indexAddr t x i=>uj t x i
 | .index t x i=>um t x i
 | .extract t i=>lq t i
 | .call c=>ej c
 | _=>iJ
abbrev AF:=Env->Fr->Option (AB × (Nat->AV))
def uE (b:Nat):AV:=.ptr b 0
def Cy (len cap:Nat) (b:Nat):AV:=.sl b 0 len<|.ex cap
def uF (cs:List AV) (mk:Nat->AV):Option (AB × (Nat->AV)):=match cs.all ea with
 | true=>some (.own cs,mk)
 | false=>none
def wH (t:TypeId):AF:=λE _=>match gQ E.P t with
 | some z=>uF (cellsOf z) uE
 | none=>none
def Cz (x:Operand):AF:=λE fr=>match ev E fr x with
 | some v=>uF (cellsOf v) uE
 | none=>none
def CB (t:TypeId) (len:Nat) (parts:Array (Nat × Operand)):AF:=λE fr=>match zP E fr parts.toList with
 | some ps=>match jv E.P t len ps with
  | some cs=>some (.own cs,Cy len len)
  | none=>none
 | none=>none
def CC (t:TypeId) (l c:Operand):AF:=λE fr=>match ev E fr l,ev E fr c with
 | some l,some c=>match lk E.P t l c with
  | some (cs,l,c)=>some (.own cs,Cy l c)
  | none=>none
 | _,_=>none
def Bp (r:Option Operand):AF:=λ_ _=>match r with
 | none=>some (.map [] 0,.map)
 | some _=>none
def wI:AF:=λ_ _=>none
def eH:Op->AF
 | .alloc t=>wH t
 | .box _ x=>Cz x
 | .buildSlice t len parts=>CB t len parts
 | .makeSlice t l c=>CC t l c
 | .makeMap _ r=>Bp r
 | _=>wI
inductive OKind where
 | pure | alloc | eff
 deriving DecidableEq
def o7:Builtin->OKind
 | .len | .cap | .min | .max=>.pure
 | _=>.eff
def wJ (c:Call):OKind:=
 match c.callee with
 | .builtin b=>o7 b
 | _=>.eff
def er:Op->OKind
 | .alloc _ | .box .. | .buildSlice .. | .makeSlice .. | .makeMap ..=>.alloc
 | .move _ | .assign _ | .pick .. | .build .. | .load .. | .nilCheck _ | .binOp .. | .unOp .. | .convert .. | .makeInterface .. | .makeFunc ..
 | .slice .. | .fieldAddr .. | .field .. | .indexAddr .. | .index .. | .lookup .. | .extract .. | .typeAssert ..=>.pure
 | .call c=>wJ c
 | _=>.eff
def oD:Fr->Option (AV × Fr)
 | ⟨tm,df,rc,ro⟩=>match ro,rc with
  | some _,_=>none
  | none,some (.panicking (⟨v,false⟩::older))=>some (v,⟨tm,df,some<|.panicking (⟨v,true⟩::older),none⟩)
  | none,rc=>some (.nilif,⟨tm,df,rc,none⟩)
abbrev uY:=AV->List AV->St->Option (Out × St)
abbrev EF:=Env->uY->Fr->St->Option EO
def zQ (o:Option St):Option EO:=match o with
 | some st=>some<|.val (.tup []) st
 | none=>none
def uT (o:Option (AV × St)):Option EO:=match o with
 | some (v,st)=>some<|.val v st
 | none=>none
def ET (o:Option (Out × St)):Option EO:=match o with
 | some (.ret v,st)=>some<|.val v st
 | some (.pan ch,st)=>some<|.pan ch st
 | none=>none
def un (t:TypeId) (a v:Operand):EF:=λE _ fr st=>match ev E fr a,ev E fr v with
 | some a,some v=>zQ<|s0 E.P st t a v
 | _,_=>none
def uo (f:Operand) (args:Array Operand):EF:=λE cal fr st=>match ev E fr f,oO E fr args.toList with
 | some f,some args=>ET<|cal f args st
 | _,_=>none
def CD (args:Array Operand) (argTypes:Array TypeId):EF:=λE _ fr st=>match oO E fr args.toList,argTypes[0]? with
 | some [x,y],some t=>uT<|oN E.P st t argTypes[1]? x y
 | _,_=>none
def CE:EF:=λ_ _ _ _=>some .recov
def up (t:TypeId) (m k v:Operand):EF:=λE _ fr st=>match ev E fr m,ev E fr k,ev E fr v with
 | some m,some k,some v=>zQ<|ia E.P st t m k v
 | _,_,_=>none
def lB (t:TypeId) (x:Operand):EF:=λE _ fr st=>match ev E fr x with
 | some x=>uT<|uc E.P st t x
 | none=>none
def wK (x:Operand) (s:Bool):EF:=λE _ fr st=>match ev E fr x with
 | some x=>uT<|wC st x s
 | none=>none
def uq (x:Operand):EF:=λE _ fr st=>match ev E fr x with
 | some x=>match ud st x with
  | some v=>some<|.val v st
  | none=>none
 | none=>none
def ur (c:Call):EF:=λE _ fr _=>match c.callee with
 | .value f=>match ev E fr f,oO E fr c.args.toList with
  | some (.func g a c),some args=>some<|.dfr<|.call (.func g a c) args
  | _,_=>none
 | _=>none
def jB:EF:=λ_ _ _ _=>none
def ib:Builtin->Array Operand->Array TypeId->EF
 | .append=>CD
 | .recover=>λ_ _=>CE
 | _=>λ_ _=>jB
def ke (c:Call):EF:=
 match c.callee with
 | .value f=>uo f c.args
 | .builtin b=>ib b c.args c.argTypes
 | _=>jB
def iK:Op->EF
 | .store t a v=>un t a v
 | .call c=>ke c
 | .mapUpdate t m k v=>up t m k v
 | .range t x=>lB t x
 | .next x s=>wK x s
 | .entry x=>uq x
 | .defer c=>ur c
 | _=>jB
def uG:Fr->ADef->Fr
 | ⟨tm,df,rc,ro⟩,d=>⟨tm,d::df,rc,ro⟩
def wL (f:PF) (dst:Option Tmp) (E:Env) (fr:Fr) (st:St):Option OpOut:=
 match f E fr st with
 | some v=>some<|.ok (put fr dst v) st
 | none=>none
def uH (f:AF) (dst:Option Tmp) (E:Env) (fr:Fr) (st:St):Option OpOut:=
 match f E fr with
 | some (ab,mk)=>some<|.ok (put fr dst<|mk st.length)<|st++[ab]
 | none=>none
def Bq (dst:Option Tmp) (fr:Fr) (st:St):Option EO->Option OpOut
 | some (.val v st')=>some<|.ok (put fr dst v) st'
 | some (.pan ch st')=>some<|.pan ch fr st'
 | some .recov=>match oD fr with
  | some (v,fr')=>some<|.ok (put fr' dst v) st
  | none=>none
 | some (.dfr d)=>match fr.ro with
  | none=>some<|.ok (put (uG fr d) dst<|.tup []) st
  | some _=>none
 | none=>none
def iU:OKind->Op->Option Tmp->Env->uY->Fr->St->Option OpOut
 | .pure=>λo dst E _ fr st=>wL (dt o) dst E fr st
 | .alloc=>λo dst E _ fr st=>uH (eH o) dst E fr st
 | .eff=>λo dst E cal fr st=>Bq dst fr st<|iK o E cal fr st
def oP (E:Env) (cal:uY) (o:Oper) (fr:Fr) (st:St):Option OpOut:=
 iU (er o.op) o.op o.dst E cal fr st
def eR (ops:List Oper) (tm:List AV) (o:Oper):Option Bool:=
 match o.guard with
 | none=>some true
 | some (j,w)=>match (get? ops j).bind (·.dst) with
  | some d=>match fD tm d with
   | .bool b=>some<|b==w
   | .tup []=>some false
   | _=>none
  | none=>none
def gB (E:Env) (cal:uY) (ops:List Oper):List Oper->Fr->St->Option OpOut
 | [],fr,st=>some<|.ok fr st
 | o::rest,fr,st=>match eR ops fr.tm o with
  | some true=>match oP E cal o fr st with
   | some (.ok fr' st')=>gB E cal ops rest fr' st'
   | r=>r
  | some false=>gB E cal ops rest (put fr o.dst<|.tup []) st
  | none=>none
def gF:List Bool->Nat->Bool
 | [],_=>false
 | b::_,0=>b
 | _::l,n+1=>gF l n
def lE (o:Oper) (listed:List Bool):Bool:=o.after.toList.all λe=>!Region.binds .any e||gF listed e.on
def fd (listed:List Bool):List Oper->List Bool->Nat->List Nat
 | [],_,_=>[]
 | o::ops,b::bs,i=>if !b&&lE o listed then i::fd listed ops bs (i+1) else fd listed ops bs<|i+1
 | _::_,[],_=>[]
def looks (ops:List Oper) (o:Oper):List Tmp:=
 (o.op.operands.toList.filterMap λ| .tmp t=>some t | _=>none)++
 (match o.guard with
  | some (g,_)=>((get? ops g).bind (·.dst)).toList
  | none=>[])
def cX (o:Oper) (i:Nat):Bool:=o.after.toList.any λe=>Region.binds .any e&&Nat.beq e.on i
def kg (ts:List Tmp) (o:Oper):List Oper->Nat->Bool
 | [],_=>true
 | q::qs,i=>(match q.dst with | some d=>!ts.contains d||cX o i | none=>true)&&kg ts o qs (i+1)
def oQ:List Oper->Bool
 | []=>true
 | q::qs=>(match q.dst with | some d=>qs.all (λp=>match p.dst with | some d'=>!Nat.beq d d' | none=>true) | none=>true)&&oQ qs
def kj:List Oper->Nat->Bool
 | [],_=>true
 | o::os,i=>o.after.toList.all (λe=>!Region.binds .any e||Nat.blt e.on i)&&kj os (i+1)
def Iu (ops:List Oper):Bool:=ops.all (λo=>kg (looks ops o) o ops 0)&&oQ ops&&kj ops 0
inductive Pend where
 | load (i:Nat) (t:TypeId) (a v:AV)
 | blk (i:Nat) (b:Nat) (ab:AB)
 | busy (i:Nat)
def Pend.num:Pend->Nat
 | .load i ..=>i
 | .blk i ..=>i
 | .busy i=>i
def ut:AB->AB->Bool
 | .own a,.own b=>fM a b
 | .map [] 0,.map [] 0=>true
 | _,_=>false
def o8 (E:Env) (st:St):Pend->Bool
 | .load _ t a v=>match ju E.P st t a with
  | some u=>eE u v
  | none=>false
 | .blk _ b ab=>match get? st b with
  | some ab'=>ut ab' ab
  | none=>false
 | .busy _=>false
def l0 (E:Env) (o:Oper) (st:St):List Pend->Option (List Pend)
 | []=>some []
 | p::ps=>match l0 E o st ps with
  | none=>none
  | some ps'=>match cX o p.num with
   | true=>some ps'
   | false=>match o8 E st p with
    | true=>some (p::ps')
    | false=>none
def gh (i:Nat) (c:Call) (E:Env) (fr:Fr):Option (List Pend):=
 match oO E fr c.args.toList with
 | some (.map _::_)=>some [.busy i]
 | some _=>some []
 | none=>none
def ew (i:Nat):Op->Env->Fr->AV->Option (List Pend)
 | .load t a=>λE fr v=>match ev E fr a with
  | some a=>some [.load i t a v]
  | none=>none
 | .lookup ..=>λ_ _ _=>some [.busy i]
 | .call c=>λE fr _=>gh i c E fr
 | _=>λ_ _ _=>some []
def l7 (ops:List Oper):List Nat->Option (Nat × Oper)
 | []=>none
 | i::is=>match get? ops i with
  | some o=>match er o.op with
   | .eff=>l7 ops is
   | _=>some (i,o)
  | none=>none
def gq:List Oper->List AV->List AV
 | [],tm=>tm
 | o::ops,tm=>match o.dst with
  | some d=>gq ops<|fm tm d .unk
  | none=>gq ops tm
def oR (ops:List Oper):Fr->Fr
 | ⟨tm,df,rc,ro⟩=>⟨gq ops tm,df,rc,ro⟩
def uI (E:Env) (i:Nat) (o:Oper) (fr:Fr) (st:St):Option (AV × List Pend × St):=
 match er o.op with
 | .pure=>match dt o.op E fr st with
  | some v=>match ew i o.op E fr v with
   | some ps=>some (v,ps,st)
   | none=>none
  | none=>none
 | .alloc=>match eH o.op E fr with
  | some (ab,mk)=>some (mk st.length,[.blk i st.length ab],st++[ab])
  | none=>none
 | .eff=>none
def drawn (E:Env) (cal:uY) (ops:List Oper):Nat->List Bool->List Pend->Fr->St->Option OpOut
 | 0,_,_,_,_=>none
 | n+1,listed,ps,fr,st=>
  match l7 ops (fd listed ops listed 0) with
  | some (i,o)=>match eR ops fr.tm o with
   | some false=>drawn E cal ops n (fm listed i true) ps (put fr o.dst<|.tup []) st
   | some true=>match uI E i o fr st with
    | some (v,p,st')=>drawn E cal ops n (fm listed i true) (p++ps) (put fr o.dst v) st'
    | none=>none
   | none=>none
  | none=>match fd listed ops listed 0 with
   | []=>match listed.all id with
    | true=>some<|.ok fr st
    | false=>none
   | [i]=>match get? ops i with
    | none=>none
    | some o=>match eR ops fr.tm o with
     | some false=>drawn E cal ops n (fm listed i true) ps (put fr o.dst<|.tup []) st
     | some true=>match iK o.op E cal fr st with
      | some (.val v st')=>match l0 E o st' ps with
       | some ps'=>drawn E cal ops n (fm listed i true) ps' (put fr o.dst v) st'
       | none=>none
      | some (.pan ch st')=>some<|.pan ch (oR ops fr) st'
      | _=>none
     | none=>none
   | _=>none
abbrev Rn:=Code->Fr->St->Option (Ex × Fr × St)
def wM (n:Nat):List AV:=List.replicate n<|.tup []
def resL (E:Env) (st:St) (tm:List AV):List ResultVar->Option (List AV)
 | []=>some []
 | r::rs=>match (match r with | .tmp t=>some (fD tm t) | .cell a t=>ju E.P st t<|fD tm a),resL E st tm rs with
  | some v,some vs=>some (v::vs)
  | _,_=>none
def CG:List AV->AV
 | [v]=>v
 | vs=>.tup vs
def oS:AMode->AMode
 | .panicking (⟨_,true⟩::_)=>.returning
 | m=>m
def uJ (m:AMode) (chain:List APan):AMode:=
 match m with
 | .panicking old=>.panicking<|chain++old
 | _=>.panicking chain
def ff (E:Env) (f:FuncId):Option (Func × Code):=
 match E.P.funcs[f]? with
 | some fn=>match fn.body with
  | some c=>some (fn,c)
  | none=>none
 | none=>none
def body (R:Rn) (fn:Func) (c:Code) (args:List AV) (rc:Option AMode) (st:St):Option (AMode × Fr × St):=
 match R c ⟨args++wM (fn.ntmps - args.length),[],rc,none⟩ st with
 | some (.normal,fr,st') | some (.ret,fr,st')=>some (.returning,fr,st')
 | some (.pan ch,fr,st')=>some (.panicking ch,fr,st')
 | _=>none
def oT (E:Env) (fn:Func) (m:AMode) (fr:Fr) (st:St):Option Out:=
 match m with
 | .returning=>(resL E st fr.tm fn.results.toList).map λvs=>.ret<|CG vs
 | .panicking ch=>some<|.pan ch
def deferred (E:Env) (R:Rn) (fv:AV) (args:List AV) (m:AMode) (st:St):Option (AMode × St):=
 match fv with
 | .func f a c=>match ff E f with
  | some (fn,cd)=>match body R fn cd (a++args++c) (some m) st with
   | some (m',fr,st')=>match fr.df,fr.rc,oT E fn m' fr st' with
    | [],some u,some (.ret _)=>some (oS u,st')
    | [],some u,some (.pan ch)=>some (uJ u ch,st')
    | _,_,_=>none
   | none=>none
  | none=>none
 | _=>none
def l8 (E:Env) (R:Rn):List ADef->AMode->St->Option (AMode × St)
 | [],m,st=>some (m,st)
 | .coll b::ds,m,st=>match get? st b with
  | some (.defd false)=>l8 E R ds m<|fm st b<|.defd true
  | _=>none
 | .call fv args::ds,m,st=>match deferred E R fv args m st with
  | some (m',st')=>l8 E R ds m' st'
  | none=>none
def ie (E:Env) (R:Rn) (f:FuncId) (args:List AV) (st:St):Option (Out × St):=
 match ff E f with
 | some (fn,c)=>match body R fn c args none st with
  | some (m,fr,st1)=>match l8 E R fr.df m st1 with
   | some (m',st2)=>(oT E fn m' fr st2).map (·,st2)
   | none=>none
  | none=>none
 | none=>none
def wN (o:Out) (st:St):Option Out:=
 match o with
 | .ret v=>(fx fy v st).map fun(v',_)=>.ret v'
 | .pan ch=>match ch with
  | [⟨v,false⟩]=>(fx fy v st).map fun(v',_)=>.pan [⟨v',false⟩]
  | _=>none
def ma (E:Env) (R:Rn) (f:FuncId) (args:List AV):Option Out:=
 match ie E R f args [] with
 | some (o,st)=>wN o st
 | none=>none
def fA:Nat->AV->Bool
 | 0,_=>true
 | n+1,v=>match v with
  | .ptr _ _ | .map _ | .yld _=>true
  | .func _ a c=>a.any (fA n)||c.any (fA n)
  | .iface _ v=>fA n v
  | .agg cs=>cs.any<|fA n
  | .tup cs=>cs.any<|fA n
  | _=>false
def wO (E:Env) (R:Rn) (f:FuncId) (args:List AV) (st:St):Option (Out × St):=
 if E.pol f&&!args.any (fA 8) then match oc (fx fy) args st with
  | some (args',st')=>match E.memo f args' with
   | some out=>some (out,st')
   | none=>match ma E R f args' with
    | some out=>some (out,st')
    | none=>none
  | none=>ie E R f args st
 else ie E R f args st
def eb:List Tmp->List AV->List AV->List AV
 | t::ts,v::vs,tm=>eb ts vs<|fm tm t v
 | _,_,tm=>tm
def endRound (l:Nat) (L:ALoop) (ex:Ex) (st:St):Option (Out × St):=
 match ex with
 | .normal=>some (.ret<|.bool true,fm st l<|.loop { L with state:=.ready,pending:=none })
 | .ret=>some (.ret<|.bool false,fm st l<|.loop { L with state:=.done,pending:=some .ret })
 | .exit id=>some (.ret<|.bool false,fm st l<|.loop { L with state:=.done,pending:=some (.exit id) })
 | .pan ch=>some (.pan ch,st)
def round (R:Rn) (l:Nat) (args:List AV) (st:St):Option (Out × St):=
 match get? st l with
 | some (.loop L)=>
  if args.length=L.params.length then
   match R L.assign ⟨eb L.params args L.tmps,[],none,some l⟩ st with
   | some (.normal,fr1,st1)=>match get? st1 l with
    | some (.loop L1)=>
     if L1.state=.ready then
      match R L.body fr1 (fm st1 l<|.loop { L1 with state:=.busy }) with
      | some (ex,⟨_,[],_,_⟩,st2)=>match get? st2 l with
       | some (.loop L2)=>endRound l L2 ex st2
       | _=>none
      | _=>none
     else none
    | _=>none
   | _=>none
  else none
 | _=>none
def gU (E:Env) (R:Rn) (fv:AV) (args:List AV) (st:St):Option (Out × St):=
 match fv with
 | .func f a c=>wO E R f (a++args++c) st
 | .yld l=>round R l args st
 | _=>none
def uu (fr:Fr) (st:St):Option (Nat × List ADef × St):=
 match fr.ro with
 | none=>some (st.length,[ADef.coll st.length],st++[AB.defd false])
 | some l=>match get? st l with
  | some (AB.loop L)=>some (L.defers,[],st)
  | _=>none
def zR (lid:Nat) (fr:Fr):Option (Out × St)->Option (Ex × Fr × St)
 | some (.ret _,st3)=>match get? st3 lid with
  | some (AB.loop L)=>
   if L.state=LoopState.busy then none else
   match L.pending with
   | none=>some (.normal,fr,fm st3 lid<|.loop { L with state:=.exhausted })
   | some .ret=>some (.ret,fr,fm st3 lid<|.loop { L with state:=.exhausted })
   | some (.exit id)=>some (.exit id,fr,fm st3 lid<|.loop { L with state:=.exhausted })
   | some _=>none
  | _=>none
 | some (.pan ch,st3)=>some (.pan ch,fr,st3)
 | none=>none
def uv (E:Env) (R:Rn) (f:Operand) (params:List Tmp) (assign bd:Code) (fr:Fr) (st:St):Option (Ex × Fr × St):=
 match ev E fr f,uu fr st with
 | some fv,some (dblk,mark,st1)=>
  zR st1.length { fr with df:=mark++fr.df }
   (gU E R fv [.yld st1.length]<|st1++[AB.loop ⟨.ready,none,fr.tm,params,assign,bd,dblk⟩])
 | _,_=>none
def oE:Option OpOut->Option (Ex × Fr × St)
 | some (.ok fr st)=>some (.normal,fr,st)
 | some (.pan ch fr st)=>some (.pan ch,fr,st)
 | none=>none
def region (E:Env) (R:Rn) (ops:List Oper) (draw:Bool) (fr:Fr) (st:St):Option (Ex × Fr × St):=
 if draw then
  if Iu ops then oE (drawn E (gU E R) ops (ops.length+1) (List.replicate ops.length false) [] fr st) else none
 else oE<|gB E (gU E R) ops ops fr st
def fF (R:Rn) (b:Code):Option (Ex × Fr × St)->Option (Ex × Fr × St)
 | some (.normal,fr,st)=>R b fr st
 | r=>r
def fB (id:Nat):Option (Ex × Fr × St)->Option (Ex × Fr × St)
 | some (.exit j,fr,st)=>if j=id then some (.normal,fr,st) else some (.exit j,fr,st)
 | r=>r
abbrev CF:=Env->Rn->Fr->St->Option (Ex × Fr × St)
def Bs:CF:=λ_ _ fr st=>some (.normal,fr,st)
def Iv (ops:Array Oper) (draw:Bool):CF:=λE R fr st=>region E R ops.toList draw fr st
def EU (a b:Code):CF:=λ_ R fr st=>fF R b<|R a fr st
def condC (c:Operand) (a b:Code):CF:=λE R fr st=>match ev E fr c with
 | some (.bool true)=>R a fr st
 | some (.bool false)=>R b fr st
 | _=>none
def wP (id:Nat) (b:Code):CF:=λ_ R fr st=>fB id<|R b fr st
def wQ (b:Code):CF:=λ_ R fr st=>fF R (.loop b)<|R b fr st
def CH (f:Operand) (params:Array Tmp) (assign bd:Code):CF:=λE R fr st=>uv E R f params.toList assign bd fr st
def Bt (id:Nat):CF:=λ_ _ fr st=>some (.exit id,fr,st)
def EW:CF:=λ_ _ fr st=>some (.ret,fr,st)
def Bu:CF:=λ_ _ _ _=>none
def jE:Code->CF
 | .skip=>Bs
 | .region _ ops draw=>Iv ops draw
 | .seq a b=>EU a b
 | .cond c a b=>condC c a b
 | .block id b=>wP id b
 | .loop b=>wQ b
 | .rangeFunc f params assign bd=>CH f params assign bd
 | .exit id=>Bt id
 | .ret=>EW
 | _=>Bu
def run (E:Env):Nat->Rn
 | 0=>λ_ _ _=>none
 | n+1=>λc=>jE c E<|run E n
def Bw (E:Env) (n:Nat) (f:FuncId) (args:List AV):Option Out:=ma E (run E n) f args
end Go.Proofs.YthcfmhgihcjloaaGreatDoor.Gx
namespace Go.Proofs.YthcfmhgihcjloaaGreatDoor.Gx
open Go
theorem get?_eq {α:Type}:∀(l:List α) (i:Nat),get? l i=l[i]?
 | [],_=>by simp[get?]
 | x::l,0=>by simp[get?]
 | x::l,n+1=>by simp[get?,get?_eq l n]
theorem ip {α:Type}:∀(l:List α) (i:Nat) (v:α),fm l i v=l.set i v
 | [],_,_=>by simp[fm]
 | x::l,0,v=>by simp[fm]
 | x::l,n+1,v=>by simp[fm,ip l n v]
theorem zv:∀(l:List AV) (i:Nat),fD l i=(l[i]?).getD (.tup [])
 | [],_=>by simp[fD]
 | x::l,0=>by simp[fD]
 | x::l,n+1=>by simp[fD,zv l n]
theorem BA:∀(l:List AV) (n:Nat),eh l n=l.drop n
 | l,0=>by cases l<;>simp[eh]
 | [],n+1=>by simp[eh]
 | x::l,n+1=>by simp[eh,BA l n]
theorem DP:∀(l:List AV) (n:Nat) (r:List AV),iF l n=some r->r=l.take n/\r.length=n
 | l,0,r,h=>by cases l<;>simp[iF] at h<;>simp[<-h]
 | [],n+1,r,h=>by simp[iF] at h
 | x::l,n+1,r,h=>by simp only[iF,tC] at h;obtain⟨d,a,rfl⟩:=h;obtain⟨b,c⟩:=DP l n d a;exact⟨by simp[b],by simp[c]⟩
theorem Iw:∀(cs:List AV) (n:Nat) (vs r:List AV),dL cs n vs=some r->
  r.length=cs.length/\(vs≠[]->n+vs.length<=cs.length)/\∀j,r[j]?=if n<=j/\j<n+vs.length then vs[j - n]? else cs[j]?
 | cs,n,[],r,h=>by
  have:r=cs:=by cases cs<;>simp[dL] at h<;>simp[h]
  subst this;refine⟨rfl,by simp,λj=>?_⟩;rw[if_neg<|by simp]
 | [],n,v::vs,r,h=>by simp[dL] at h
 | c::cs,0,v::vs,r,h=>by
  simp only[dL,tC] at h;obtain⟨g,b,rfl⟩:=h;obtain⟨d,e,f⟩:=Iw cs 0 vs g b;refine⟨by simp[d],λ_=>?_,λj=>?_⟩
  .by_cases he:vs=[]
   .subst he;simp
   have:=e he;simp at *;omega
  cases j with
  | zero=>simp
  | succ j=>
   have:=f j;simp only[tY,this];by_cases a:j<vs.length
   .simp[a]
   simp[a]
 | c::cs,n+1,v::vs,r,h=>by
  simp only[dL,tC] at h;obtain⟨g,b,rfl⟩:=h;obtain⟨d,e,f⟩:=Iw cs n (v::vs) g b;refine⟨by simp[d],λi=>?_,λj=>?_⟩
  .have:=e i;simp at *;omega
  cases j with
  | zero=>simp
  | succ j=>
   have:=f j;simp only[tY,this];by_cases a:n<=j/\j<n+(v::vs).length
   .rw[if_pos a,if_pos<|by omega];congr 1;omega
   rw[if_neg a,if_neg<|by omega]
abbrev cO:=Nat->Option (Nat × Nat)
def cP:cO:=λ_=>none
inductive VRel (B:Nat->Prop) (w:World):cO->AV->Value->Prop
 | bool {φ:cO} (b:Bool):VRel B w φ (.bool b) (.bool b)
 | int {φ:cO} (k:IntKind) (n:Int):VRel B w φ (.int k n) (.int k n)
 | str {φ:cO} (l:List UInt8):VRel B w φ (.str l) (.string ⟨l.toArray⟩)
 | nilptr {φ:cO}:VRel B w φ .nilptr (.pointer none)
 | ptr {φ:cO} {b off cb co:Nat} (h:φ b=some (cb,co)):VRel B w φ (.ptr b off) (.pointer<|some ⟨cb,co+off,none⟩)
 | iptr {φ:cO} {cs:List AV} {cb o:Nat} (vs:Nat->Value) (hb:¬B cb) (hl:cb<w.1.size)
  (hc:∀(j:Nat) c,cs[j]?=some c->w.cell? ⟨cb,o+j,none⟩=some (vs j))
  (hv:∀(j:Nat) c,cs[j]?=some c->VRel B w cP c (vs j)):VRel B w φ (.iptr cs) (.pointer<|some ⟨cb,o,none⟩)
 | nilsl {φ:cO}:VRel B w φ .nilsl (.slice none 0 0)
 | sl {φ:cO} {b off len:Nat} {cap:Cap} {cb co o ccap:Nat} (h:φ b=some (cb,co)) (ho:ccap=0\/o=co+off) (hl:len<=ccap)
  (hx:∀c,cap=.ex c->ccap=c)
  (hg:∀sz,cap=.gr sz->ccap=0\/∃cells t fz,w.1[cb]?=some (.cells cells t fz)/\co+off+ccap*sz<=cells.size):
  VRel B w φ (.sl b off len cap) (.slice (some ⟨cb,o,none⟩) len ccap)
 | isl {φ:cO} {len:Nat} {cs:List AV} {cap:Option Nat} {a:Addr} {ccap:Nat} (vs:Nat->Value) (hx:∀c,cap=some c->ccap=c) (hl:len<=ccap)
  (hb:cs≠[]->¬B a.block/\a.spot=none)
  (hc:∀(j:Nat) c,cs[j]?=some c->w.cell? ⟨a.block,a.off+j,none⟩=some (vs j))
  (hv:∀(j:Nat) c,cs[j]?=some c->VRel B w cP c (vs j)):VRel B w φ (.isl len cs cap) (.slice (some a) len ccap)
 | nilmap {φ:cO}:VRel B w φ .nilmap (.map none)
 | map {φ:cO} {b cb co:Nat} (h:φ b=some (cb,co)):VRel B w φ (.map b) (.map<|some cb)
 | func {φ:cO} {f:FuncId} {a c:List AV} {a' c':Array Value} (ha:a.length=a'.size) (hc:c.length=c'.size)
  (hav:∀(j:Nat) x v,a[j]?=some x->a'[j]?=some v->VRel B w φ x v) (hcv:∀(j:Nat) x v,c[j]?=some x->c'[j]?=some v->VRel B w φ x v):
  VRel B w φ (.func f a c) (.func (.func f) a' c')
 | yld {φ:cO} {l cl co:Nat} (h:φ l=some (cl,co)):VRel B w φ (.yld l) (.func (.yield cl) #[] #[])
 | nilfn {φ:cO}:VRel B w φ .nilfn .nilFunc
 | iface {φ:cO} {t:TypeId} {x:AV} {v:Value} (h:VRel B w φ x v):VRel B w φ (.iface t x) (.iface t v)
 | nilif {φ:cO}:VRel B w φ .nilif .nilIface
 | agg {φ:cO} {cs:List AV} {vs:Array Value} (hl:cs.length=vs.size) (hv:∀(j:Nat) x v,cs[j]?=some x->vs[j]?=some v->VRel B w φ x v):
  VRel B w φ (.agg cs) (.agg vs)
 | tup {φ:cO} {cs:List AV} {vs:Array Value} (hl:cs.length=vs.size) (hv:∀(j:Nat) x v,cs[j]?=some x->vs[j]?=some v->VRel B w φ x v):
  VRel B w φ (.tup cs) (.tuple vs)
 | unk {φ:cO} (u:Value):VRel B w φ .unk u
 | oint {φ:cO} {k:IntKind} {lo hi n:Int} (h1:lo<=n) (h2:n<=hi):VRel B w φ (.oint k lo hi) (.int k n)
 | ostr {φ:cO} {ne:List (List UInt8)} {l:List UInt8} (h:l∉ne):VRel B w φ (.ostr ne) (.string ⟨l.toArray⟩)
def LRel (B:Nat->Prop) (w:World) (φ:cO) (l:List AV) (vs:List Value):Prop:=
 l.length=vs.length/\∀(j:Nat) x v,l[j]?=some x->vs[j]?=some v->VRel B w φ x v
section
variable {B:Nat->Prop} {w:World} {φ:cO}
theorem LRel.nil:LRel B w φ [] []:=⟨rfl,λj x v h=>by simp at h⟩
theorem LRel.cons {x:AV} {v:Value} {l:List AV} {vs:List Value} (h:VRel B w φ x v) (c:LRel B w φ l vs):LRel B w φ (x::l) (v::vs):=by
 refine⟨by simp[c.1],λj y u b a=>?_⟩
 cases j with
 | zero=>simp at b a;subst b;subst a;exact h
 | succ j=>simp at b a;exact c.2 j y u b a
theorem LRel.of_cons {x:AV} {v:Value} {l:List AV} {vs:List Value} (h:LRel B w φ (x::l) (v::vs)):VRel B w φ x v/\LRel B w φ l vs:=
 ⟨h.2 0 x v rfl rfl,by simpa using h.1,λj y u b a=>h.2 (j+1) y u (by simpa using b)<|by simpa using a⟩
theorem LRel.inv_cons {x:AV} {l:List AV} {vs:List Value} (h:LRel B w φ (x::l) vs):∃v a,vs=v::a/\VRel B w φ x v/\LRel B w φ l a:=by
 cases vs with
 | nil=>have:=h.1;simp at this
 | cons v a=>exact⟨v,a,rfl,h.of_cons.1,h.of_cons.2⟩
theorem LRel.inv_nil {vs:List Value} (h:LRel B w φ [] vs):vs=[]:=by have:=h.1;simp at this;exact tU this.symm
theorem LRel.append {l a:List AV} {vs b:List Value} (h:LRel B w φ l vs) (c:LRel B w φ a b):LRel B w φ (l++a) (vs++b):=by
 induction l generalizing vs with
 | nil=>rw[h.inv_nil];simpa using c
 | cons x l f=>obtain⟨v,g,rfl,d,e⟩:=h.inv_cons;exact LRel.cons d<|f e
theorem LRel.drop {l:List AV} {vs:List Value} (h:LRel B w φ l vs) (n:Nat):LRel B w φ (l.drop n) (vs.drop n):=
 ⟨by simp[h.1],λj x v b a=>h.2 (n+j) x v (by simpa using b)<|by simpa using a⟩
theorem LRel.take {l:List AV} {vs:List Value} (h:LRel B w φ l vs) (n:Nat):LRel B w φ (l.take n) (vs.take n):=by
 refine⟨by simp[h.1],λj x v a b=>?_⟩;rw[vG] at a b;split at a
 .rename_i hj;rw[if_pos hj] at b;exact h.2 j x v a b
 simp at a
theorem LRel.set {l:List AV} {vs:List Value} (h:LRel B w φ l vs) (i:Nat) {x:AV} {v:Value} (d:VRel B w φ x v):LRel B w φ (l.set i x) (vs.set i v):=by
 refine⟨by simp[h.1],λj y u b a=>?_⟩;rw[tQ] at b a;by_cases c:i=j
 .subst c;simp only[if_true] at b a;split at b
  .split at a
   .simp at b a;subst b;subst a;exact d
   simp at a
  simp at b
 simp only[c,if_false] at b a;exact h.2 j y u b a
theorem VRel.cells {v:AV} {u:Value} (h:VRel B w φ v u) (c:v≠.unk):LRel B w φ (cellsOf v) u.cells.toList:=by
 cases h with
 | unk=>exact absurd rfl c
 | agg hl hv=>exact⟨by simpa [Value.cells,cellsOf] using hl,λj x v a d=>hv j x v (by simpa [cellsOf] using a)<|by simpa [Value.cells] using d⟩
 | bool b=>exact LRel.cons (.bool b) .nil
 | int k n=>exact LRel.cons (.int k n) .nil
 | str l=>exact LRel.cons (.str l) .nil
 | nilptr=>exact LRel.cons .nilptr .nil
 | ptr h=>exact LRel.cons (.ptr h) .nil
 | iptr vs hb hl hc hv=>exact LRel.cons (.iptr vs hb hl hc hv) .nil
 | nilsl=>exact LRel.cons .nilsl .nil
 | sl h ho hl a hg=>exact LRel.cons (.sl h ho hl a hg) .nil
 | isl vs a hl hb hc hv=>exact LRel.cons (.isl vs a hl hb hc hv) .nil
 | nilmap=>exact LRel.cons .nilmap .nil
 | map h=>exact LRel.cons (.map h) .nil
 | func ha hc hav hcv=>exact LRel.cons (.func ha hc hav hcv) .nil
 | yld h=>exact LRel.cons (.yld h) .nil
 | nilfn=>exact LRel.cons .nilfn .nil
 | iface h=>exact LRel.cons (.iface h) .nil
 | nilif=>exact LRel.cons .nilif .nil
 | tup hl hv=>exact LRel.cons (.tup hl hv) .nil
 | oint h1 h2=>exact LRel.cons (.oint h1 h2) .nil
 | ostr h=>exact LRel.cons (.ostr h) .nil
theorem Ga {v:AV} (h:(cellsOf v).all ea=true):v≠.unk:=λe=>by subst e;simp[cellsOf,ea] at h
theorem VRel.of_list {l:List AV} {vs:List Value} (h:LRel B w φ l vs):VRel B w φ (.agg l) (.agg vs.toArray):=
 .agg (by simp[h.1]) (λj x v b a=>h.2 j x v b<|by simpa using a)
theorem VRel.of_list_tup {l:List AV} {vs:List Value} (h:LRel B w φ l vs):VRel B w φ (.tup l) (.tuple vs.toArray):=
 .tup (by simp[h.1]) (λj x v b a=>h.2 j x v b<|by simpa using a)
theorem VRel.undef:VRel B w φ (.tup []) undef:=.tup rfl (λj x v h=>by simp at h)
theorem KH {v:Value} {x:AV} (h:ER v=some x):VRel B w φ x v:=by
 unfold ER at h;split at h<;>simp at h<;>subst h
 case h_3 s=>exact .str s.data.toList
 all_goals constructor
theorem Iy:∀{vs:List Value} {l:List AV},DN vs=some l->LRel B w φ l vs
 | [],l,h=>by simp[DN] at h;subst h;exact .nil
 | v::vs,l,h=>by
  unfold DN at h;split at h
  .rename_i a l' ha hl';simp at h;subst h;exact .cons (KH ha)<|Iy hl'
  simp at h
theorem zw {v:Value} {x:AV} (h:wn v=some x):VRel B w φ x v:=by
 unfold wn at h;split at h
 .rename_i cs;simp at h;obtain⟨l,a,rfl⟩:=h;have:=VRel.of_list<|Iy (B:=B) (w:=w) (φ:=φ) a;simpa using this
 .rename_i vs;simp at h;obtain⟨l,a,rfl⟩:=h;have:=VRel.of_list_tup<|Iy (B:=B) (w:=w) (φ:=φ) a;simpa using this
 exact KH h
theorem DQ {v:Value} {x:AV} (h:wn v=some x):x≠.unk:=by
 intro e;subst e;unfold wn at h;split at h
 .simp at h
 .simp at h
 unfold ER at h;split at h<;>simp at h
theorem KI {x:AV} {v u:Value} (h:F9 x=some v) (a:VRel B w φ x u):u=v:=by cases a<;>simp[F9] at h<;>exact h
theorem Iz:∀{l:List AV} {vs us:List Value},DO l=some vs->LRel B w φ l us->us=vs
 | [],vs,us,h,hr=>by simp[DO] at h;subst h;exact hr.inv_nil
 | x::l,vs,us,h,hr=>by
  unfold DO at h;split at h
  .rename_i a l' ha hl';simp at h;subst h;obtain⟨v,d,rfl,b,c⟩:=hr.inv_cons;rw[KI ha b,Iz hl' c]
  simp at h
theorem IA {x:AV} {v u:Value} (h:ES x=some v) (a:VRel B w φ x u):u=v:=by
 unfold ES at h;split at h
 .rename_i cs;simp at h;obtain⟨l,b,rfl⟩:=h
  cases a with
  | agg hl hv=>rename_i vs;have:vs.toList=l:=Iz b ⟨by simpa using hl,λj x v d c=>hv j x v d<|by simpa using c⟩;rw[<-this]
 exact KI h a
end
theorem Gb {α:Type} {P:Program}:∀(s:Sem α) {a:α},cT P s=some a->∀w,s.run P w=.ok a w
 | .pure a,_,h,w=>by simp[cT] at h;subst h;rfl
 | .program k,_,h,w=>by simp only[cT] at h;simp only[Sem.run];exact Gb (k P) h w
 | .load ..,_,h,_=>by simp[cT] at h
 | .store ..,_,h,_=>by simp[cT] at h
 | .new ..,_,h,_=>by simp[cT] at h
 | .shape ..,_,h,_=>by simp[cT] at h
 | .freeze ..,_,h,_=>by simp[cT] at h
 | .frozen ..,_,h,_=>by simp[cT] at h
 | .getObj ..,_,h,_=>by simp[cT] at h
 | .setObj ..,_,h,_=>by simp[cT] at h
 | .choose ..,_,h,_=>by simp[cT] at h
 | .sys ..,_,h,_=>by simp[cT] at h
 | .mark ..,_,h,_=>by simp[cT] at h
 | .halt _,_,h,_=>by simp[cT] at h
end Go.Proofs.YthcfmhgihcjloaaGreatDoor.Gx
namespace Go.Proofs.YthcfmhgihcjloaaGreatDoor.Gx
open Go
def jK:AB->Bool
 | .frz _ | .dead=>false
 | _=>true
def iW (φ:cO) (st:St) (cb:Nat):Prop:=∃b ab co,st[b]?=some ab/\jK ab=true/\φ b=some (cb,co)
def Bd (F:Nat->Prop) (φ:cO) (st:St) (cb:Nat):Prop:=F cb\/iW φ st cb
def CI (B:Nat->Prop) (w:World) (φ:cO) (es:List AEnt) (ces:Array MapEntry):Prop:=
 es.length=ces.size/\∀(j:Nat) e c,es[j]?=some e->ces[j]?=some c->VRel B w φ e.key c.key/\VRel B w φ e.val c.val/\e.born=c.born
def ORel (P:Program) (B:Nat->Prop) (w:World) (φ:cO) (cb co:Nat):AB->Prop
 | .own cs=>∃cells t,w.1[cb]?=some (.cells cells t (0,0))/\∀(j:Nat) c,cs[j]?=some c->∃v,cells[co+j]?=some v/\VRel B w φ c v
 | .frz cs=>¬B cb/\∃cells t fz,w.1[cb]?=some (.cells cells t fz)/\∀(j:Nat) c,cs[j]?=some c->∃v,cells[co+j]?=some v/\VRel B w cP c v
 | .dead=>True
 | .map es clock=>∃ces,w.1[cb]?=some (.map ces clock)/\CI B w φ es ces
 | .iter m since seen stepped=>co=0/\∃cm,w.1[cb]?=some (.mapIter cm since seen.toArray stepped)/\(m=none->cm=none)/\(∀b,m=some b->∃x y,cm=some x/\φ b=some (x,y))
 | .loop L=>∃CL,w.1[cb]?=some (.loop CL)/\CL.state=L.state/\CL.pending=L.pending/\CL.params.toList=L.params/\CL.assign=L.assign/\CL.body=L.body/\
  LRel B w φ L.tmps CL.tmps.toList/\(∃y,φ L.defers=some (CL.defers,y))/\(P.funcs[CL.fn]?).isSome=true
 | .defd taken=>w.1[cb]?=some (.deferred (if taken then none else some []))
structure Sess (E:Env) (F:Nat->Prop) (φ:cO) (st:St) (w:World):Prop where
 blk:∀b ab cb co,st[b]?=some ab->φ b=some (cb,co)->ORel E.P (Bd F φ st) w φ cb co ab
 inj:∀b b' ab ab' cb co co',st[b]?=some ab->jK ab=true->st[b']?=some ab'->jK ab'=true->φ b=some (cb,co)->φ b'=some (cb,co')->b=b'
 lt:∀b cb co,φ b=some (cb,co)->cb<w.1.size/\b<st.length
 glob:∀g cs,E.G g=some cs->VRel (Bd F φ st) w cP (.iptr cs) (.pointer<|some ⟨g,0,none⟩)
 fout:∀cb,F cb->cb<w.1.size/\¬iW φ st cb
structure Ext0 (φ:cO) (st:St) (w:World) (φ':cO) (st':St) (w':World):Prop where
 phi:∀b x,φ b=some x->φ' b=some x
 size:w.1.size<=w'.1.size
 keep:∀(cb:Nat),cb<w.1.size->¬iW φ st cb->w'.1[cb]?=w.1[cb]?
 ownd:∀cb,cb<w.1.size->iW φ' st' cb->iW φ st cb
 shape:∀(cb:Nat) (cells:Array Value) (t:TypeId) (fz:Nat × Nat),w.1[cb]?=some (.cells cells t fz)->∃cells':Array Value,w'.1[cb]?=some (.cells cells' t fz)/\cells'.size=cells.size
 len:st.length<=st'.length
 aux:w'.tape=w.tape/\w'.os=w.os/\w'.output=w.output
structure Ext (φ:cO) (st:St) (w:World) (φ':cO) (st':St) (w':World):Prop extends Ext0 φ st w φ' st' w' where
 old:∀b,b<st.length->φ' b=φ b
theorem Ext0.refl (φ:cO) (st:St) (w:World):Ext0 φ st w φ st w:=
 ⟨λ_ _ h=>h,tE _,λ_ _ _=>rfl,λ_ _ h=>h,λ_ cells _ _ h=>⟨cells,h,rfl⟩,tE _,rfl,rfl,rfl⟩
theorem Ext.refl (φ:cO) (st:St) (w:World):Ext φ st w φ st w:=⟨Ext0.refl φ st w,λ_ _=>rfl⟩
theorem Ext0.trans {φ φ' φ'':cO} {st c d:St} {w w' e:World} (h:Ext0 φ st w φ' c w') (a:Ext0 φ' c w' φ'' d e):Ext0 φ st w φ'' d e where
 phi b x hb:=a.phi b x<|h.phi b x hb
 size:=vD h.size a.size
 keep cb hlt ho:=by rw[a.keep cb (tO hlt h.size) λo=>ho<|h.ownd cb hlt o,h.keep cb hlt ho]
 ownd cb hlt o:=h.ownd cb hlt<|a.ownd cb (tO hlt h.size) o
 shape cb cells t fz hc:=by obtain⟨f,k,i⟩:=h.shape cb cells t fz hc;obtain⟨g,l,j⟩:=a.shape cb f t fz k;exact⟨g,l,j.trans i⟩
 len:=vD h.len a.len
 aux:=⟨a.aux.1.trans h.aux.1,a.aux.2.1.trans h.aux.2.1,a.aux.2.2.trans h.aux.2.2⟩
theorem Ext.trans {φ φ' φ'':cO} {st d e:St} {w w' f:World} (h:Ext φ st w φ' d w') (a:Ext φ' d w' φ'' e f):Ext φ st w φ'' e f:=
 ⟨h.toExt0.trans a.toExt0,λb c=>by rw[a.old b<|tO c h.len,h.old b c]⟩
theorem cell?_of_heap {w w':World} {cb:Nat} (h:w'.1[cb]?=w.1[cb]?) (o:Nat):w'.cell? ⟨cb,o,none⟩=w.cell? ⟨cb,o,none⟩:=by simp only[World.cell?,h]
theorem lt_of_cell? {w:World} {cb o:Nat} {v:Value} (h:w.cell? ⟨cb,o,none⟩=some v):cb<w.1.size:=by
 simp only[World.cell?] at h
 rcases tH cb w.1.size with a | a
 .exact a
 simp[tT a] at h
structure Goes (B:Nat->Prop) (w:World) (B':Nat->Prop) (w':World):Prop where
 keep:∀(cb:Nat),cb<w.1.size->¬B cb->¬B' cb/\w'.1[cb]?=w.1[cb]?
 size:w.1.size<=w'.1.size
 shape:∀(cb:Nat) (cells:Array Value) (t:TypeId) (fz:Nat × Nat),w.1[cb]?=some (.cells cells t fz)->∃cells':Array Value,w'.1[cb]?=some (.cells cells' t fz)/\cells'.size=cells.size
theorem VRel.mono {B r:Nat->Prop} {w w':World} (g:Goes B w r w') {φ:cO} {v:AV} {u:Value} (h:VRel B w φ v u):
  ∀{φ':cO},(∀b x,φ b=some x->φ' b=some x)->VRel r w' φ' v u:=by
 induction h with
 | bool b=>intro φ' _;exact .bool b
 | int k n=>intro φ' _;exact .int k n
 | str l=>intro φ' _;exact .str l
 | nilptr=>intro φ' _;exact .nilptr
 | ptr h=>intro φ' d;exact .ptr<|d _ _ h
 | iptr vs hb hl hc f ih=>intro φ' _;obtain⟨o,q⟩:=g.keep _ hl hb;exact .iptr vs o (tO hl g.size) (λj c m=>by rw[cell?_of_heap q];exact hc j c m) λj c m=>ih j c m λ_ _ h=>h
 | nilsl=>intro φ' _;exact .nilsl
 | sl h ho hl i hg=>intro φ' d;refine .sl (d _ _ h) ho hl i λA e=>(hg A e).imp id λ⟨cells,t,y,o,q⟩=>?_;obtain⟨s,z,D⟩:=g.shape _ _ _ _ o;exact⟨s,t,y,z,by omega⟩
 | isl vs i hl hb hc f ih=>
  rename_i cs C a ccap;intro φ' _;refine .isl vs i hl (λp=>?_) (λj c m=>?_) λj c m=>ih j c m λ_ _ h=>h
  .cases cs with
   | nil=>exact absurd rfl p
   | cons c cs=>exact⟨(g.keep _ (lt_of_cell?<|hc 0 c rfl) (hb p).1).1,(hb p).2⟩
  have p:cs≠[]:=λe=>(by subst e;simp at m);rw[cell?_of_heap (g.keep _ (lt_of_cell?<|hc j c m) (hb p).1).2];exact hc j c m
 | nilmap=>intro φ' _;exact .nilmap
 | map h=>intro φ' d;exact .map<|d _ _ h
 | func ha hc hav hcv iha ihc=>intro φ' d;exact .func ha hc (λj x v i f=>iha j x v i f d) λj x v i f=>ihc j x v i f d
 | yld h=>intro φ' d;exact .yld<|d _ _ h
 | nilfn=>intro φ' _;exact .nilfn
 | iface h ih=>intro φ' d;exact .iface<|ih d
 | nilif=>intro φ' _;exact .nilif
 | agg hl f ih=>intro φ' d;exact .agg hl λj x v i f=>ih j x v i f d
 | tup hl f ih=>intro φ' d;exact .tup hl λj x v i f=>ih j x v i f d
 | unk u=>intro φ' _;exact .unk u
 | oint o q=>intro φ' _;exact .oint o q
 | ostr h=>intro φ' _;exact .ostr h
theorem LRel.mono {B a:Nat->Prop} {w w':World} (g:Goes B w a w') {φ φ':cO} (c:∀b x,φ b=some x->φ' b=some x) {l:List AV} {vs:List Value}
 (h:LRel B w φ l vs):LRel a w' φ' l vs:=⟨h.1,λj x v e d=>(h.2 j x v e d).mono g c⟩
theorem Ext0.goes {F:Nat->Prop} {φ φ':cO} {st a:St} {w w':World} (h:Ext0 φ st w φ' a w'):Goes (Bd F φ st) w (Bd F φ' a) w' where
 keep cb hlt hb:=⟨λb=>b.elim (λc=>hb<|.inl c) λo=>hb<|.inr<|h.ownd cb hlt o,h.keep cb hlt λo=>hb<|.inr o⟩
 size:=h.size
 shape:=h.shape
theorem Ext0.val {F:Nat->Prop} {φ φ':cO} {st a:St} {w w':World} (h:Ext0 φ st w φ' a w') {v:AV} {u:Value} (b:VRel (Bd F φ st) w φ v u):
 VRel (Bd F φ' a) w' φ' v u:=b.mono h.goes h.phi
theorem Ext0.list {F:Nat->Prop} {φ φ':cO} {st a:St} {w w':World} (h:Ext0 φ st w φ' a w') {l:List AV} {vs:List Value} (b:LRel (Bd F φ st) w φ l vs):
 LRel (Bd F φ' a) w' φ' l vs:=b.mono h.goes h.phi
theorem ORel.other {P:Program} {B q:Nat->Prop} {w w':World} (g:Goes B w q w') {φ φ':cO} (l:∀b x,φ b=some x->φ' b=some x) {cb co:Nat} {ab:AB}
  (k:w'.1[cb]?=w.1[cb]?) (K:jK ab=false->cb<w.1.size) (h:ORel P B w φ cb co ab):ORel P q w' φ' cb co ab:=by
 cases ab with
 | own cs=>obtain⟨cells,t,f,i⟩:=h;exact⟨cells,t,k ▸ f,λj c p=>let ⟨v,e,r⟩:=i j c p;⟨v,e,r.mono g l⟩⟩
 | frz cs=>obtain⟨o,cells,t,z,f,i⟩:=h;exact⟨(g.keep cb (K rfl) o).1,cells,t,z,k ▸ f,λj c p=>let ⟨v,e,r⟩:=i j c p;⟨v,e,r.mono g λ_ _ h=>h⟩⟩
 | dead=>trivial
 | map es clock=>obtain⟨ces,f,i,n⟩:=h;exact⟨ces,k ▸ f,i,λj e c N M=>let ⟨a,b,d⟩:=n j e c N M;⟨a.mono g l,b.mono g l,d⟩⟩
 | iter m since seen stepped=>obtain⟨A,u,f,i,n⟩:=h;exact⟨A,u,k ▸ f,i,λb o=>let ⟨x,y,e,r⟩:=n b o;⟨x,y,e,l _ _ r⟩⟩
 | loop L=>obtain⟨s,f,i,n,C,D,G,H,⟨y,I⟩,J⟩:=h;exact⟨s,k ▸ f,i,n,C,D,G,H.mono g l,⟨y,l _ _ I⟩,J⟩
 | defd taken=>exact k.trans h
def bN (w:World) (o:Obj):World:={ w with heap:=w.1.push o }
theorem IB (w:World) (o:Obj) {cb:Nat} (h:cb<w.1.size):(bN w o).1[cb]?=w.1[cb]?:=by simp[bN,vE,vW h]
theorem BB (w:World) (o:Obj):(bN w o).1[w.1.size]?=some o:=by simp[bN]
theorem DR {w:World} {cb:Nat} {o:Obj} (h:w.1[cb]?=some o):cb<w.1.size:=by
 rcases tH cb w.1.size with a | a
 .exact a
 simp[tT a] at h
def bZ (w:World) (cb:Nat) (o:Obj):World:={ w with heap:=w.1.setIfInBounds cb o }
theorem zx {w:World} {cb:Nat} {o o':Obj} (h:w.1[cb]?=some o):(bZ w cb o').1[cb]?=some o':=by simp[bZ,DR h]
theorem EX (w:World) {cb x:Nat} (o:Obj) (h:cb≠x):(bZ w cb o).1[x]?=w.1[x]?:=by simp[bZ,h]
def bJ (φ:cO) (b cb co:Nat):cO:=λx=>if x=b then some (cb,co) else φ x
theorem BC {φ:cO} {b cb co:Nat} (h:φ b=none):∀x y,φ x=some y->bJ φ b cb co x=some y:=by
 intro x y a;unfold bJ;split
 .rename_i e;subst e;rw[h] at a;cases a
 exact a
section
variable {E:Env} {F:Nat->Prop} {φ:cO} {st:St} {w:World}
theorem Sess.fresh (h:Sess E F φ st w) {b:Nat} (a:st.length<=b):φ b=none:=by
 cases e:φ b with
 | none=>rfl
 | some x=>have:=(h.lt b x.1 x.2 e).2;omega
theorem EY {st:St} {ab x:AB} {b:Nat} (h:(st++[ab])[b]?=some x):(b<st.length/\st[b]?=some x)\/(b=st.length/\x=ab):=by
 rcases Nat.lt_trichotomy b st.length with a | a | a
 .exact .inl ⟨a,by rwa [tI a] at h⟩
 .subst a;simp at h;exact .inr ⟨rfl,h.symm⟩
 rw[tF<|by simp;omega] at h;cases h
theorem iZ {α:Type} {l:List α} {i:Nat} {x:α} (h:l[i]?=some x):i<l.length:=by
 rcases tH i l.length with a | a
 .exact a
 simp[tF a] at h
theorem IC (e:φ st.length=none) (ab:AB) (cb:Nat):iW φ (st++[ab]) cb↔iW φ st cb:=by
 constructor
 .rintro⟨b,x,co,c,d,a⟩
  rcases EY c with⟨_,h⟩ | ⟨rfl,_⟩
  .exact⟨b,x,co,h,d,a⟩
  rw[e] at a;cases a
 rintro⟨b,x,co,c,d,a⟩;exact⟨b,x,co,by rw[tI<|iZ c];exact c,d,a⟩
theorem Sess.ghost (h:Sess E F φ st w) (ab:AB):Sess E F φ (st++[ab]) w/\Ext φ st w φ (st++[ab]) w:=by
 have a:=h.fresh<|tE st.length;have d:=IC a ab;have e:Bd F φ (st++[ab])=Bd F φ st:=funext λcb=>by simp only[Bd,d]
 refine⟨⟨?_,?_,?_,?_,?_⟩,⟨⟨λ_ _ h=>h,tE _,λ_ _ _=>rfl,λcb _ o=>(d cb).1 o,λ_ c _ _ h=>⟨c,h,rfl⟩,by simp,rfl,rfl,rfl⟩,λ_ _=>rfl⟩⟩
 .intro b x cb co h1 h2;rw[e]
  rcases EY h1 with⟨_,h3⟩ | ⟨rfl,_⟩
  .exact h.blk b x cb co h3 h2
  rw[a] at h2;cases h2
 .intro b b' x x' cb co co' h1 h2 h3 h4 h5 h6
  rcases EY h1 with⟨_,h1⟩ | ⟨rfl,_⟩
  .rcases EY h3 with⟨_,h3⟩ | ⟨rfl,_⟩
   .exact h.inj b b' x x' cb co co' h1 h2 h3 h4 h5 h6
   rw[a] at h6;cases h6
  rw[a] at h5;cases h5
 .intro b cb co hb;have:=h.lt b cb co hb;exact⟨this.1,by simp;omega⟩
 .rw[e];exact h.glob
 intro cb a;exact⟨(h.fout cb a).1,λo=>(h.fout cb a).2<|(d cb).1 o⟩
theorem Sess.realize0 (h:Sess E F φ st w) {b:Nat} {ab:AB} (r:st[b]?=some ab) (m:φ b=none) (o:Obj)
  (z:Goes (Bd F φ st) w (Bd F (bJ φ b w.1.size 0) st) (bN w o)->ORel E.P (Bd F (bJ φ b w.1.size 0) st) (bN w o) (bJ φ b w.1.size 0) w.1.size 0 ab):
  Sess E F (bJ φ b w.1.size 0) st (bN w o)/\Ext0 φ st w (bJ φ b w.1.size 0) st (bN w o):=by
 have v:=BC (cb:=w.1.size) (co:=0) m
 have y:∀cb,iW (bJ φ b w.1.size 0) st cb->cb<w.1.size->iW φ st cb:=by
  rintro cb ⟨x,k,co,f,j,a⟩ i;unfold bJ at a;split at a
  .simp at a;omega
  exact⟨x,k,co,f,j,a⟩
 have u:Ext0 φ st w (bJ φ b w.1.size 0) st (bN w o):=
  ⟨v,by simp[bN],λcb i _=>IB w o i,λcb i p=>y cb p i,
   λcb c t A s=>⟨c,by rw[IB w o<|DR s];exact s,rfl⟩,tE _,rfl,rfl,rfl⟩
 have g:=u.goes (F:=F);refine⟨⟨?_,?_,?_,?_,?_⟩,u⟩
 .intro x k cb co f j;by_cases d:x=b
  .subst d;rw[r] at f;cases f;have:cb=w.1.size/\co=0:=(by simp[bJ] at j;omega);obtain⟨rfl,rfl⟩:=this;exact z g
  have a:φ x=some (cb,co):=(by simpa [bJ,d] using j);have i:=(h.lt x cb co a).1;exact(h.blk x k cb co f a).other g v (IB w o i) (λ_=>i)
 .intro x x' k ax' cb co co' f j a h4 h5 h6;by_cases d:x=b
  .by_cases n:x'=b
   .rw[d,n]
   subst d;have l:cb=w.1.size:=(by simp[bJ] at h5;omega);have q:φ x'=some (cb,co'):=(by simpa [bJ,n] using h6);have:=(h.lt x' cb co' q).1;omega
  have l:φ x=some (cb,co):=(by simpa [bJ,d] using h5);by_cases n:x'=b
  .subst n;have q:cb=w.1.size:=(by simp[bJ] at h6;omega);have:=(h.lt x cb co l).1;omega
  exact h.inj x x' k ax' cb co co' f j a h4 l<|by simpa [bJ,n] using h6
 .intro x cb co d;by_cases e:x=b
  .subst e;have l:cb=w.1.size:=(by simp[bJ] at d;omega);exact⟨by simp[bN,l],iZ r⟩
  have:=h.lt x cb co (by simpa [bJ,e] using d);exact⟨by simp[bN];omega,this.2⟩
 .intro gl cs hg;exact(h.glob gl cs hg).mono g (λ_ _ h=>h)
 intro cb m;exact⟨by have:=(h.fout cb m).1;simp[bN];omega,λp=>(h.fout cb m).2<|y cb p (h.fout cb m).1⟩
theorem Sess.realize (h:Sess E F φ st w) {b:Nat} {ab:AB} (c:st[b]?=some ab) (_hl:jK ab=true) (d:φ b=none) (o:Obj)
 (e:∀a,Goes (Bd F φ st) w a (bN w o)->ORel E.P a (bN w o) (bJ φ b w.1.size 0) w.1.size 0 ab):
 Sess E F (bJ φ b w.1.size 0) st (bN w o)/\Ext0 φ st w (bJ φ b w.1.size 0) st (bN w o):=h.realize0 c d o<|e _
theorem Sess.realizeF (h:Sess E F φ st w) {b:Nat} {cs:List AV} (i:st[b]?=some (.frz cs)) (k:φ b=none) (cells:Array Value) (t:TypeId) (d:Nat × Nat)
  (l:∀(j:Nat) c,cs[j]?=some c->∃v,cells[j]?=some v/\VRel (Bd F φ st) w cP c v):
  Sess E F (bJ φ b w.1.size 0) st (bN w<|.cells cells t d)/\Ext0 φ st w (bJ φ b w.1.size 0) st (bN w<|.cells cells t d):=by
 refine h.realize0 i k _ λg=>⟨?_,cells,t,d,BB w _,λj c m=>?_⟩
 .rintro(hF | ⟨x,ax,co,a,f,h3⟩)
  .have:=(h.fout _ hF).1;omega
  by_cases e:x=b
  .subst e;rw[i] at a;cases a;cases f
  have:=(h.lt x w.1.size co<|by simpa [bJ,e] using h3).1;omega
 obtain⟨v,a,f⟩:=l j c m;exact⟨v,by simpa using a,f.mono g λ_ _ h=>h⟩
theorem ID {φ':cO} {ab:AB} {w':World} {cb co:Nat} (a:Ext φ st w φ (st++[ab]) w) (c:Ext0 φ (st++[ab]) w (bJ φ st.length cb co) (st++[ab]) w') (e:φ'=bJ φ st.length cb co):
  Ext φ st w φ' (st++[ab]) w':=by
 subst e;exact⟨a.toExt0.trans c,λb d=>by simp[bJ,vW d]⟩
theorem Sess.change (h:Sess E F φ st w) {b:Nat} {ab ab':AB} (k:st[b]?=some ab) (n:jK ab=true) (P:jK ab'=true) {cb co:Nat} (q:φ b=some (cb,co))
  {o':Obj} (S:∀(cells:Array Value) (t:TypeId) (p:Nat × Nat),w.1[cb]?=some (.cells cells t p)->∃y:Array Value,o'=.cells y t p/\y.size=cells.size)
  (N:ORel E.P (Bd F φ st) (bZ w cb o') φ cb co ab'):
  Sess E F φ (st.set b ab') (bZ w cb o')/\Ext φ st w φ (st.set b ab') (bZ w cb o'):=by
 have Q:=(h.lt b cb co q).1;have L:∃o,w.1[cb]?=some o:=⟨w.1[cb],tK Q⟩;obtain⟨o,D⟩:=L
 have m:∀(x:Nat) a,(st.set b ab')[x]?=some a->(x=b/\a=ab')\/(x≠b/\st[x]?=some a):=by
  intro x a l;rw[tQ] at l;by_cases e:b=x
  .subst e;simp[iZ k] at l;exact .inl ⟨rfl,l.symm⟩
  simp[e] at l;exact .inr ⟨λr=>e r.symm,l⟩
 have v:∀c,iW φ (st.set b ab') c↔iW φ st c:=by
  intro c;constructor
  .rintro⟨x,a,i,d,f,j⟩
   rcases m x a d with⟨rfl,rfl⟩ | ⟨_,d⟩
   .exact⟨x,ab,i,k,n,j⟩
   exact⟨x,a,i,d,f,j⟩
  rintro⟨x,a,i,d,f,j⟩;by_cases e:x=b
  .subst e;exact⟨x,ab',i,by simp[iZ k],P,j⟩
  exact⟨x,a,i,by rw[vk λr=>e r.symm];exact d,f,j⟩
 have s:Bd F φ (st.set b ab')=Bd F φ st:=funext λc=>by simp only[Bd,v]
 have G:iW φ st cb:=⟨b,ab,co,k,n,q⟩
 have A:Ext φ st w φ (st.set b ab') (bZ w cb o'):=by
  refine⟨⟨λ_ _ h=>h,by simp[bZ],λc _ R=>EX w o' λe=>R<|e ▸ G,λc _ D=>(v c).1 D,λc cells t p u=>?_,by simp,rfl,rfl,rfl⟩,λ_ _=>rfl⟩;by_cases e:cb=c
  .subst e;obtain⟨H,I,J⟩:=S cells t p u;exact⟨H,by rw[zx u,I],J⟩
  exact⟨cells,by rw[EX w o' e];exact u,rfl⟩
 have g:Goes (Bd F φ st) w (Bd F φ st) (bZ w cb o'):=by have:=A.goes (F:=F);rwa [s] at this
 refine⟨⟨?_,?_,?_,?_,?_⟩,A⟩
 .intro x a c i d f;rw[s]
  rcases m x a d with⟨rfl,rfl⟩ | ⟨hne,d⟩
  .rw[q] at f;cases f;exact N
  by_cases e:cb=c
  .subst e
   cases C:jK a with
   | true=>exact absurd (h.inj x b a ab cb i co d C k n f q) hne
   | false=>
    cases a with
    | dead=>trivial
    | frz cs=>exact absurd (.inr G) (h.blk x _ cb i d f).1
    | _=>cases C
  exact(h.blk x a c i d f).other g (λ_ _ h=>h) (EX w o' e) (λ_=>(h.lt x c i f).1)
 .intro x x' a ax' c c1 c2 d f j h4 h5 h6
  rcases m x a d with⟨rfl,rfl⟩ | ⟨_,h1''⟩
  .rcases m x' ax' j with⟨rfl,rfl⟩ | ⟨_,j⟩
   .rfl
   exact h.inj x x' ab ax' c c1 c2 k n j h4 h5 h6
  have z:=h1''
  rcases m x' ax' j with⟨rfl,rfl⟩ | ⟨_,j⟩
  .exact h.inj x x' a ab c c1 c2 z f k n h5 h6
  exact h.inj x x' a ax' c c1 c2 z f j h4 h5 h6
 .intro x c i l;have:=h.lt x c i l;simpa [bZ] using this
 .rw[s];intro K cs O;exact(h.glob K cs O).mono g (λ_ _ h=>h)
 intro c M;have:=h.fout c M;exact⟨by simpa [bZ] using this.1,λo=>this.2<|(v c).1 o⟩
theorem Sess.retire (h:Sess E F φ st w) {b:Nat} {ab ab':AB} (s:st[b]?=some ab) (_hl:jK ab=true) (m:jK ab'=false)
  (t:∀cb co,φ b=some (cb,co)->ORel E.P (Bd F φ<|st.set b ab') w φ cb co ab'):
  Sess E F φ (st.set b ab') w/\Ext φ st w φ (st.set b ab') w:=by
 have l:∀(x:Nat) a,(st.set b ab')[x]?=some a->(x=b/\a=ab')\/(x≠b/\st[x]?=some a):=by
  intro x a j;rw[tQ] at j;by_cases e:b=x
  .subst e;simp[iZ s] at j;exact .inl ⟨rfl,j.symm⟩
  simp[e] at j;exact .inr ⟨λr=>e r.symm,j⟩
 have q:∀c,iW φ (st.set b ab') c->iW φ st c:=by
  rintro c ⟨x,a,i,d,f,k⟩
  rcases l x a d with⟨rfl,rfl⟩ | ⟨_,d⟩
  .rw[m] at f;cases f
  exact⟨x,a,i,d,f,k⟩
 have n:Ext φ st w φ (st.set b ab') w:=
  ⟨⟨λ_ _ h=>h,tE _,λ_ _ _=>rfl,λc _ o=>q c o,λ_ c _ _ h=>⟨c,h,rfl⟩,by simp,rfl,rfl,rfl⟩,λ_ _=>rfl⟩
 have g:=n.goes (F:=F);refine⟨⟨?_,?_,?_,?_,?_⟩,n⟩
 .intro x a c i d f
  rcases l x a d with⟨rfl,rfl⟩ | ⟨_,d⟩
  .exact t c i f
  exact(h.blk x a c i d f).other g (λ_ _ h=>h) rfl (λ_=>(h.lt x c i f).1)
 .intro x x' a ax' c c1 c2 d f k h4 h5 h6
  rcases l x a d with⟨rfl,rfl⟩ | ⟨_,d⟩
  .rw[m] at f;cases f
  rcases l x' ax' k with⟨rfl,rfl⟩ | ⟨_,k⟩
  .rw[m] at h4;cases h4
  exact h.inj x x' a ax' c c1 c2 d f k h4 h5 h6
 .intro x c i j;have:=h.lt x c i j;simpa using this
 .intro gl cs hg;exact(h.glob gl cs hg).mono g (λ_ _ h=>h)
 intro c p;exact⟨(h.fout c p).1,λo=>(h.fout c p).2<|q c o⟩
theorem Sess.same_heap {w':World} (h:Sess E F φ st w) (a:w'.1=w.1) (d:w'.tape=w.tape/\w'.os=w.os/\w'.output=w.output):
  Sess E F φ st w'/\Ext φ st w φ st w':=by
 have f:Ext φ st w φ st w':=⟨⟨λ_ _ h=>h,by rw[a];exact tE _,λ_ _ _=>by rw[a],λ_ _ o=>o,λcb c t p l=>⟨c,by rw[a];exact l,rfl⟩,tE _,d.1,d.2.1,d.2.2⟩,λ_ _=>rfl⟩;have g:=f.goes (F:=F)
 exact⟨⟨λb ab cb co j e=>(h.blk b ab cb co j e).other g (λ_ _ h=>h) (by rw[a]) λ_=>(h.lt b cb co e).1,h.inj,
  λb cb co k=>by rw[a];exact h.lt b cb co k,λi cs n=>(h.glob i cs n).mono g λ_ _ h=>h,λcb m=>by rw[a];exact h.fout cb m⟩,f⟩
end
