import Derived.Test.YthcfmhgihcjloaaGreatDoorGxC
import Derived.Lib.Bytealg
import Derived.Orders
namespace Go.Proofs.YthcfmhgihcjloaaGreatDoor.Gx
open Go
def cF (fn:FuncId) (kd:CallKind) (ro:Option Nat) (tmps:Array Value) (df:List Deferred) (todo:List Item):Frame:=
 { fn,tmps,todo,defers:=df,mode:=.run,kind:=kd,roundOf:=ro }
def i1 (tmps:Array Value) (dst:Option Tmp) (v:Value):Array Value:=
 match dst with
 | some d=>tmps.setIfInBounds d v
 | none=>tmps
section
variable {P:Program} {fn:FuncId} {kd:CallKind} {ro:Option Nat} {tmps:Array Value} {df:List Deferred} {k:List Item} {cs:List Frame} {w:World}
theorem IS (a:List Item):(cF fn kd ro tmps df a).eval=bR tmps:=by funext x;cases x<;>rfl
theorem zT:step P (lone (cF fn kd ro tmps df (.code .skip::k)) cs w)=.next (lone (cF fn kd ro tmps df k) cs w):=step_lone_go<|by simp[stepG,stepG.exec,cF]
theorem O5 {id:Nat}:step P (lone (cF fn kd ro tmps df (.inBlock id::k)) cs w)=.next (lone (cF fn kd ro tmps df k) cs w):=step_lone_go<|by simp[stepG,stepG.exec,cF]
theorem CR {x y:Code}:step P (lone (cF fn kd ro tmps df (.code (.seq x y)::k)) cs w)=.next (lone (cF fn kd ro tmps df (.code x::.code y::k)) cs w):=step_lone_go<|by simp[stepG,stepG.exec,cF]
theorem xe {id:Nat} {c:Code}:step P (lone (cF fn kd ro tmps df (.code (.block id c)::k)) cs w)=.next (lone (cF fn kd ro tmps df (.code c::.inBlock id::k)) cs w):=step_lone_go<|by simp[stepG,stepG.exec,cF]
theorem zU {c:Code}:step P (lone (cF fn kd ro tmps df (.code (.loop c)::k)) cs w)=.next (lone (cF fn kd ro tmps df (.code c::.inLoop c::k)) cs w):=step_lone_go<|by simp[stepG,stepG.exec,cF]
theorem O6 {c:Code}:step P (lone (cF fn kd ro tmps df (.inLoop c::k)) cs w)=.next (lone (cF fn kd ro tmps df (.code c::.inLoop c::k)) cs w):=step_lone_go<|by simp[stepG,stepG.exec,cF]
theorem Lg {c:Operand} {x y:Code} {t:Bool} (h:bR tmps c=.bool t):
  step P (lone (cF fn kd ro tmps df (.code (.cond c x y)::k)) cs w)=.next (lone (cF fn kd ro tmps df (.code (if t then x else y)::k)) cs w):=
 step_lone_go (by
  have:=congrFun (IS (fn:=fn) (kd:=kd) (ro:=ro) (tmps:=tmps) (df:=df) (.code (.cond c x y)::k)) c;simp only[cF] at this
  simp[stepG,stepG.exec,cF,this,h])
theorem zV {id:Nat} {a:List Item} (h:exitTo id k=some a):step P (lone (cF fn kd ro tmps df (.code (.exit id)::k)) cs w)=.next (lone (cF fn kd ro tmps df a) cs w):=
 step_lone_go (by simp[stepG,stepG.exec,cF,h])
theorem O7 {id:Nat} {ops:Array Oper}:step P (lone (cF fn kd ro tmps df (.code (.region id ops false)::k)) cs w)=.next (lone (cF fn kd ro tmps df (.inRegion ops (List.range ops.size)::k)) cs w):=
 step_lone_go (by simp[stepG,stepG.exec,cF])
theorem O8 {id:Nat} {ops:Array Oper}:step P (lone (cF fn kd ro tmps df (.code (.region id ops true)::k)) cs w)=
  .next (lone (cF fn kd ro tmps df (.inRegion ops (Region.schedule (P.follows .mixedOrders) ops<|w.tape w.drawn<|.order fn id)::k)) cs { w with drawn:=w.drawn+1 }):=
 step_lone_go (by simp[stepG,stepG.exec,cF,choose,Sem.run,Question.forced,Question.cut])
theorem IT {ops:Array Oper}:step P (lone (cF fn kd ro tmps df (.inRegion ops []::k)) cs w)=.next (lone (cF fn kd ro tmps df k) cs w):=step_lone_go<|by simp[stepG,stepG.exec,cF]
theorem CS {ops:Array Oper} {i:Nat} {rest:List Nat} {o:Oper} (a:ops[i]?=some o) (v:Value):
  (cF fn kd ro tmps df (.inRegion ops (i::rest)::k)).finish v=cF fn kd ro (i1 tmps o.dst v) df (.inRegion ops rest::k):=by
 simp only[Frame.finish,cF,a,Option.bind_some,i1];cases o.dst<;>rfl
theorem Lh {ops:Array Oper} {i:Nat} {rest:List Nat} {o:Oper} (a:ops[i]?=some o) (b:Region.wanted o (yielded ops tmps)=false):
  step P (lone (cF fn kd ro tmps df (.inRegion ops (i::rest)::k)) cs w)=.next (lone (cF fn kd ro (i1 tmps o.dst undef) df (.inRegion ops rest::k)) cs w):=by
 rw[<-CS a];exact step_lone_go<|by simp[stepG,stepG.exec,cF,a,b]
theorem CT {ops:Array Oper} {i:Nat} {rest:List Nat} {o:Oper} (d:ops[i]?=some o) (e:Region.wanted o (yielded ops tmps)=true) (a:ro=none\/∀c,o.op≠.defer c):
  stepG P true { frame:=cF fn kd ro tmps df (.inRegion ops (i::rest)::k),callers:=cs,status:=.running,dying:=none } w=
   stepG.apply P true (cF fn kd ro tmps df (.inRegion ops (i::rest)::k)) cs none (execOp (bR tmps) o) w:=by
 have b:=IS (fn:=fn) (kd:=kd) (ro:=ro) (tmps:=tmps) (df:=df) (.inRegion ops (i::rest)::k);simp only[cF] at b
 cases ro with
 | none=>simp[stepG,stepG.exec,stepG.oper,Frame.oper?,cF,d,e,b]
 | some l=>
  have a:=a.resolve_left (by simp);simp only[stepG,stepG.exec,stepG.oper,Frame.oper?,cF,d,e,vP,vN,if_true]
  cases f:o.op<;>first | exact absurd f (a _) | simp[b]
theorem E5 {ops:Array Oper} {i:Nat} {rest:List Nat} {o:Oper} {v:Value} {w':World} (a:ops[i]?=some o) (e:Region.wanted o (yielded ops tmps)=true) (b:ro=none\/∀c,o.op≠.defer c)
  (d:(execOp (bR tmps) o).run P w=.ok (.value v) w'):
  step P (lone (cF fn kd ro tmps df (.inRegion ops (i::rest)::k)) cs w)=.next (lone (cF fn kd ro (i1 tmps o.dst v) df (.inRegion ops rest::k)) cs w'):=by
 rw[<-CS a];exact step_lone_go<|by rw[CT a e b];simp[stepG.apply,d]
theorem O9 {ops:Array Oper} {i:Nat} {rest:List Nat} {o:Oper} {w':World} (a:ops[i]?=some o) (e:Region.wanted o (yielded ops tmps)=true) (b:ro=none\/∀c,o.op≠.defer c)
  (d:(execOp (bR tmps) o).run P w=.ok .skip w'):
  step P (lone (cF fn kd ro tmps df (.inRegion ops (i::rest)::k)) cs w)=.next (lone (cF fn kd ro (i1 tmps o.dst undef) df (.inRegion ops rest::k)) cs w'):=by
 rw[<-CS a];exact step_lone_go<|by rw[CT a e b];simp[stepG.apply,d]
theorem O' {ops:Array Oper} {i:Nat} {rest:List Nat} {o:Oper} {d:Deferred} {w':World} (a:ops[i]?=some o) (c:Region.wanted o (yielded ops tmps)=true)
  (b:(execOp (bR tmps) o).run P w=.ok (.defer d) w'):
  step P (lone (cF fn kd none tmps df (.inRegion ops (i::rest)::k)) cs w)=.next (lone (cF fn kd none (i1 tmps o.dst undef) (d::df) (.inRegion ops rest::k)) cs w'):=by
 have:=CS (fn:=fn) (kd:=kd) (ro:=none) (tmps:=tmps) (df:=d::df) (k:=k) (rest:=rest) a undef;rw[<-this];exact step_lone_go<|by rw[CT a c<|.inl rfl];simp[stepG.apply,b,cF]
theorem Pa {ops:Array Oper} {i:Nat} {rest:List Nat} {o:Oper} {v:Value} {w':World} (b:ops[i]?=some o) (e:Region.wanted o (yielded ops tmps)=true) (a:ro=none\/∀c,o.op≠.defer c)
  (d:(execOp (bR tmps) o).run P w=.halt (.panic v) w'):
  step P (lone (cF fn kd ro tmps df (.inRegion ops (i::rest)::k)) cs w)=
   .next (lone { cF fn kd ro tmps df (.inRegion ops (i::rest)::k) with mode:=.panicking [{ v,recovered:=false }] } cs w'):=
 step_lone_go (by rw[CT b e a];simp[stepG.apply,d,Frame.raise,cF])
def eP (P:Program):Next->Option Frame
 | .enter f args=>some<|Frame.enter P f args .normal
 | .round l f tmps assign body=>some<|Frame.round l f tmps assign body .normal
 | _=>none
theorem Li {ops:Array Oper} {i:Nat} {rest:List Nat} {o:Oper} {nx:Next} {fr:Frame} {w':World} (d:ops[i]?=some o) (f:Region.wanted o (yielded ops tmps)=true) (b:ro=none\/∀c,o.op≠.defer c)
  (e:(execOp (bR tmps) o).run P w=.ok nx w') (a:eP P nx=some fr):
  step P (lone (cF fn kd ro tmps df (.inRegion ops (i::rest)::k)) cs w)=.next (lone fr (cF fn kd ro tmps df (.inRegion ops (i::rest)::k)::cs) w'):=by
 refine step_lone_go ?_;rw[CT d f b];cases nx<;>simp[eP] at a<;>subst a<;>simp[stepG.apply,e,cF]
end
inductive All2 {α β:Type} (R:α->β->Prop):List α->List β->Prop
 | nil:All2 R [] []
 | cons {a:α} {b:β} {l:List α} {m:List β}:R a b->All2 R l m->All2 R (a::l) (b::m)
theorem All2.mono {α β:Type} {R S:α->β->Prop} (h:∀a b,R a b->S a b) {l:List α} {m:List β} (d:All2 R l m):All2 S l m:=by
 induction d with
 | nil=>exact .nil
 | cons c _ e=>exact .cons (h _ _ c) e
theorem All2.append {α β:Type} {R:α->β->Prop} {l a:List α} {m b:List β} (h:All2 R l m) (c:All2 R a b):All2 R (l++a) (m++b):=by
 induction h with
 | nil=>exact c
 | cons d _ e=>exact .cons d e
def PRelC (B:Nat->Prop) (w:World) (φ:cO) (a:APan) (e:PanicEntry):Prop:=VRel B w φ a.v e.v/\e.recovered=a.recovered/\e.goexit=false
def MRel (B:Nat->Prop) (w:World) (φ:cO):AMode->FrameMode->Prop
 | .returning,m=>m=.returning
 | .panicking ch,m=>∃ch',m=.panicking ch'/\All2 (PRelC B w φ) ch ch'
def DRel (B:Nat->Prop) (w:World) (φ:cO):ADef->Deferred->Prop
 | .call fv args,d=>∃g a c,fv=.func g a c/\∃(c' ar:Array Value),d={ target:=.fn (.func g) c',args:=ar }/\LRel B w φ c c'.toList/\LRel B w φ (a++args) ar.toList
 | .coll b,d=>∃cb y,d={ target:=.collected cb,args:=#[] }/\φ b=some (cb,y)
structure FRel (B:Nat->Prop) (w:World) (φ:cO) (fr:Fr) (kd:CallKind) (ro:Option Nat) (tmps:Array Value) (df:List Deferred) (cs:List Frame):Prop where
 tm:LRel B w φ fr.tm tmps.toList
 df:All2 (DRel B w φ) fr.df df
 rc:match fr.rc with
  | none=>kd=.normal
  | some m=>kd=.deferred/\∃c rest,cs=c::rest/\MRel B w φ m c.mode
 ro:match fr.ro with
  | none=>ro=none
  | some l=>∃cl y,ro=some cl/\φ l=some (cl,y)
section
variable {B B':Nat->Prop} {w w':World} {φ φ':cO}
theorem PRelC.mono (g:Goes B w B' w') (c:∀b x,φ b=some x->φ' b=some x) {a:APan} {e:PanicEntry} (h:PRelC B w φ a e):PRelC B' w' φ' a e:=⟨h.1.mono g c,h.2⟩
theorem MRel.mono (g:Goes B w B' w') (e:∀b x,φ b=some x->φ' b=some x) {m:AMode} {u:FrameMode} (h:MRel B w φ m u):MRel B' w' φ' m u:=by
 cases m with
 | returning=>exact h
 | panicking ch=>obtain⟨a,c,d⟩:=h;exact⟨a,c,d.mono λ_ _=>PRelC.mono g e⟩
theorem DRel.mono (g:Goes B w B' w') (j:∀b x,φ b=some x->φ' b=some x) {a:ADef} {d:Deferred} (h:DRel B w φ a d):DRel B' w' φ' a d:=by
 cases a with
 | call fv args=>obtain⟨f,a,c,e,m,l,i,n,o⟩:=h;exact⟨f,a,c,e,m,l,i,n.mono g j,o.mono g j⟩
 | coll b=>obtain⟨cb,y,e,i⟩:=h;exact⟨cb,y,e,j _ _ i⟩
theorem FRel.mono (g:Goes B w B' w') (d:∀b x,φ b=some x->φ' b=some x) {fr:Fr} {kd:CallKind} {ro:Option Nat} {tmps:Array Value} {df:List Deferred} {cs:List Frame}
  (h:FRel B w φ fr kd ro tmps df cs):FRel B' w' φ' fr kd ro tmps df cs where
 tm:=h.tm.mono g d
 df:=h.df.mono λ_ _=>DRel.mono g d
 rc:=by
  have:=h.rc
  cases a:fr.rc with
  | none=>rw[a] at this;exact this
  | some m=>rw[a] at this;obtain⟨e,c,rest,f,j⟩:=this;exact⟨e,c,rest,f,j.mono g d⟩
 ro:=by
  have:=h.ro
  cases a:fr.ro with
  | none=>rw[a] at this;exact this
  | some l=>rw[a] at this;obtain⟨i,y,e,f⟩:=this;exact⟨i,y,e,d _ _ f⟩
theorem Pb (tmps:Array Value) (a:Option Tmp) (v:Value):(i1 tmps a v).toList=(match a with | some d=>tmps.toList.set d v | none=>tmps.toList):=by cases a<;>simp[i1]
theorem FRel.put {fr:Fr} {kd:CallKind} {ro:Option Nat} {tmps:Array Value} {df:List Deferred} {cs:List Frame} (h:FRel B w φ fr kd ro tmps df cs) (a:Option Tmp) {v:AV} {u:Value} (b:VRel B w φ v u):
  FRel B w φ (put fr a v) kd ro (i1 tmps a u) df cs:=by
 obtain⟨tm,c,rc,e⟩:=fr
 cases a with
 | none=>exact h
 | some d=>refine⟨?_,h.df,h.rc,h.ro⟩;rw[Pb];simp only[Gx.put,ip];exact h.tm.set d b
theorem vc (fr:Fr) (a:Option Tmp) (v:AV):(put fr a v).df=fr.df/\(put fr a v).rc=fr.rc/\(put fr a v).ro=fr.ro:=by obtain⟨tm,df,rc,ro⟩:=fr;cases a<;>exact⟨rfl,rfl,rfl⟩
end
def CsLike (kd:CallKind) (cs cs':List Frame):Prop:=cs'=cs\/(kd=.deferred/\∃c rest u,cs=c::rest/\cs'={ c with mode:=u }::rest)
theorem CsLike.refl (kd:CallKind) (cs:List Frame):CsLike kd cs cs:=.inl rfl
theorem CsLike.trans {kd:CallKind} {a b c:List Frame} (h:CsLike kd a b) (d:CsLike kd b c):CsLike kd a c:=by
 rcases h with rfl | ⟨f,x,rest,u,rfl,rfl⟩
 .exact d
 rcases d with rfl | ⟨_,y,i,g,e,rfl⟩
 .exact .inr ⟨f,x,rest,u,rfl,rfl⟩
 simp at e;obtain⟨rfl,rfl⟩:=e;exact .inr ⟨f,x,rest,g,rfl,rfl⟩
end Go.Proofs.YthcfmhgihcjloaaGreatDoor.Gx
namespace Go.Proofs.YthcfmhgihcjloaaGreatDoor.Gx
open Go
def xf (P:Program) (m:Machine) (c:Frame) (cs:List Frame) (B:Nat->Prop) (w:World) (φ:cO):Out->Prop
 | .ret v=>∃u,VRel B w φ v u/\Steps P m (lone (c.finish u) cs w)
 | .pan ch=>∃chain,All2 (PRelC B w φ) ch chain/\Steps P m (lone (c.raise chain) cs w)
def kr (f:Value) (args:Array Value):Sem Next:=do let d <-Deferred.ofValue f args;invoke d.target d.args
def jF (E:Env) (cal:uY):Prop:=
 ∀(fv:AV) (args:List AV) (st:St) (out:Out) (st':St),cal fv args st=some (out,st')->∀(F:Nat->Prop) (φ:cO) (w:World) (uf:Value) (us:Array Value),Sess E F φ st w->
  VRel (Bd F φ st) w φ fv uf->LRel (Bd F φ st) w φ args us.toList->
  ∃nx fr,(kr uf us).run E.P w=.ok nx w/\eP E.P nx=some fr/\
   ∀(c:Frame) (cs:List Frame),∃φ' w',Sess E F φ' st' w'/\Ext φ st w φ' st' w'/\xf E.P (lone fr (c::cs) w) c cs (Bd F φ' st') w' φ' out
section
variable {E:Env} {F:Nat->Prop} {φ:cO} {st:St} {w:World}
def oF (E:Env) (F:Nat->Prop) (φ:cO) (st:St) (w:World) (tmps:Array Value) (o:Oper):EO->Prop
 | .val v st'=>∀(fn:FuncId) (kd:CallKind) (ro:Option Nat) (df:List Deferred) (k:List Item) (cs:List Frame) (ops:Array Oper) (i:Nat) (rest:List Nat),ops[i]?=some o->
  Region.wanted o (yielded ops tmps)=true->∃φ' w' u,Sess E F φ' st' w'/\Ext φ st w φ' st' w'/\VRel (Bd F φ' st') w' φ' v u/\
   Steps E.P (lone (cF fn kd ro tmps df (.inRegion ops (i::rest)::k)) cs w) (lone (cF fn kd ro (i1 tmps o.dst u) df (.inRegion ops rest::k)) cs w')
 | .pan ch st'=>∀(fn:FuncId) (kd:CallKind) (ro:Option Nat) (df:List Deferred) (k:List Item) (cs:List Frame) (ops:Array Oper) (i:Nat) (rest:List Nat),ops[i]?=some o->
  Region.wanted o (yielded ops tmps)=true->∃φ' w' chain,Sess E F φ' st' w'/\Ext φ st w φ' st' w'/\All2 (PRelC (Bd F φ' st') w' φ') ch chain/\
   Steps E.P (lone (cF fn kd ro tmps df (.inRegion ops (i::rest)::k)) cs w) (lone { cF fn kd ro tmps df (.inRegion ops (i::rest)::k) with mode:=.panicking chain } cs w')
 | .recov=>(execOp (bR tmps) o).run E.P w=.ok .recover w/\∀c,o.op≠.defer c
 | .dfr d=>∃cd,(execOp (bR tmps) o).run E.P w=.ok (.defer cd) w/\DRel (Bd F φ st) w φ d cd
theorem Lj {tmps:Array Value} {o:Oper} {v:AV} {a:St} {φ':cO} {w':World} {u:Value} (e:∀c,o.op≠.defer c) (g:(execOp (bR tmps) o).run E.P w=.ok (.value u) w')
  (d:Sess E F φ' a w') (b:Ext φ st w φ' a w') (h:VRel (Bd F φ' a) w' φ' v u):oF E F φ st w tmps o (.val v a):=
 λ_ _ _ _ _ _ _ _ _ f i=>⟨φ',w',u,d,b,h,.one<|E5 f i (.inr e) g⟩
theorem Lk {tmps:Array Value} {o:Oper} {a:St} {w':World} {φ':cO} (e:∀c,o.op≠.defer c) (g:(execOp (bR tmps) o).run E.P w=.ok .skip w')
  (d:Sess E F φ' a w') (b:Ext φ st w φ' a w'):oF E F φ st w tmps o (.val (.tup []) a):=
 λ_ _ _ _ _ _ _ _ _ f h=>⟨φ',w',undef,d,b,VRel.undef,.one<|O9 f h (.inr e) g⟩
theorem DY {tmps:Array Value} {o:Oper} {t:TypeId} {v:AV} {u:Value} (a:Sess E F φ st w) (b:∀c,o.op≠.defer c) (e:(execOp (bR tmps) o).run E.P w=.halt (.panic<|.iface t u) w)
  (f:VRel (Bd F φ st) w φ (.iface t v) (.iface t u)):oF E F φ st w tmps o (.pan [⟨.iface t v,false⟩] st):=
 λ_ _ _ _ _ _ _ _ _ d g=>⟨φ,w,_,a,Ext.refl _ _ _,.cons ⟨f,rfl,rfl⟩ .nil,.one<|Pa d g (.inr b) e⟩
theorem IU {tmps:Array Value} {o:Oper} {s:Sem Value} {v:AV} {a:St} (g:∀c,o.op≠.defer c) (i:execOp (bR tmps) o=(do pure (.value<|<-s):Sem Next)) (h:mb E F φ st w s v a):
  oF E F φ st w tmps o (.val v a):=by
 obtain⟨u,φ',w',b,d,e,f⟩:=h;exact Lj g (by rw[i];simp[b]) d e f
theorem Pc {fn:FuncId} {kd:CallKind} {ro:Option Nat} {tmps:Array Value} {df:List Deferred} {b:List Item} (a:List PanicEntry):
 (cF fn kd ro tmps df b).raise a={ cF fn kd ro tmps df b with mode:=.panicking a }:=rfl
theorem Pd {K:uY} (Q:jF E K) (a:Sess E F φ st w) {fr:Fr} {tmps:Array Value} (M:LRel (Bd F φ st) w φ fr.tm tmps.toList) {U:Option Tmp} {c:Call} {ty:TypeId} {aa:String} {S:Array Edge}
  {Y:Option (Nat × Bool)} {L:EO} (h:ke c E K fr st=some L):oF E F φ st w tmps ⟨U,.call c,ty,aa,S,Y⟩ L:=by
 obtain⟨callee,args,argTypes⟩:=c;have l:∀J,(Op.call ⟨callee,args,argTypes⟩)≠.defer J:=by intro J e;cases e
 have N:∀{vs:List AV},oO E fr args.toList=some vs->LRel (Bd F φ st) w φ vs (args.map<|bR tmps).toList:=by intro vs s;have:=DU a M s;simpa using this
 have ab:∀{x y:AV},oO E fr args.toList=some [x,y]->∃g j,args.map (bR tmps)=#[g,j]/\VRel (Bd F φ st) w φ x g/\VRel (Bd F φ st) w φ y j:=by intro x y C;obtain⟨g,l1,V,A,r1⟩:=(N C).inv_cons;obtain⟨j,l2,W,D,r2⟩:=r1.inv_cons;have X:=r2.inv_nil;subst X;subst W;exact⟨g,j,by apply vw;simpa using V,A,D⟩
 unfold ke at h
 cases callee with
 | value f=>
  simp only[uo] at h;split at h
  .rename_i fv vs hf s;have R:=fC a M hf;have O:=N s;unfold ET at h;split at h
   .rename_i v st' hc;simp at h;subst h;obtain⟨nx,frame,q,o,p⟩:=Q _ _ _ _ _ hc F φ w _ _ a R O;intro fn kd ro df k cs ops i rest n z;obtain⟨φ',w',G,H,u,I,d⟩:=p (cF fn kd ro tmps df (.inRegion ops (i::rest)::k)) cs;refine⟨φ',w',u,G,H,I,.head (Li n z (.inr l) (nx:=nx) (by simp only[execOp,resolve];exact q) o) ?_⟩;rw[CS n] at d;exact d
   .rename_i ch st' hc;simp at h;subst h;obtain⟨nx,frame,q,o,p⟩:=Q _ _ _ _ _ hc F φ w _ _ a R O;intro fn kd ro df k cs ops i rest n z;obtain⟨φ',w',G,H,T,I,d⟩:=p (cF fn kd ro tmps df (.inRegion ops (i::rest)::k)) cs;refine⟨φ',w',T,G,H,I,.head (Li n z (.inr l) (nx:=nx) (by simp only[execOp,resolve];exact q) o) ?_⟩;rw[Pc] at d;exact d
   cases h
  cases h
 | invoke r m=>simp[jB] at h
 | builtin b=>
  simp only at h
  cases b<;>simp only[ib,jB] at h<;>first | (cases h;done) | skip
  .
   unfold CD at h;split at h
   .rename_i x y t C ht;unfold uT at h;split at h
    .rename_i v st' ha;simp at h;subst h;obtain⟨g,j,e,A,D⟩:=ab C;obtain⟨u,φ',w',Z,h2,h3,h4⟩:=OZ a (ty:=ty) ha ht A D;exact Lj l (by simp only[execOp,resolve,e,pure_bind,invoke,builtin];simp[Z]) h2 h3 h4
    cases h
   cases h
  
  simp only[CE,tN] at h;subst h;exact⟨by simp[execOp,resolve,invoke,builtin],l⟩
theorem DZ {z:uY} (G:jF E z) (b:Sess E F φ st w) {fr:Fr} {tmps:Array Value} (d:LRel (Bd F φ st) w φ fr.tm tmps.toList) {o:Oper} {A:EO} (h:iK o.op E z fr st=some A):
  oF E F φ st w tmps o A:=by
 obtain⟨K,I,ty,M,J,L⟩:=o;simp only at h
 cases I<;>simp only[iK,jB] at h<;>first | (cases h;done) | skip
 case store t a v=>
  unfold un at h;split at h
  .rename_i r v' ha l;unfold zQ at h;split at h
   .rename_i st' hs;simp at h;subst h;obtain⟨w',n,p,q⟩:=OV b hs (fC b d ha)<|fC b d l;exact Lk (by intro c e;cases e) (by simp[execOp,n]) p q
   cases h
  cases h
 case call c=>exact Pd G b d h
 case mapUpdate t m k v=>
  unfold up at h;split at h
  .rename_i m' k' v' hm hk l;unfold zQ at h;split at h
   .rename_i st' hs;simp at h;subst h;obtain⟨w',n,p,q⟩:=O1 b hs (fC b d hm) (fC b d hk)<|fC b d l;exact Lk (by intro c e;cases e) (by simp[execOp,n]) p q
   cases h
  cases h
 case range t x=>
  unfold lB at h;split at h
  .rename_i x' i;unfold uT at h;split at h
   .rename_i v st' hs;simp at h;subst h;exact IU (by intro c e;cases e) rfl (O2 b hs<|fC b d i)
   cases h
  cases h
 case next x s=>
  unfold wK at h;split at h
  .rename_i x' i;unfold uT at h;split at h
   .rename_i v st' hs;simp at h;subst h;exact IU (by intro c e;cases e) rfl (O3 b hs<|fC b d i)
   cases h
  cases h
 case entry x=>
  unfold uq at h;split at h
  .rename_i x' i;split at h
   .rename_i v hs;simp at h;subst h;obtain⟨u,n,p⟩:=O4 b hs<|fC b d i;exact IU (by intro c e;cases e) rfl ⟨u,φ,w,n,b,Ext.refl _ _ _,p⟩
   cases h
  cases h
 case defer c=>
  unfold ur at h;obtain⟨callee,args,argTypes⟩:=c
  cases callee with
  | value f=>
   simp only at h;split at h
   .rename_i g a cc vs hf hvs;simp at h;subst h;have C:=fC b d hf;have D:=DU b d hvs;generalize H:bR tmps f=u at C
    cases C with
    | func ha hc hav' hcv=>rename_i r y;refine⟨{ target:=.fn (.func g) y,args:=r++args.map (bR tmps) },by simp[execOp,resolve,H,Deferred.ofValue],g,a,cc,rfl,y,_,rfl,⟨by simpa using hc,λj x v i l=>hcv j x v i<|by simpa using l⟩,?_⟩;rw[vr];refine LRel.append ⟨by simpa using ha,λj x v i l=>hav' j x v i<|by simpa using l⟩<|by simpa using D
   cases h
  | _=>cases h
end
end Go.Proofs.YthcfmhgihcjloaaGreatDoor.Gx
namespace Go.Proofs.YthcfmhgihcjloaaGreatDoor.Gx
open Go
section
variable {E:Env} {F:Nat->Prop} {φ:cO} {st:St} {w:World}
theorem D0 {B:Nat->Prop} {ops:List Oper} {opsA:Array Oper} (l:opsA.toList=ops) {tm:List AV} {tmps:Array Value} (i:LRel B w φ tm tmps.toList) {o:Oper} {b:Bool} (h:eR ops tm o=some b):
  Region.wanted o (yielded opsA tmps)=b:=by
 unfold eR at h;unfold Region.wanted;split at h
 .rename_i f;simp at h;subst h;simp[f]
 rename_i j p f;simp only[f];have n:opsA[j]?=get? ops j:=by rw[get?_eq,<-l];simp
 split at h
 .rename_i d hd
  have g:yielded opsA tmps j=(match tmps[d]? with | some (.bool b)=>some b | _=>none):=by unfold yielded;rw[n,hd];rfl
  have c:=Gg (w:=w) (φ:=φ) i d;split at h
  .rename_i b' hb';simp at h;subst h;rw[hb'] at c
   have m:tmps[d]?=some (.bool b'):=by
    generalize e:tmps.getD d undef=u at c;cases c
    rcases tH d tmps.size with a | a
    .simp[Array.getD,a] at e;simp[a,e]
    simp[Array.getD,Nat.not_lt.2 a,undef] at e
   rw[g,m];cases b'<;>cases p<;>rfl
  .rename_i hb';simp at h;subst h;rw[hb'] at c;generalize e:tmps.getD d undef=u at c;obtain⟨us,rfl,a⟩:=KO c;rw[g]
   rcases tH d tmps.size with a | a
   .simp[Array.getD,a] at e;simp[a,e]
   simp[tT a]
  cases h
 cases h
def OpOk (E:Env) (F:Nat->Prop) (φ:cO) (st:St) (w:World) (fn:FuncId) (kd:CallKind) (ro:Option Nat) (_tmps:Array Value) (_df:List Deferred) (cs:List Frame) (m:Machine) (todo:List Item):OpOut->Prop
 | .ok fr' st'=>∃φ' w' tmps' df' cs',Sess E F φ' st' w'/\Ext φ st w φ' st' w'/\FRel (Bd F φ' st') w' φ' fr' kd ro tmps' df' cs'/\CsLike kd cs cs'/\Steps E.P m (lone (cF fn kd ro tmps' df' todo) cs' w')
 | .pan ch fr' st'=>∃φ' w' tmps' df' cs' chain todo',Sess E F φ' st' w'/\Ext φ st w φ' st' w'/\FRel (Bd F φ' st') w' φ' fr' kd ro tmps' df' cs'/\CsLike kd cs cs'/\
  All2 (PRelC (Bd F φ' st') w' φ') ch chain/\Steps E.P m (lone { cF fn kd ro tmps' df' todo' with mode:=.panicking chain } cs' w')
theorem Ll {fn:FuncId} {kd:CallKind} {tmps:Array Value} {df:List Deferred} {k:List Item} {cs:List Frame} {ops:Array Oper} {i:Nat} {rest:List Nat} {o:Oper} (a:ops[i]?=some o)
  (e:Region.wanted o (yielded ops tmps)=true) (d:(execOp (bR tmps) o).run E.P w=.ok .recover w):
  step E.P (lone (cF fn kd none tmps df (.inRegion ops (i::rest)::k)) cs w)=
   (match tryRecover (cF fn kd none tmps df (.inRegion ops (i::rest)::k)) cs with
    | some (v,c)=>.next<|lone (cF fn kd none (i1 tmps o.dst v) df (.inRegion ops rest::k)) c w
    | none=>.next<|lone (cF fn kd none (i1 tmps o.dst .nilIface) df (.inRegion ops rest::k)) cs w):=by
 cases b:tryRecover (cF fn kd none tmps df (.inRegion ops (i::rest)::k)) cs with
 | none=>rw[<-CS a];refine step_lone_go ?_;rw[CT a e<|.inl rfl];simp only[cF] at b ⊢;simp[stepG.apply,d,b]
 | some p=>obtain⟨v,c⟩:=p;simp only;rw[<-CS a];refine step_lone_go ?_;rw[CT a e<|.inl rfl];simp only[cF] at b ⊢;simp[stepG.apply,d,b]
theorem Lm {V:uY} (D:jF E V) (f:Sess E F φ st w) {fn:FuncId} {kd:CallKind} {ro:Option Nat} {fr:Fr} {tmps:Array Value} {df:List Deferred} {cs:List Frame}
  (hF:FRel (Bd F φ st) w φ fr kd ro tmps df cs) {o:Oper} {out:OpOut} (h:oP E V o fr st=some out) {ops:Array Oper} {i:Nat} (n:ops[i]?=some o) (q:Region.wanted o (yielded ops tmps)=true)
  (rest:List Nat) (k:List Item):
  OpOk E F φ st w fn kd ro tmps df cs (lone (cF fn kd ro tmps df (.inRegion ops (i::rest)::k)) cs w) (.inRegion ops rest::k) out:=by
 unfold oP at h
 cases j:er o.op with
 | pure=>
  have I:∀c,o.op≠.defer c:=by intro c e;rw[e] at j;simp[er] at j
  simp only[j,iU,wL] at h;split at h
  .rename_i v hv;simp at h;subst h;obtain⟨u,M,C⟩:=KZ f hF.tm hv;exact⟨φ,w,_,df,cs,f,Ext.refl _ _ _,hF.put o.dst C,.refl _ _,.one<|E5 n q (.inr I) M⟩
  cases h
 | alloc=>
  have I:∀c,o.op≠.defer c:=by intro c e;rw[e] at j;simp[er] at j
  simp only[j,iU,uH] at h;split at h
  .rename_i ab mk hv;simp at h;subst h;obtain⟨hl,Y,u,M,C⟩:=Lb f hF.tm hv;obtain⟨g1,g2⟩:=f.ghost ab;have H:=f.fresh<|tE st.length;have hB:Bd F φ (st++[ab])=Bd F φ st:=funext λcb=>(by simp only[Bd,IC H]);obtain⟨r1,r2⟩:=g1.realize (b:=st.length) (ab:=ab) (by simp) hl H Y λB' g=>(C st.length _ B' (BC H) (by simp[bJ])<|by rw[hB] at g;exact g).1;have G:Ext φ st w (bJ φ st.length w.1.size 0) (st++[ab]) (bN w Y):=ID g2 r2 rfl;have ae:=(C st.length (bJ φ st.length w.1.size 0) _ (BC H) (by simp[bJ])<|G.goes (F:=F)).2;exact⟨_,_,_,df,cs,r1,G,(hF.mono G.goes G.phi).put o.dst ae,.refl _ _,.one<|E5 n q (.inr I) M⟩
  cases h
 | eff=>
  simp only[j,iU] at h;unfold Bq at h;split at h
  .rename_i v st' he;simp at h;subst h;obtain⟨φ',w',u,S,r,T,U⟩:=DZ D f hF.tm he fn kd ro df k cs ops i rest n q;exact⟨φ',w',_,df,cs,S,r,(hF.mono r.goes r.phi).put o.dst T,.refl _ _,U⟩
  .rename_i ch st' he;simp at h;subst h;obtain⟨φ',w',ac,S,r,T,U⟩:=DZ D f hF.tm he fn kd ro df k cs ops i rest n q;exact⟨φ',w',_,df,cs,ac,_,S,r,hF.mono r.goes r.phi,.refl _ _,T,U⟩
  .rename_i he;obtain⟨J,I⟩:=DZ D f hF.tm he;split at h
   .rename_i v fr' hrec;simp at h;subst h;obtain⟨tm,L,rc,af⟩:=fr;have p:=hF.ro;have s:=hF.rc;simp only[oD] at hrec;split at hrec
    .cases hrec
    .rename_i v0 older;simp only at p s;subst p;simp at hrec;obtain⟨rfl,rfl⟩:=hrec;obtain⟨rfl,c,t,rfl,aa,x,O⟩:=s
     cases O with
     | cons Q X=>
      rename_i e Z;obtain⟨ev,er,eg⟩:=e;obtain⟨K,z,A⟩:=Q;simp only at K z A;subst z;subst A;have R:tryRecover (cF fn .deferred none tmps df (.inRegion ops (i::rest)::k)) (c::t)=some (ev,{ c with mode:=.panicking ({ v:=ev,recovered:=true }::Z) }::t):=(by simp[tryRecover,cF,x]);have y:=Ll (E:=E) (fn:=fn) (kd:=.deferred) (df:=df) (k:=k) (cs:=c::t) (rest:=rest) n q J;rw[R] at y;refine⟨φ,w,_,df,_,f,Ext.refl _ _ _,?_,.inr ⟨rfl,c,t,_,rfl,rfl⟩,.one y⟩
      have N:FRel (Bd F φ st) w φ ⟨tm,L,some<|.panicking (⟨v0,true⟩::older),none⟩ .deferred none tmps df ({ c with mode:=.panicking ({ v:=ev,recovered:=true }::Z) }::t):=
       ⟨hF.tm,hF.df,⟨rfl,_,_,rfl,_,rfl,.cons ⟨K,rfl,rfl⟩ X⟩,rfl⟩
      exact N.put o.dst K
    rename_i ag ad;simp only at p s;subst p;simp at hrec;obtain⟨rfl,rfl⟩:=hrec
    have R:tryRecover (cF fn kd none tmps df (.inRegion ops (i::rest)::k)) cs=none:=by
     cases rc with
     | none=>simp only at s;subst s;cases cs<;>simp[tryRecover,cF]
     | some m=>
      obtain⟨rfl,c,t,rfl,x⟩:=s
      cases m with
      | returning=>simp only[MRel] at x;simp[tryRecover,cF,x]
      | panicking ch=>
       obtain⟨aa,W,O⟩:=x
       cases O with
       | nil=>simp[tryRecover,cF,W]
       | cons Q X=>
        rename_i a e l m;obtain⟨av,ar⟩:=a
        cases ar with
        | false=>exact(ad av l rfl).elim
        | true=>obtain⟨ev,er,eg⟩:=e;obtain⟨K,z,A⟩:=Q;simp only at z A;subst z;subst A;simp[tryRecover,cF,W]
    have y:=Ll (E:=E) (fn:=fn) (kd:=kd) (df:=df) (k:=k) (cs:=cs) (rest:=rest) n q J;rw[R] at y;exact⟨φ,w,_,df,cs,f,Ext.refl _ _ _,hF.put o.dst .nilif,.refl _ _,.one y⟩
   cases h
  .rename_i d he;obtain⟨cd,J,hd⟩:=DZ D f hF.tm he;split at h
   .rename_i hro0;simp at h;subst h;obtain⟨tm,L,rc,af⟩:=fr;simp only at hro0;subst hro0;have p:=hF.ro;simp only at p;subst p;refine⟨φ,w,_,_,cs,f,Ext.refl _ _ _,?_,.refl _ _,.one<|O' n q J⟩;have N:FRel (Bd F φ st) w φ (uG ⟨tm,L,rc,none⟩ d) kd none tmps (cd::df) cs:=⟨hF.tm,.cons hd hF.df,hF.rc,hF.ro⟩;exact N.put o.dst VRel.undef
   cases h
  cases h
theorem OpOk.of_steps {fn:FuncId} {kd:CallKind} {ro:Option Nat} {tmps z:Array Value} {df x:List Deferred} {cs p:List Frame} {m t:Machine} {v:List Item} {out:OpOut} {φ':cO} {u:St} {w':World}
  (s:Steps E.P m t) (r:Ext φ st w φ' u w') (q:CsLike kd cs p) (h:OpOk E F φ' u w' fn kd ro z x p t v out):OpOk E F φ st w fn kd ro tmps df cs m v out:=by
 cases out with
 | ok fr st2=>obtain⟨a,b,c,d,e,i,j,l,n,o⟩:=h;exact⟨a,b,c,d,e,i,r.trans j,l,q.trans n,s.trans o⟩
 | pan ch fr st2=>obtain⟨a,b,c,d,e,f,g,i,j,l,n,o,y⟩:=h;exact⟨a,b,c,d,e,f,g,i,r.trans j,l,q.trans n,o,s.trans y⟩
theorem IV {f:uY} (d:jF E f) {ops:List Oper} {opsA:Array Oper} (c:opsA.toList=ops) {fn:FuncId} {kd:CallKind} {ro:Option Nat} (k:List Item):
  ∀(a:List Oper) (i:Nat),a=ops.drop i->∀{φ:cO} {st:St} {w:World} {fr:Fr} {tmps:Array Value} {df:List Deferred} {cs:List Frame} {out:OpOut},Sess E F φ st w->
   FRel (Bd F φ st) w φ fr kd ro tmps df cs->gB E f ops a fr st=some out->
   OpOk E F φ st w fn kd ro tmps df cs (lone (cF fn kd ro tmps df (.inRegion opsA (List.range' i a.length)::k)) cs w) k out
 | [],i,htodo,φ,st,w,fr,tmps,df,cs,out,hS,hF,h=>by simp[gB] at h;subst h;exact⟨φ,w,tmps,df,cs,hS,Ext.refl _ _ _,hF,.refl _ _,.one IT⟩
 | o::a,i,htodo,φ,st,w,fr,tmps,df,cs,out,hS,hF,h=>by
  have g:opsA[i]?=some o:=by have:ops[i]?=some o:=(by have:=congrArg (λl=>l[0]?) htodo;simpa using this.symm);rw[<-c] at this;simpa using this
  have j:a=ops.drop (i+1):=by have:=congrArg List.tail htodo;simpa [List.tail_drop] using this
  simp only[vM,List.range'_succ];unfold gB at h;split at h
  .rename_i hw;have e:=D0 c hF.tm hw;split at h
   .rename_i fr' st' b;have:=Lm (fn:=fn) d hS hF b g e (List.range' (i+1) a.length) k;obtain⟨φ',w',y,x,v,p,q,s,t,u⟩:=this;exact OpOk.of_steps u q t<|IV d c k a (i+1) j p s h
   rename_i r m
   cases b:oP E f o fr st with
   | none=>rw[b] at h;cases h
   | some n=>
    rw[b] at h
    cases n with
    | ok fr' st'=>exact absurd b<|m _ _
    | pan ch fr' st'=>simp at h;subst h;have:=Lm (fn:=fn) d hS hF b g e (List.range' (i+1) a.length) k;exact this
  .rename_i hw;have e:=D0 c hF.tm hw;exact OpOk.of_steps (.one<|Lh g e) (Ext.refl _ _ _) (.refl _ _)<|IV d c k a (i+1) j hS (hF.put o.dst VRel.undef) h
  cases h
end
end Go.Proofs.YthcfmhgihcjloaaGreatDoor.Gx
namespace Go.Proofs.YthcfmhgihcjloaaGreatDoor.Gx
open Go
theorem xg {a b:Cap} (h:wo a b=true):a=b:=by cases a<;>cases b<;>simp[wo] at h<;>simp[h]
mutual
theorem E6:∀(a b:AV),eE a b=true->a=b
 | .bool a,b,h=>by cases b<;>simp[eE] at h;simp[h]
 | .int j a,b,h=>by cases b<;>simp[eE] at h;simp[h]
 | .str a,b,h=>by cases b<;>simp[eE] at h;simp[h]
 | .nilptr,b,h=>by cases b<;>simp[eE] at h;rfl
 | .ptr a o,b,h=>by cases b<;>simp[eE] at h;simp[h]
 | .iptr a,b,h=>by cases b<;>simp[eE] at h;rw[zW a _ h]
 | .nilsl,b,h=>by cases b<;>simp[eE] at h;rfl
 | .sl a o l c,b,h=>by cases b<;>simp[eE] at h;obtain⟨⟨⟨rfl,rfl⟩,rfl⟩,e⟩:=h;rw[xg e]
 | .isl l a c,b,h=>by cases b<;>simp[eE] at h;obtain⟨⟨rfl,rfl⟩,d⟩:=h;rw[zW a _ d]
 | .nilmap,b,h=>by cases b<;>simp[eE] at h;rfl
 | .map a,b,h=>by cases b<;>simp[eE] at h;simp[h]
 | .func f a c,b,h=>by cases b<;>simp[eE] at h;obtain⟨⟨rfl,d⟩,e⟩:=h;rw[zW a _ d,zW c _ e]
 | .yld a,b,h=>by cases b<;>simp[eE] at h;simp[h]
 | .nilfn,b,h=>by cases b<;>simp[eE] at h;rfl
 | .iface t a,b,h=>by cases b<;>simp[eE] at h;obtain⟨rfl,d⟩:=h;rw[E6 a _ d]
 | .nilif,b,h=>by cases b<;>simp[eE] at h;rfl
 | .agg a,b,h=>by cases b<;>simp[eE] at h;rw[zW a _ h]
 | .tup a,b,h=>by cases b<;>simp[eE] at h;rw[zW a _ h]
 | .unk,b,h=>by cases b<;>simp[eE] at h;rfl
 | .oint k lo hi,b,h=>by cases b<;>simp[eE] at h;obtain⟨⟨rfl,rfl⟩,rfl⟩:=h;rfl
 | .ostr a,b,h=>by cases b<;>simp[eE] at h;rw[h]
theorem zW:∀(a b:List AV),fM a b=true->a=b
 | [],b,h=>by cases b<;>simp[fM] at h;rfl
 | x::l,b,h=>by cases b<;>simp[fM] at h;rw[E6 x _ h.1,zW l _ h.2]
end
theorem Pe {a b:AB} (h:ut a b=true):a=b:=by
 unfold ut at h;split at h
 .rw[zW _ _ h]
 .rfl
 cases h
def ku (fr fr':Fr) (x:Operand):Prop:=∀t,x=.tmp t->fD fr.tm t=fD fr'.tm t
section
variable {E:Env} {fr fr':Fr}
theorem gc {x:Operand} (h:ku fr fr' x):ev E fr x=ev E fr' x:=by
 cases x with
 | tmp t=>simp[ev,h t rfl]
 | _=>rfl
theorem BF:∀{xs:List Operand},(∀x∈xs,ku fr fr' x)->oO E fr xs=oO E fr' xs
 | [],_=>rfl
 | x::xs,h=>by unfold oO;rw[gc<|h x<|by simp,BF λy a=>h y<|by simp[a]]
theorem IW {x:Option Operand} (h:∀y∈x,ku fr fr' y):zO E fr x=zO E fr' x:=by
 cases x with
 | none=>rfl
 | some x=>simp[zO,gc<|h x rfl]
theorem IX:∀{xs:List (Nat × Operand)},(∀p∈xs,ku fr fr' p.2)->zP E fr xs=zP E fr' xs
 | [],_=>rfl
 | (i,x)::xs,h=>by unfold zP;rw[gc<|h (i,x)<|by simp,IX λy a=>h y<|by simp[a]]
theorem Pf {c:Call} {st:St} (h:∀x∈(Op.call c).operands,ku fr fr' x):ej c E fr st=ej c E fr' st:=by
 obtain⟨callee,args,e⟩:=c;have a:∀x∈args.toList,ku fr fr' x:=λx d=>h x (by simp[Op.operands,Call.operands];right;simpa using d);unfold ej
 cases callee with
 | builtin b=>cases b<;>simp only[ei,wG,Cw,Cx,iJ,BF a]
 | _=>rfl
theorem IY {g:Op} {st:St} (h:∀x∈g.operands,ku fr fr' x):dt g E fr st=dt g E fr' st:=by
 cases g<;>simp only[dt,iJ]
 case move x=>exact gc<|h x<|by simp[Op.operands]
 case assign x=>exact gc<|h x<|by simp[Op.operands]
 case pick c a b=>simp only[wD,gc<|h c<|by simp[Op.operands],gc<|h a<|by simp[Op.operands],gc<|h b<|by simp[Op.operands]]
 case build t A=>have j:∀p∈A.toList,ku fr fr' p.2:=λp j=>h p.2 (by simp[Op.operands];exact⟨p.1,by simpa using j⟩);simp only[ue,IX j]
 case load t a=>simp only[o6,gc<|h a<|by simp[Op.operands]]
 case nilCheck x=>simp only[Cu,gc<|h x<|by simp[Op.operands]]
 case binOp g t x y C=>simp only[Cv,gc<|h x<|by simp[Op.operands],gc<|h y<|by simp[Op.operands]]
 case unOp g t x=>simp only[It,gc<|h x<|by simp[Op.operands]]
 case convert s d x=>simp only[wE,gc<|h x<|by simp[Op.operands]]
 case makeFunc fn a c=>have q:∀x∈a.toList,ku fr fr' x:=λx l=>h x (by simp[Op.operands];left;simpa using l);have r:∀x∈c.toList,ku fr fr' x:=λx l=>h x (by simp[Op.operands];right;simpa using l);simp only[wF,BF q,BF r]
 case slice t x v u z=>have m:∀y∈v,ku fr fr' y:=λy e=>h y (by simp[Op.operands];simp at e;simp[e]);have n:∀y∈u,ku fr fr' y:=λy e=>h y (by simp[Op.operands];simp at e;simp[e]);have o:∀y∈z,ku fr fr' y:=λy e=>h y (by simp[Op.operands];simp at e;simp[e]);simp only[ug,gc<|h x<|by simp[Op.operands],IW m,IW n,IW o]
 case fieldAddr t x f=>simp only[uh,gc<|h x<|by simp[Op.operands]]
 case field t x f=>simp only[ui,gc<|h x<|by simp[Op.operands]]
 case indexAddr t x i=>simp only[uj,gc<|h x<|by simp[Op.operands],gc<|h i<|by simp[Op.operands]]
 case index t x i=>simp only[um,gc<|h x<|by simp[Op.operands],gc<|h i<|by simp[Op.operands]]
 case extract t i=>simp only[lq,gc<|h t<|by simp[Op.operands]]
 case call c=>exact Pf h
theorem IZ {a:Op} (h:∀x∈a.operands,ku fr fr' x):eH a E fr=eH a E fr':=by
 cases a<;>simp only[eH,wI]
 case alloc t=>rfl
 case box t x=>simp only[Cz,gc<|h x<|by simp[Op.operands]]
 case buildSlice t len d=>have b:∀p∈d.toList,ku fr fr' p.2:=λp b=>h p.2 (by simp[Op.operands];exact⟨p.1,by simpa using b⟩);simp only[CB,IX b]
 case makeSlice t l c=>simp only[CC,gc<|h l<|by simp[Op.operands],gc<|h c<|by simp[Op.operands]]
 case makeMap t r=>rfl
theorem Ln {e:Op} {i:uY} {st:St} (h:∀x∈e.operands,ku fr fr' x):iK e E i fr st=iK e E i fr' st:=by
 cases e<;>simp only[iK,jB]
 case store t a v=>simp only[un,gc<|h a<|by simp[Op.operands],gc<|h v<|by simp[Op.operands]]
 case call c=>
  obtain⟨callee,args,j⟩:=c;have d:∀x∈args.toList,ku fr fr' x:=λx g=>h x (by simp[Op.operands,Call.operands];right;simpa using g);unfold ke
  cases callee with
  | value f=>simp only[uo,gc<|h f<|by simp[Op.operands,Call.operands],BF d]
  | invoke r m=>rfl
  | builtin b=>cases b<;>simp only[ib,CD,CE,jB,BF d]
 case mapUpdate t m k v=>simp only[up,gc<|h m<|by simp[Op.operands],gc<|h k<|by simp[Op.operands],gc<|h v<|by simp[Op.operands]]
 case range t x=>simp only[lB,gc<|h x<|by simp[Op.operands]]
 case next x s=>simp only[wK,gc<|h x<|by simp[Op.operands]]
 case entry x=>simp only[uq,gc<|h x<|by simp[Op.operands]]
 case defer c=>
  obtain⟨callee,args,j⟩:=c;have d:∀x∈args.toList,ku fr fr' x:=λx g=>h x (by simp[Op.operands,Call.operands];right;simpa using g);unfold ur
  cases callee with
  | value f=>simp only[gc<|h f<|by simp[Op.operands,Call.operands],BF d]
  | _=>rfl
theorem Lo {i:Nat} {b:Op} {v:AV} (h:∀x∈b.operands,ku fr fr' x):ew i b E fr v=ew i b E fr' v:=by
 cases b<;>simp only[ew]
 case load t a=>simp only[gc<|h a<|by simp[Op.operands]]
 case call c=>obtain⟨callee,args,f⟩:=c;have d:∀x∈args.toList,ku fr fr' x:=λx e=>h x (by simp[Op.operands,Call.operands];right;simpa using e);simp only[gh,BF d]
theorem get?_append {α:Type} {st:List α} {x y:α} {b:Nat} (h:get? st b=some x):get? (st++[y]) b=some x:=by rw[get?_eq] at h ⊢;rw[tI<|iZ h];exact h
theorem Pg {st:St} {ab:AB} {a:AV} {cs:List AV} (h:dN st a=some cs):dN (st++[ab]) a=some cs:=by
 cases a<;>simp only[dN] at h ⊢<;>try (exact h)
 split at h
 .rename_i cs0 hb;rw[get?_append hb];exact h
 .rename_i cs0 hb;rw[get?_append hb];exact h
 cases h
theorem Ph {P:Program} {st:St} {ab:AB} {t:TypeId} {a v:AV} (h:ju P st t a=some v):ju P (st++[ab]) t a=some v:=by
 unfold ju at h ⊢
 cases b:dN st a with
 | none=>simp[b] at h
 | some cs=>rw[b] at h;rw[Pg b];exact h
theorem Pi {f:Op} {st:St} {ab:AB} {v:AV} (h:dt f E fr st=some v):dt f E fr (st++[ab])=some v:=by
 cases f<;>simp only[dt] at h ⊢<;>first | exact h | skip
 case load t a=>
  unfold o6 at h ⊢;split at h
  .exact Ph h
  cases h
 case call c=>
  unfold ej at h ⊢;obtain⟨callee,args,i⟩:=c
  cases callee with
  | builtin b=>
   cases b<;>simp only[ei] at h ⊢<;>try (exact h)
   unfold wG at h ⊢;split at h
   .rename_i x xs t hx ht;unfold ws at h ⊢
    split at h<;>try (exact h)
    rename_i k e b g
    cases d:get? st b with
    | none=>rw[d] at h;simp at h
    | some x=>rw[d] at h;rw[get?_append d];exact h
   cases h
  | _=>exact h
theorem Pj {i:Nat} {e:Op} {st f:St} {v:AV} (h:dt e E fr st=some v) (d:ew i e E fr v=some []):dt e E fr f=some v:=by
 cases e<;>simp only[dt] at h ⊢<;>first | exact h | skip
 case load t a=>simp only[ew] at d;split at d<;>simp at d
 case call c=>
  unfold ej at h ⊢;obtain⟨callee,args,g⟩:=c
  cases callee with
  | builtin b=>
   cases b<;>simp only[ei] at h ⊢<;>try (exact h)
   unfold wG at h ⊢;split at h
   .rename_i x xs t hx ht;simp only[ew,gh] at d;rw[hx] at d;unfold ws at h ⊢
    split at h<;>try (exact h)
    simp at d
   cases h
  | _=>exact h
end
end Go.Proofs.YthcfmhgihcjloaaGreatDoor.Gx
namespace Go.Proofs.YthcfmhgihcjloaaGreatDoor.Gx
open Go
theorem E7 {o:Oper} {q:Nat}:cX o q=true↔∃e∈o.after,Region.binds .any e=true/\e.on=q:=by
 simp only[cX,List.any_eq_true,tJ,vU];constructor
 .rintro⟨e,a,b,h3⟩;exact⟨e,a,b,vj h3⟩
 rintro⟨e,a,b,rfl⟩;exact⟨e,a,b,Nat.beq_refl _⟩
theorem Pk {o:Oper} {l:List Bool}:lE o l=true↔∀q,cX o q=true->gF l q=true:=by
 simp only[lE,tV,Bool.or_eq_true,vh];constructor
 .intro h q hq;obtain⟨e,c,b,rfl⟩:=E7.1 hq
  rcases h e (by simpa using c) with a | a
  .rw[b] at a;cases a
  exact a
 intro h e c
 cases b:Region.binds .any e with
 | false=>exact .inl rfl
 | true=>exact .inr<|h e.on<|E7.2 ⟨e,by simpa using c,b,rfl⟩
theorem E8:∀(l:List Bool) (i:Nat),gF l i=(l[i]?).getD false
 | [],_=>by simp[gF]
 | b::l,0=>by simp[gF]
 | b::l,n+1=>by simp[gF,E8 l n]
theorem Lp {listed:List Bool}:∀{ops:List Oper} {bs:List Bool} {k i:Nat},ops.length=bs.length->(i∈fd listed ops bs k↔k<=i/\∃o,ops[i - k]?=some o/\gF bs (i - k)=false/\lE o listed=true)
 | [],bs,k,i,_=>by simp[fd]
 | o::ops,[],k,i,h=>by simp at h
 | o::ops,b::bs,k,i,h=>by
  have j:=Lp (listed:=listed) (ops:=ops) (bs:=bs) (k:=k+1) (i:=i) (by simpa using h);unfold fd
  have key:i∈fd listed ops bs (k+1)↔k<i/\∃o',(o::ops)[i - k]?=some o'/\gF (b::bs) (i - k)=false/\lE o' listed=true:=by
   rw[j];constructor
   .rintro⟨f,o',a,c,d⟩;have e:i - k=(i - (k+1))+1:=(by omega);exact⟨by omega,o',by rw[e];simpa using a,by rw[e];simpa [gF] using c,d⟩
   rintro⟨f,o',a,c,d⟩;have e:i - k=(i - (k+1))+1:=(by omega);rw[e] at a c;exact⟨by omega,o',by simpa using a,by simpa [gF] using c,d⟩
  split
  .rename_i g;simp only[tJ,vh] at g;rw[tW,key];constructor
   .rintro(rfl | ⟨f,a⟩)
    .exact⟨tE _,o,by simp,by simp[gF,g.1],g.2⟩
    exact⟨by omega,a⟩
   rintro⟨f,o',a,c,d⟩;by_cases e:i=k
   .exact .inl e
   exact .inr ⟨by omega,o',a,c,d⟩
  rename_i g;rw[key];constructor
  .rintro⟨f,a⟩;exact⟨by omega,a⟩
  rintro⟨f,o',a,c,d⟩;by_cases e:i=k
  .subst e;simp at a;subst a;simp[gF] at c;simp[c,d] at g
  exact⟨by omega,o',a,c,d⟩
theorem Lr {ops:List Oper}:∀{a:List Nat} {i:Nat} {o:Oper},l7 ops a=some (i,o)->i∈a/\ops[i]?=some o/\er o.op≠.eff
 | [],i,o,h=>by simp[l7] at h
 | j::a,i,o,h=>by
  unfold l7 at h;rw[get?_eq] at h;split at h
  .rename_i o' ho;split at h
   .obtain⟨h1,h2,h3⟩:=Lr h;exact⟨by simp[h1],h2,h3⟩
   rename_i b;simp at h;obtain⟨rfl,rfl⟩:=h;exact⟨by simp,ho,b⟩
  cases h
structure Ssa (ops:List Oper):Prop where
 reads:∀(p q:Nat) op oq d,ops[p]?=some op->ops[q]?=some oq->oq.dst=some d->d∈looks ops op->cX op q=true
 once:∀(p q:Nat) op oq d,ops[p]?=some op->ops[q]?=some oq->op.dst=some d->oq.dst=some d->p=q
 edge:∀(i:Nat) o q,ops[i]?=some o->cX o q=true->q<i
theorem Ls {e:List Tmp} {o:Oper}:∀{c:List Oper} {k:Nat},kg e o c k=true->∀(q:Nat) a d,c[q]?=some a->a.dst=some d->d∈e->cX o (k+q)=true
 | [],k,h,q,a,d,hq,_,_=>by simp at hq
 | x::c,k,h,q,a,d,hq,hd,hm=>by
  unfold kg at h;simp only[tJ] at h
  cases q with
  | zero=>
   simp at hq;subst hq;rw[hd] at h;simp only[Bool.or_eq_true,vh] at h
   rcases h.1 with b | b
   .simp[hm] at b
   simpa using b
  | succ q=>
   have:=Ls h.2 q a d (by simpa using hq) hd hm
   rwa [show k+(q+1)=k+1+q by omega]
theorem Lt:∀{c:List Oper},oQ c=true->∀(p q:Nat) a b d,c[p]?=some a->c[q]?=some b->a.dst=some d->b.dst=some d->p=q
 | [],h,p,q,a,b,d,hp,_,_,_=>by simp at hp
 | x::c,h,p,q,a,b,d,hp,hq,hdp,hdq=>by
  unfold oQ at h;simp only[tJ] at h;have e:∀(r:Nat) or,c[r]?=some or->or.dst=some d->x.dst=some d->False:=by intro r or i f g;rw[g] at h;have:=tV.1 h.1 or<|tX i;rw[f] at this;simp at this
  cases p with
  | zero=>
   cases q with
   | zero=>rfl
   | succ q=>simp at hp;subst hp;exact(e q b (by simpa using hq) hdq hdp).elim
  | succ p=>
   cases q with
   | zero=>simp at hq;subst hq;exact(e p a (by simpa using hp) hdp hdq).elim
   | succ q=>rw[Lt h.2 p q a b d (by simpa using hp) (by simpa using hq) hdp hdq]
theorem Lu:∀{a:List Oper} {k:Nat},kj a k=true->∀(i:Nat) o q,a[i]?=some o->cX o q=true->q<k+i
 | [],k,h,i,o,q,ho,_=>by simp at ho
 | x::a,k,h,i,o,q,ho,hw=>by
  unfold kj at h;simp only[tJ] at h
  cases i with
  | zero=>simp at ho;subst ho;obtain⟨e,c,b,rfl⟩:=E7.1 hw;have:=tV.1 h.1 e (by simpa using c);rw[b] at this;simp at this;omega
  | succ i=>have:=Lu h.2 i o q (by simpa using ho) hw;omega
theorem xh {ops:List Oper} (h:Iu ops=true):Ssa ops:=by
 unfold Iu at h;simp only[tJ] at h;refine⟨λp q j l d e f a b=>?_,Lt h.1.2,λi o q c g=>?_⟩
 .have:=Ls (tV.1 h.1.1 j<|tX e) q l d f a b;simpa using this
 have:=Lu h.2 i o q c g;omega
theorem Gq {ops:List Oper} {o:Oper} {t:Tmp} (h:.tmp t∈o.op.operands):t∈looks ops o:=by unfold looks;rw[tS];left;rw[List.mem_filterMap];exact⟨.tmp t,by simpa using h,rfl⟩
theorem Pl {ops:List Oper} {o:Oper} {j:Nat} {w:Bool} {d:Tmp} (b:o.guard=some (j,w)) (a:(get? ops j).bind (·.dst)=some d):d∈looks ops o:=by unfold looks;rw[tS];right;simp[b,a]
theorem D4 {ops:List Oper} {tm a:List AV} {o:Oper} (h:∀t∈looks ops o,fD tm t=fD a t):eR ops tm o=eR ops a o:=by
 unfold eR;split
 .rfl
 rename_i j w b;split
 .rename_i d hd;rw[h d<|Pl b hd]
 rfl
theorem Lv {tm:List AV} {d t:Nat} {v:AV} (h:d≠t):fD (fm tm d v) t=fD tm t:=by rw[zv,zv,ip,vk h]
theorem D5 {tm:List AV} {d:Nat} {v:AV} (h:d<tm.length):fD (fm tm d v) d=v:=by rw[zv,ip];simp[h]
theorem CU {fr:Fr} {a:Option Tmp} {v:AV}:(put fr a v).tm=(match a with | some d=>fm fr.tm d v | none=>fr.tm):=by obtain⟨tm,df,rc,ro⟩:=fr;cases a<;>rfl
theorem zX {fr:Fr} {a:Option Tmp} {v:AV} {t:Nat} (h:a≠some t):fD (put fr a v).tm t=fD fr.tm t:=by
 rw[CU]
 cases a with
 | none=>rfl
 | some d=>exact Lv λe=>h<|by rw[e]
theorem CW {fr:Fr} {a:Option Tmp} {v:AV}:(put fr a v).tm.length=fr.tm.length:=by rw[CU];cases a<;>simp[ip]
def fS (ops:Array Oper) (f t:Nat) (D:Array Bool):List Nat:=Region.linearise.go .any ops f t D []
theorem Lw (ops:Array Oper) (f t:Nat) (D:Array Bool):
  (fS ops f t D=[]/\(f=0\/Region.ready .any ops D=[]))\/∃b g i,f=b+1/\i∈Region.ready .any ops D/\fS ops f t D=i::fS ops b g (D.setIfInBounds i true):=by
 cases f with
 | zero=>exact .inl ⟨rfl,.inl rfl⟩
 | succ f=>
  have c:fS ops (f+1) t D=(match (Region.ready .any ops D)[t % (Region.ready .any ops D).length]? with
   | some i=>Region.linearise.go .any ops f (t / (Region.ready .any ops D).length) (D.setIfInBounds i true) [i]
   | none=>[]):=rfl
  cases a:(Region.ready .any ops D)[t % (Region.ready .any ops D).length]? with
  | none=>
   left;rw[c,a];refine⟨rfl,.inr ?_⟩
   cases e:Region.ready .any ops D with
   | nil=>rfl
   | cons x xs=>rw[e] at a;have d:t % (x::xs).length<(x::xs).length:=Nat.mod_lt _ (by simp);rw[tD d] at a;cases a
  | some i=>right;refine⟨f,t / (Region.ready .any ops D).length,i,rfl,tX a,?_⟩;rw[c,a];simp only;rw[linearise_go_acc];rfl
theorem I3 {ops:Array Oper} {D:Array Bool} {i:Nat} (h:i∈Region.ready .any ops D):∃o,ops[i]?=some o/\i<D.size/\D.getD i false=false/\∀q,cX o q=true->D.getD q false=true:=by
 unfold Region.ready at h;rw[List.mem_filter] at h;obtain⟨n,c⟩:=h;simp only[tJ,vh] at c;obtain⟨d,a⟩:=c
 cases g:ops[i]? with
 | none=>rw[g] at a;simp at a
 | some o=>
  rw[g] at a
  have f:i<D.size:=by
   rcases tH i D.size with b | b
   .exact b
   simp[Array.getD,Nat.not_lt.2 b] at d
  refine⟨o,rfl,f,by simpa [Array.getD,f] using d,λq m=>?_⟩;obtain⟨e,l,j,rfl⟩:=E7.1 m;simp only[vP,vN] at a;have:=(vB.1 a) e l;rw[j] at this;simpa using this
theorem Lx {ops:Array Oper} {D:Array Bool} (n:Ssa ops.toList) (o:D.size=ops.size) {i:Nat} (f:i<D.size) (d:D.getD i false=false):Region.ready .any ops D≠[]:=by
 induction i using Nat.strongRecOn with
 | _ i ih=>
  have l:ops[i]?=some (ops[i]'(by omega)):=tK (by omega);by_cases a:∀q,cX (ops[i]'(by omega)) q=true->D.getD q false=true
  .intro he
   have b:i∈Region.ready .any ops D:=by
    unfold Region.ready;rw[List.mem_filter];refine⟨by simp;omega,?_⟩;simp only[tJ,vh];refine⟨by simpa [Array.getD,f] using d,?_⟩;rw[l];simp only[vP,vN];rw[vB];intro e h
    cases c:Region.binds .any e with
    | false=>rfl
    | true=>rw[a e.on<|E7.2 ⟨e,h,c,rfl⟩];rfl
   rw[he] at b;simp at b
  simp only[Classical.not_forall] at a;obtain⟨q,m,j⟩:=a;have g:=n.edge i _ q (by simp) m;exact ih q g (by omega)<|by simpa using j
def PQ (E:Env) (ops:List Oper) (n0:Nat) (frA:Fr) (stA:St) (φ:cO) (ps:List Pend) (i:Nat) (o:Oper):Prop:=
 ∃r,(∀d,o.dst=some d->d<frA.tm.length->fD frA.tm d=r)/\
  ((eR ops frA.tm o=some false/\r=.tup [])\/
   (eR ops frA.tm o=some true/\er o.op=.pure/\dt o.op E frA stA=some r/\∃p,ew i o.op E frA r=some p/\∀x∈p,x∈ps)\/
   (eR ops frA.tm o=some true/\er o.op=.alloc/\∃ab mk b,eH o.op E frA=some (ab,mk)/\r=mk b/\stA[b]?=some ab/\φ b=none/\n0<=b/\Pend.blk i b ab∈ps))
structure DInv (E:Env) (F:Nat->Prop) (ops:List Oper) (φ0:cO) (st0:St) (w0:World) (kd:CallKind) (ro:Option Nat) (df:List Deferred) (cs:List Frame)
  (lA:List Bool) (ps:List Pend) (frA:Fr) (stA:St) (D:Array Bool) (φ:cO) (w:World) (tmps:Array Value) (frD:Fr):Prop where
 lenA:lA.length=ops.length
 lenD:D.size=ops.length
 sub:∀i,D.getD i false=true->gF lA i=true
 clA:∀(i:Nat) o,gF lA i=true->ops[i]?=some o->∀q,cX o q=true->gF lA q=true
 sess:Sess E F φ stA w
 ext:Ext0 φ0 st0 w0 φ stA w
 old:∀b,b<st0.length->φ b=φ0 b
 fr:FRel (Bd F φ stA) w φ frD kd ro tmps df cs
 df:frD.df=frA.df
 rc:frD.rc=frA.rc
 ro:frD.ro=frA.ro
 len:frD.tm.length=frA.tm.length
 tm:∀t,(∃(i:Nat) (o:Oper),ops[i]?=some o/\o.dst=some t/\gF lA i=true/\D.getD i false=false)\/fD frD.tm t=fD frA.tm t
 pend:∀(i:Nat) o,ops[i]?=some o->gF lA i=true->D.getD i false=false->PQ E ops st0.length frA stA φ ps i o
 psb:∀i b ab,Pend.blk i b ab∈ps->b<stA.length
 psi:∀i j b ab ab',Pend.blk i b ab∈ps->Pend.blk j b ab'∈ps->i=j
section
variable {E:Env} {F:Nat->Prop} {ops:List Oper} {φ0:cO} {st0:St} {w0:World} {kd:CallKind} {ro:Option Nat} {df:List Deferred} {cs:List Frame}
 {lA:List Bool} {ps:List Pend} {frA:Fr} {stA:St} {D:Array Bool} {φ:cO} {w:World} {tmps:Array Value} {frD:Fr}
theorem I4 {l:List Bool} {i:Nat} (h:i<l.length):gF (fm l i true) i=true:=by rw[E8,ip];simp[h]
theorem E9 {l:List Bool} {i j:Nat} (h:i≠j):gF (fm l i true) j=gF l j:=by rw[E8,E8,ip,vk h]
theorem BG {l:List Bool} {i j:Nat} (h:gF l j=true):gF (fm l i true) j=true:=by
 by_cases e:i=j
 .subst e
  have:i<l.length:=by
   rcases tH i l.length with a | a
   .exact a
   rw[E8,tF a] at h;simp at h
  exact I4 this
 rw[E9 e];exact h
theorem DInv.agree (a:DInv E F ops φ0 st0 w0 kd ro df cs lA ps frA stA D φ w tmps frD) (d:Ssa ops) {i:Nat} {o:Oper} (b:ops[i]?=some o) (c:∀q,cX o q=true->D.getD q false=true):
  ∀t∈looks ops o,fD frD.tm t=fD frA.tm t:=by
 intro t e
 rcases a.tm t with⟨j,oj,hj,hd,_,hD⟩ | h
 .have:=c j<|d.reads i j o oj t b hj hd e;rw[hD] at this;cases this
 exact h
theorem PQ.other {q:Nat} {i j:Nat} {o a:Oper} {v:AV} {A:St} {s:List Pend} {φ':cO} (S:Ssa ops) (N:ops[j]?=some a) (Q:ops[i]?=some o) (O:j≠i) (G:∀d,o.dst=some d->d∉looks ops a)
  (h:PQ E ops q frA stA φ ps j a)
  (R:∀r,er a.op=.pure->dt a.op E frA stA=some r->(∃p,ew j a.op E frA r=some p/\∀x∈p,x∈ps)->dt a.op E frA A=some r/\(∃p,ew j a.op E frA r=some p/\∀x∈p,x∈s))
  (M:∀b ab,stA[b]?=some ab->φ b=none->q<=b->Pend.blk j b ab∈ps->A[b]?=some ab/\φ' b=none/\Pend.blk j b ab∈s):
  PQ E ops q (put frA o.dst v) A φ' s j a:=by
 obtain⟨r,I,f⟩:=h;have n:∀x∈a.op.operands,ku frA (put frA o.dst v) x:=by intro x V t e;subst e;exact(zX λe=>G t e<|Gq V).symm
 have U:eR ops (put frA o.dst v).tm a=eR ops frA.tm a:=D4 λt T=>zX λe=>G t e T;refine⟨r,λd D H=>?_,?_⟩
 .rw[CW] at H;rw[zX λe=>O<|S.once j i a o d N Q D e];exact I d D H
 rw[U]
 rcases f with f | ⟨g,c,l,m⟩ | ⟨g,c,ab,mk,b,l,m,K,L,C,J⟩
 .exact .inl f
 .obtain⟨u,p,y,z⟩:=R r c l m;exact .inr<|.inl ⟨g,c,by rw[<-IY n];exact u,p,by rw[<-Lo n];exact y,z⟩
 obtain⟨u,y,z⟩:=M b ab K L C J;exact .inr<|.inr ⟨g,c,ab,mk,b,by rw[<-IZ n];exact l,m,u,y,C,z⟩
theorem DInv.take (a:DInv E F ops φ0 st0 w0 kd ro df cs lA ps frA stA D φ w tmps frD) (K:Ssa ops) {i:Nat} {o:Oper} (s:ops[i]?=some o) (y:gF lA i=false) (W:∀q,cX o q=true->gF lA q=true)
  {v:AV} {p:List Pend} {n:St} (L:n=stA\/∃ab,n=stA++[ab]) (X:Sess E F φ n w) (H:Ext0 φ stA w φ n w)
  (T:PQ E ops st0.length (put frA o.dst v) n φ (p++ps) i o) (z:∀j b ab,Pend.blk j b ab∈p->j=i/\b=stA.length/\stA.length<n.length):
  DInv E F ops φ0 st0 w0 kd ro df cs (fm lA i true) (p++ps) (put frA o.dst v) n D φ w tmps frD:=by
 have R:i<lA.length:=by rw[a.lenA];exact iZ s
 have N:D.getD i false=false:=by
  cases G:D.getD i false with
  | false=>rfl
  | true=>rw[a.sub i G] at y;cases y
 have S:∀(j:Nat) l,ops[j]?=some l->gF lA j=true->∀d,o.dst=some d->d∉looks ops l:=by intro j l f u d G I;rw[a.clA j l u f i<|K.reads j i l o d f s G I] at y;cases y
 have g:=H.goes (F:=F)
 refine⟨by rw[ip];simpa using a.lenA,a.lenD,λj f=>BG<|a.sub j f,?_,X,a.ext.trans H,a.old,a.fr.mono g λ_ _ h=>h,by rw[(vc frA o.dst v).1];exact a.df,
  by rw[(vc frA o.dst v).2.1];exact a.rc,by rw[(vc frA o.dst v).2.2];exact a.ro,by rw[CW];exact a.len,?_,?_,?_,?_⟩
 .intro j l f hoj q hq;by_cases e:i=j
  .subst e;rw[s] at hoj;cases hoj;exact BG<|W q hq
  rw[E9 e] at f;exact BG<|a.clA j l f hoj q hq
 .intro t;by_cases e:o.dst=some t
  .exact .inl ⟨i,o,s,e,I4 R,N⟩
  rw[zX e]
  rcases a.tm t with⟨j,l,m,c,h3,h4⟩ | h
  .exact .inl ⟨j,l,m,c,BG h3,h4⟩
  exact .inr h
 .intro j l f u hDj;by_cases e:i=j
  .subst e;rw[s] at f;cases f;exact T
  rw[E9 e] at u
  refine PQ.other K f s (λM=>e M.symm) (S j l f u) (a.pend j l f u hDj) (λr _ J ⟨q,U,V⟩=>⟨?_,q,U,λx Y=>tS.2<|.inr<|V x Y⟩)
   (λb ab C O _ Q=>⟨?_,O,tS.2<|.inr Q⟩)
  .rcases L with rfl | ⟨ab,rfl⟩
   .exact J
   exact Pi J
  rcases L with rfl | ⟨ab',rfl⟩
  .exact C
  rw[tI<|iZ C];exact C
 .intro j b ab I
  rcases tS.1 I with h | h
  .obtain⟨_,rfl,c⟩:=z j b ab h;exact c
  have:=a.psb j b ab h;have:=H.len;omega
 intro j A b ab ab' m c
 rcases tS.1 m with m | m
 .obtain⟨rfl,rfl,_⟩:=z j b ab m
  rcases tS.1 c with c | c
  .exact(z A _ ab' c).1.symm
  have:=a.psb A _ ab' c;omega
 rcases tS.1 c with c | c
 .obtain⟨rfl,rfl,_⟩:=z A b ab' c;have:=a.psb j _ ab m;omega
 exact a.psi j A b ab ab' m c
theorem Pm {e a:Fr} {b:Option Tmp} {r:AV} {t:Nat} (h:e.tm.length=a.tm.length) (f:b=some t) (g:∀d,b=some d->d<a.tm.length->fD a.tm d=r):
  fD (put e b r).tm t=fD a.tm t:=by
 subst f;rw[CU];simp only
 rcases tH t a.tm.length with c | c
 .rw[D5<|by omega,g t rfl c]
 rw[zv,zv,ip,tF<|by simp;omega,tF c]
theorem DInv.run (a:DInv E F ops φ0 st0 w0 kd ro df cs lA ps frA stA D φ w tmps frD) (aj:Ssa ops) {opsA:Array Oper} (y:opsA.toList=ops) {i:Nat} (hi:i∈Region.ready .any opsA D) (V:gF lA i=true)
  (fn:FuncId) (rest:List Nat) (k:List Item):
  ∃φ' w' Z aa,DInv E F ops φ0 st0 w0 kd ro df cs lA ps frA stA (D.setIfInBounds i true) φ' w' Z aa/\
   Steps E.P (lone (cF fn kd ro tmps df (.inRegion opsA (i::rest)::k)) cs w) (lone (cF fn kd ro Z df (.inRegion opsA rest::k)) cs w'):=by
 obtain⟨o,C,ae,ac,hr⟩:=I3 hi;have Q:ops[i]?=some o:=by rw[<-y];simpa using C
 obtain⟨r,ah,ai⟩:=a.pend i o Q V ac;have U:=a.agree aj Q hr;have W:∀x∈o.op.operands,ku frD frA x:=by intro x X t e;subst e;exact U t<|Gq X
 have R:=D4 (ops:=ops) (o:=o) U
 have H:∀(φ':cO) (w':World) (u:Value),Sess E F φ' stA w'->Ext0 φ stA w φ' stA w'->(∀b,b<st0.length->φ' b=φ b)->VRel (Bd F φ' stA) w' φ' r u->
   (∀(j:Nat) l b ab,j≠i->ops[j]?=some l->φ b=none->Pend.blk j b ab∈ps->φ' b=none)->
   DInv E F ops φ0 st0 w0 kd ro df cs lA ps frA stA (D.setIfInBounds i true) φ' w' (i1 tmps o.dst u) (put frD o.dst r):=by
  intro φ' w' u hS N ag G af;have g:=N.goes (F:=F)
  refine⟨a.lenA,by simpa using a.lenD,λj m=>?_,a.clA,hS,a.ext.trans N,λb A=>by rw[ag b A,a.old b A],(a.fr.mono g N.phi).put o.dst G,
   by rw[(vc frD o.dst r).1];exact a.df,by rw[(vc frD o.dst r).2.1];exact a.rc,by rw[(vc frD o.dst r).2.2];exact a.ro,by rw[CW];exact a.len,λt=>?_,λj l m ad z=>?_,a.psb,a.psi⟩
  .by_cases e:i=j
   .subst e;exact V
   rw[getD_set_ne false e] at m;exact a.sub j m
  .by_cases e:o.dst=some t
   .exact .inr (Pm a.len e ah)
   rw[zX e]
   rcases a.tm t with⟨j,l,d,f,I,J⟩ | h
   .refine .inl ⟨j,l,d,f,I,?_⟩;have n:i≠j:=λe'=>(by subst e';rw[Q] at d;cases d;exact e f);rw[getD_set_ne false n];exact J
   exact .inr h
  have n:i≠j:=λe=>(by subst e;have:(D.setIfInBounds i true).getD i false=true:=(by simp[ae]);rw[this] at z;cases z);rw[getD_set_ne false n] at z;obtain⟨r',q1,s⟩:=a.pend j l m ad z;refine⟨r',q1,?_⟩
  rcases s with s | s | ⟨I,J,ab,mk,b,K,L,M,p,T,v⟩
  .exact .inl s
  .exact .inr (.inl s)
  exact .inr<|.inr ⟨I,J,ab,mk,b,K,L,M,af j l b ab (λe=>n e.symm) m p v,T,v⟩
 rcases ai with⟨hwf,rfl⟩ | ⟨hwt,hk,hp,_⟩ | ⟨hwt,hk,ab,mk,b,K,L,M,p,T,v⟩
 .
  have q:=D0 y a.fr.tm (by rw[R];exact hwf);exact⟨φ,w,_,_,H φ w undef a.sess (Ext0.refl _ _ _) (λ_ _=>rfl) VRel.undef λ_ _ _ _ _ _ h _=>h,.one<|Lh C q⟩
 .have O:∀c,o.op≠.defer c:=by intro c e;rw[e] at hk;simp[er] at hk
  have q:=D0 y a.fr.tm (by rw[R];exact hwt);obtain⟨u,d,f⟩:=KZ a.sess a.fr.tm (show dt o.op E frD stA=some r by rw[IY W];exact hp);exact⟨φ,w,_,_,H φ w u a.sess (Ext0.refl _ _ _) (λ_ _=>rfl) f λ_ _ _ _ _ _ h _=>h,.one<|E5 C q (.inr O) d⟩
 have O:∀c,o.op≠.defer c:=by intro c e;rw[e] at hk;simp[er] at hk
 have q:=D0 y a.fr.tm (by rw[R];exact hwt);obtain⟨hl,ak,u,d,f⟩:=Lb a.sess a.fr.tm (show eH o.op E frD=some (ab,mk) by rw[IZ W];exact K);obtain⟨s1,Y⟩:=a.sess.realize M hl p ak λB' g=>(f b _ B' (BC p) (by simp[bJ]) g).1;have G:=(f b (bJ φ b w.1.size 0) _ (BC p) (by simp[bJ])<|Y.goes (F:=F)).2;rw[<-L] at G;refine⟨_,_,_,_,H _ _ u s1 Y (λx X=>by simp[bJ];omega) G λj l S ab' n m A hm=>?_,.one<|E5 C q (.inr O) d⟩;have:S≠b:=λe=>by subst e;exact n<|a.psi j i S ab' ab hm v
 simp[bJ,this,A]
end
end Go.Proofs.YthcfmhgihcjloaaGreatDoor.Gx
namespace Go.Proofs.YthcfmhgihcjloaaGreatDoor.Gx
open Go
theorem Ly {E:Env} {o:Oper} {st:St}:∀{ps d:List Pend},l0 E o st ps=some d->(∀x∈d,x∈ps)/\∀x∈ps,cX o x.num=true\/(o8 E st x=true/\x∈d)
 | [],d,h=>by simp[l0] at h;subst h;exact⟨λx c=>by simp at c,λx c=>by simp at c⟩
 | p::ps,d,h=>by
  unfold l0 at h;split at h
  .cases h
  rename_i g f;obtain⟨i1,e⟩:=Ly f;split at h
  .rename_i hw;simp at h;subst h;refine⟨λx c=>by simp[i1 x c],λx c=>?_⟩
   rcases tW.1 c with rfl | c
   .exact .inl hw
   exact e x c
  split at h
  .rename_i hw hs;simp at h;subst h;refine⟨λx c=>?_,λx c=>?_⟩
   .rcases tW.1 c with rfl | c
    .simp
    simp[i1 x c]
   rcases tW.1 c with rfl | c
   .exact .inr ⟨hs,by simp⟩
   exact(e x c).imp id (λ⟨a,b⟩=>⟨a,by simp[b]⟩)
  cases h
theorem Gr:∀(ops:List Oper) (tm:List AV),(gq ops tm).length=tm.length
 | [],tm=>rfl
 | o::ops,tm=>by
  unfold gq;split
  .rw[Gr ops,ip];simp
  exact Gr ops tm
theorem I5:∀(ops:List Oper) (tm:List AV) (t:Nat),t<tm.length->(fD (gq ops tm) t=.unk)\/(fD (gq ops tm) t=fD tm t/\∀o∈ops,o.dst≠some t)
 | [],tm,t,_=>.inr ⟨rfl,λo g=>by simp at g⟩
 | o::ops,tm,t,ht=>by
  unfold gq
  cases f:o.dst with
  | none=>
   rcases I5 ops tm t ht with h | ⟨b,c⟩
   .exact .inl h
   refine .inr ⟨b,λx a=>?_⟩
   rcases tW.1 a with rfl | a
   .rw[f];simp
   exact c x a
  | some d=>
   simp only
   rcases I5 ops (fm tm d .unk) t (by rw[ip];simpa using ht) with h | ⟨b,c⟩
   .exact .inl h
   by_cases e:d=t
   .subst e;rw[D5 ht] at b;exact .inl b
   rw[Lv e] at b;refine .inr ⟨b,λx a=>?_⟩
   rcases tW.1 a with rfl | a
   .rw[f];simp[e]
   exact c x a
theorem Fa {tm:List AV} {t:Nat} {x:AV} (h:tm[t]?=some x):fD tm t=x:=by rw[zv,h];rfl
theorem Pn {a b:List AV} (f:a.length=b.length) (h:∀t,fD a t=fD b t):a=b:=by
 apply List.ext_getElem?;intro i
 rcases tH i a.length with c | e
 .have h1:=Fa<|tD c;have d:=Fa (tD<|show i<b.length by omega);rw[tD c,tD<|show i<b.length by omega,<-h1,<-d,h i]
 rw[tF e,tF<|by omega]
section
variable {E:Env} {F:Nat->Prop} {ops:List Oper} {φ0:cO} {st0:St} {w0:World} {kd:CallKind} {ro:Option Nat} {df:List Deferred} {cs:List Frame}
 {lA:List Bool} {ps:List Pend} {frA:Fr} {stA:St} {D:Array Bool} {φ:cO} {w:World} {tmps:Array Value} {frD:Fr}
theorem I6 {D:Array Bool} {i:Nat} (c:i<D.size) (a:D.getD i false=false):(D.setIfInBounds i true).toList.count true=D.toList.count true+1:=by
 have key:∀(l:List Bool) (i:Nat),l[i]?=some false->(l.set i true).count true=l.count true+1:=by
  intro l
  induction l with
  | nil=>intro i h;simp at h
  | cons b l d=>
   intro i h
   cases i with
   | zero=>simp at h;subst h;simp
   | succ i=>simp at h;simp only[List.set_cons_succ,List.count_cons,d i h];omega
 rw[vq];refine key _ _ ?_;simp[Array.getD,c] at a;simp[c,a]
theorem Lz {D:Array Bool} (h:D.toList.count true=D.size) (i:Nat) (a:i<D.size):D.getD i false=true:=by have:∀b∈D.toList,true=b:=List.count_eq_length.1 (by simpa using h);have c:=this D[i] (by simp);simp[Array.getD,a,<-c]
theorem DInv.done (e:DInv E F ops φ0 st0 w0 kd ro df cs lA ps frA stA D φ w tmps frD) (m:∀i,i<D.size->D.getD i false=true):FRel (Bd F φ stA) w φ frA kd ro tmps df cs:=by
 have l:frD.tm=frA.tm:=Pn e.len (λt=>by
  rcases e.tm t with⟨i,o,f,_,_,h4⟩ | h
  .rw[m i<|by rw[e.lenD];exact iZ f] at h4;cases h4
  exact h)
 have:frD=frA:=by obtain⟨a,b,c,d⟩:=frD;obtain⟨n,p,q,r⟩:=frA;have f:=e.df;have g:=e.rc;have j:=e.ro;simp only at l f g j;subst l;subst f;subst g;subst j;rfl
 rw[<-this];exact e.fr
theorem LA {af:uY} (ar:jF E af) (J:Ssa ops) {opsA:Array Oper} (Q:opsA.toList=ops) {fn:FuncId} (k:List Item) (a6:Array Value):
  ∀(m:Nat) (G:List Bool) (ps:List Pend) (s:Fr) (O:St) (out:OpOut),drawn E af ops m G ps s O=some out->
  ∀(f t:Nat) (D:Array Bool) (φ:cO) (w:World) (tmps:Array Value) (A:Fr),DInv E F ops φ0 st0 w0 kd ro df cs G ps s O D φ w tmps A->f+D.toList.count true=ops.length->
   OpOk E F φ0 st0 w0 fn kd ro a6 df cs (lone (cF fn kd ro tmps df (.inRegion opsA (fS opsA f t D)::k)) cs w) k out
 | 0,_,_,_,_,_,h=>by simp[drawn] at h
 | m+1,G,ps,s,O,out,h=>by
  have ih:=LA (fn:=fn) ar J Q k a6 m;unfold drawn at h;have ae:∀i,G.length=ops.length->(i∈fd G ops G 0↔∃o,ops[i]?=some o/\gF G i=false/\∀q,cX o q=true->gF G q=true):=by intro i Z;rw[Lp Z.symm];simp only[Nat.zero_le,true_and,Nat.sub_zero,Pk]
  have skip:∀(i:Nat) (o:Oper),ops[i]?=some o->eR ops s.tm o=some false->i∈fd G ops G 0->drawn E af ops m (fm G i true) ps (put s o.dst<|.tup []) O=some out->
    ∀(f t:Nat) (D:Array Bool) (φ:cO) (w:World) (tmps:Array Value) (A:Fr),DInv E F ops φ0 st0 w0 kd ro df cs G ps s O D φ w tmps A->f+D.toList.count true=ops.length->
     OpOk E F φ0 st0 w0 fn kd ro a6 df cs (lone (cF fn kd ro tmps df (.inRegion opsA (fS opsA f t D)::k)) cs w) k out:=by
   intro i o g R hi h f t D φ w tmps A c X;obtain⟨o',T,H,hr⟩:=(ae i c.lenA).1 hi;rw[g] at T;cases T;have aj:∀t∈looks ops o,fD (put s o.dst<|.tup []).tm t=fD s.tm t:=by intro t ht;refine zX λe=>?_;have:=J.edge i o i g<|J.reads i i o o t g g e ht;omega
   have L:=c.take J g H hr (v:=.tup []) (p:=[]) (.inl rfl) c.sess (Ext0.refl _ _ _)
    ⟨.tup [],λd S aa=>by rw[CW] at aa;rw[CU,S];exact D5 aa,.inl ⟨by rw[D4 aj];exact R,rfl⟩⟩ (λj b ab I=>by simp at I)
   exact ih _ _ _ _ _ h f t D φ w tmps A L X
  split at h
  .
   rename_i i o U;obtain⟨hi,g,hk⟩:=Lr U;split at h
   .rename_i R;exact skip i o g R hi h
   .rename_i R;split at h
    .rename_i v p st' hqo;intro f t D φ w tmps A c X;obtain⟨o',T,H,hr⟩:=(ae i c.lenA).1 hi;rw[g] at T;cases T;have aj:∀t∈looks ops o,fD (put s o.dst v).tm t=fD s.tm t:=(by intro t ht;refine zX λe=>?_;have:=J.edge i o i g<|J.reads i i o o t g g e ht;omega);have ad:∀x∈o.op.operands,ku s (put s o.dst v) x:=(by intro x M t e;subst e;exact(aj t<|Gq M).symm);have a9:∀d,o.dst=some d->d<(put s o.dst v).tm.length->fD (put s o.dst v).tm d=v:=(by intro d S aa;rw[CW] at aa;rw[CU,S];exact D5 aa);unfold uI at hqo;split at hqo
     .rename_i hkp;split at hqo
      .rename_i v' hv;split at hqo
       .rename_i p' hp;simp at hqo;obtain⟨rfl,rfl,rfl⟩:=hqo
        have L:=c.take J g H hr (v:=v') (p:=p') (.inl rfl) c.sess (Ext0.refl _ _ _)
         ⟨v',a9,.inr<|.inl ⟨by rw[D4 aj];exact R,hkp,by rw[<-IY ad];exact hv,p',by rw[<-Lo ad];exact hp,λx M=>tS.2<|.inl M⟩⟩
         (λj b ab I=>by
           exfalso
           cases am:o.op<;>rw[am] at hp<;>simp only[ew] at hp<;>first
            | (simp at hp;subst hp;simp at I;done)
            | (split at hp<;>simp at hp<;>subst hp<;>simp at I;done)
            | skip
           all_goals (simp only[gh] at hp;split at hp<;>simp at hp<;>subst hp<;>simp at I))
        exact ih _ _ _ _ _ h f t D φ w tmps A L X
       cases hqo
      cases hqo
     .rename_i hka;split at hqo
      .rename_i ab mk hal;simp at hqo;obtain⟨rfl,rfl,rfl⟩:=hqo;obtain⟨g1,g2⟩:=c.sess.ghost ab
       have L:=c.take J g H hr (v:=mk O.length) (p:=[.blk i O.length ab]) (.inr ⟨ab,rfl⟩) g1 g2.toExt0
        ⟨mk O.length,a9,.inr<|.inr ⟨by rw[D4 aj];exact R,hka,ab,mk,O.length,by rw[<-IZ ad];exact hal,rfl,by simp,c.sess.fresh<|tE _,c.ext.len,by simp⟩⟩
        (λj b ab' I=>by simp at I;exact⟨I.1,I.2.1,by simp⟩)
       exact ih _ _ _ _ _ h f t D φ w tmps A L X
      cases hqo
     cases hqo
    cases h
   cases h
  rename_i U;split at h
  .
   rename_i aR;split at h
   .simp at h;subst h;intro f
    induction f with
    | zero=>intro t D φ w tmps A c X;have ah:=Lz (D:=D) (by have:=c.lenD;omega);refine⟨φ,w,tmps,df,cs,c.sess,⟨c.ext,c.old⟩,c.done ah,.refl _ _,.one ?_⟩;exact IT
    | succ f a3=>
     intro t D φ w tmps A c X
     rcases Lw opsA (f+1) t D with⟨K,l⟩ | ⟨f',t',i,K,l,h3⟩
     .have ah:∀i,i<D.size->D.getD i false=true:=by
       intro i hi
       cases S:D.getD i false with
       | true=>rfl
       | false=>
        rcases l with l | l
        .omega
        exact absurd l<|Lx (by rw[Q];exact J) (by rw[c.lenD,<-Q];simp) hi S
      rw[K];exact⟨φ,w,tmps,df,cs,c.sess,⟨c.ext,c.old⟩,c.done ah,.refl _ _,.one IT⟩
     obtain rfl:f'=f:=(by omega);obtain⟨o,aO,aM,aG,hr⟩:=I3 l;have g:ops[i]?=some o:=by rw[<-Q];simpa using aO
     have H:gF G i=true:=by
      cases H:gF G i with
      | true=>rfl
      | false=>have:=(ae i c.lenA).2 ⟨o,g,H,λq U=>c.sub q<|hr q U⟩;rw[aR] at this;simp at this
     obtain⟨φ',w',a5,ap,L,hs⟩:=c.run J Q l H fn (fS opsA f' t'<|D.setIfInBounds i true) k;rw[h3];have:=a3 t' _ φ' w' a5 ap L (by rw[I6 aM aG];omega);exact OpOk.of_steps hs (Ext.refl _ _ _) (.refl _ _) this
   cases h
  .
   rename_i i an;rw[get?_eq] at h;split at h
   .cases h
   rename_i o g;split at h
   .rename_i R;exact skip i o g R (by rw[an];simp) h
   .rename_i R;intro f
    induction f with
    | zero=>intro t D φ w tmps A c X;have ah:=Lz (D:=D) (by have:=c.lenD;omega);obtain⟨o',T,H,_⟩:=(ae i c.lenA).1 (by rw[an];simp);have:=c.sub i (ah i<|by rw[c.lenD];exact iZ g);rw[H] at this;cases this
    | succ f a3=>
     intro t D φ w tmps A c X;obtain⟨o',T,a8,_⟩:=(ae i c.lenA).1 (by rw[an];simp);rw[g] at T;cases T
     have aH:D.getD i false=false:=by
      cases S:D.getD i false with
      | false=>rfl
      | true=>rw[c.sub i S] at a8;cases a8
     rcases Lw opsA (f+1) t D with⟨K,l⟩ | ⟨f',t',j,K,l,h3⟩
     .rcases l with l | l
      .omega
      exact absurd l<|Lx (by rw[Q];exact J) (by rw[c.lenD,<-Q];simp) (by rw[c.lenD];exact iZ g) aH
     obtain rfl:f'=f:=(by omega);obtain⟨oj,a1,ax,a7,ao⟩:=I3 l;have a0:ops[j]?=some oj:=by rw[<-Q];simpa using a1
     cases al:gF G j with
     | true=>obtain⟨φ',w',a5,ap,L,hs⟩:=c.run J Q l al fn (fS opsA f' t'<|D.setIfInBounds j true) k;rw[h3];have:=a3 t' _ φ' w' a5 ap L (by rw[I6 ax a7];omega);exact OpOk.of_steps hs (Ext.refl _ _ _) (.refl _ _) this
     | false=>
      have aL:j=i:=(by have:=(ae j c.lenA).2 ⟨oj,a0,al,λq U=>c.sub q<|ao q U⟩;rw[an] at this;simpa using this);subst aL;rw[g] at a0;cases a0;have ad:=c.agree J g ao;have am:∀x∈o.op.operands,ku A s x:=(by intro x M t e;subst e;exact ad t<|Gq M);have aC:=D0 Q c.fr.tm (show eR ops A.tm o=some true by rw[D4 ad];exact R);rw[h3];split at h
      .rename_i v st' he;split at h
       .rename_i ps' hstab;have au:iK o.op E af A O=some (.val v st'):=(by rw[Ln am];exact he);obtain⟨φ',w',u,s1,N,s3,s4⟩:=DZ ar c.sess c.fr.tm au fn kd ro df k cs opsA j (fS opsA f' t'<|D.setIfInBounds j true) a1 aC;obtain⟨p1,p2⟩:=Ly hstab;have aF:=N.toExt0.goes (F:=F);have aN:j<G.length:=by rw[c.lenA];exact iZ g
        have L:DInv E F ops φ0 st0 w0 kd ro df cs (fm G j true) ps' (put s o.dst v) st' (D.setIfInBounds j true) φ' w' (i1 tmps o.dst u) (put A o.dst v):=by
         refine⟨by rw[ip];simpa using c.lenA,by simpa using c.lenD,λx M=>?_,λx W M Y q U=>?_,s1,c.ext.trans N.toExt0,
          λb H=>by rw[N.old b<|tO H c.ext.len,c.old b H],(c.fr.mono aF N.phi).put o.dst s3,
          by rw[(vc A o.dst v).1,(vc s o.dst v).1];exact c.df,by rw[(vc A o.dst v).2.1,(vc s o.dst v).2.1];exact c.rc,
          by rw[(vc A o.dst v).2.2,(vc s o.dst v).2.2];exact c.ro,by rw[CW,CW];exact c.len,λt=>?_,λx W Y aq ac=>?_,
          λa b ab I=>tO (c.psb a b ab<|p1 _ I) N.len,λa a' b ab ab' K l=>c.psi a a' b ab ab' (p1 _ K)<|p1 _ l⟩
         .by_cases e:j=x
          .subst e;exact I4 aN
          rw[getD_set_ne false e] at M;exact BG<|c.sub x M
         .by_cases e:j=x
          .subst e;rw[g] at Y;cases Y;exact BG<|c.sub q<|ao q U
          rw[E9 e] at M;exact BG<|c.clA x W M Y q U
         .by_cases e:o.dst=some t
          .right;rw[CU,CU,e];simp only
           rcases tH t s.tm.length with Z | Z
           .rw[D5 Z,D5<|by rw[c.len];exact Z]
           rw[zv,zv,ip,ip,tF<|by rw[tZ,c.len];exact Z,tF<|by rw[tZ];exact Z]
          rw[zX e,zX e]
          rcases c.tm t with⟨x,W,K,l,h3,h4⟩ | h
          .have ak:j≠x:=λe'=>(by subst e';rw[al] at h3;cases h3);exact .inl ⟨x,W,K,l,BG h3,by rw[getD_set_ne false ak];exact h4⟩
          exact .inr h
         have ak:j≠x:=λe=>(by subst e;have:(D.setIfInBounds j true).getD j false=true:=(by simp[ax]);rw[this] at ac;cases ac);rw[E9 ak] at aq;rw[getD_set_ne false ak] at ac
         have az:cX o x=false:=by
          cases aS:cX o x with
          | false=>rfl
          | true=>rw[ao x aS] at ac;cases ac
         refine PQ.other J Y g (λe=>ak e.symm) (λd S I=>?_) (c.pend x W Y aq ac) (λr hk aQ ⟨p,C,aB⟩=>?_) λb ab aI aJ aV I=>?_
         .have:=c.clA x W aq Y j<|J.reads x j W o d Y g S I;rw[al] at this;cases this
         .
          have shape:p=[]\/(∃t a av,W.op=.load t a/\ev E s a=some av/\p=[.load x t av r])\/p=[.busy x]:=by
           cases aP:W.op<;>rw[aP] at C<;>simp only[ew] at C<;>first
            | (simp at C;exact .inl C)
            | skip
           .rename_i t a;split at C
            .rename_i av hav;simp at C;exact .inr<|.inl ⟨t,a,av,rfl,hav,C.symm⟩
            cases C
           .simp at C;exact .inr<|.inr C.symm
           simp only[gh] at C;split at C
           .simp at C;exact .inr<|.inr C.symm
           .simp at C;exact .inl C
           cases C
          rcases shape with rfl | ⟨t,a,av,e1,e2,rfl⟩ | rfl
          .exact⟨Pj aQ C,[],C,λy V=>by simp at V⟩
          .have ay:=aB _<|List.mem_singleton.2 rfl
           rcases p2 _ ay with n | ⟨n,aw⟩
           .simp only[Pend.num] at n;rw[az] at n;cases n
           simp only[o8] at n;split at n
           .rename_i u' a2;have:=E6 _ _ n;subst this;refine⟨?_,_,C,λy V=>by simp at V;subst V;exact aw⟩;rw[e1];simp only[dt,o6,e2];exact a2
           cases n
          have ay:=aB _<|List.mem_singleton.2 rfl
          rcases p2 _ ay with n | ⟨n,_⟩
          .simp only[Pend.num] at n;rw[az] at n;cases n
          simp[o8] at n
         
         rcases p2 _ I with n | ⟨n,aw⟩
         .simp only[Pend.num] at n;rw[az] at n;cases n
         simp only[o8,get?_eq] at n;split at n
         .rename_i ab' hab;have:=Pe n;subst this;exact⟨hab,by rw[N.old b<|iZ aI];exact aJ,aw⟩
         cases n
        have:=ih _ _ _ _ _ h f' t' _ φ' w' _ _ L (by rw[I6 ax a7];omega);exact OpOk.of_steps s4 (Ext.refl _ _ _) (.refl _ _) this
       cases h
      .rename_i ch st' he;simp at h;subst h;have au:iK o.op E af A O=some (.pan ch st'):=(by rw[Ln am];exact he);obtain⟨φ',w',aE,s1,N,s3,s4⟩:=DZ ar c.sess c.fr.tm au fn kd ro df k cs opsA j (fS opsA f' t'<|D.setIfInBounds j true) a1 aC;refine⟨φ',w',tmps,df,cs,aE,_,s1,⟨c.ext.trans N.toExt0,λb H=>by rw[N.old b<|tO H c.ext.len,c.old b H]⟩,?_,.refl _ _,s3,s4⟩;have ag:=c.fr.mono N.toExt0.goes N.phi;obtain⟨a4,aT,aW,aY⟩:=s;obtain⟨aD,aU,aX,aZ⟩:=A;have e1:=c.df;have e2:=c.rc;have e3:=c.ro;simp only at e1 e2 e3;subst e1;subst e2;subst e3;refine⟨⟨?_,λx y u' V a2=>?_⟩,ag.df,ag.rc,ag.ro⟩
       .simp only[oR];rw[Gr];have K:=ag.tm.1;have l:=c.len;simp only at K l;omega
       simp only[oR] at V;have aa:x<a4.length:=by have:=iZ V;rwa [Gr] at this
       rcases I5 ops a4 x aa with ai | ⟨ai,aK⟩
       .rw[Fa V] at ai;subst ai;exact .unk _
       rw[Fa V] at ai
       have hD:fD aD x=fD a4 x:=by
        rcases c.tm x with⟨z,oz,K,l,_,_⟩ | h
        .exact absurd l (aK oz<|tX K)
        exact h
       have aA:x<aD.length:=(by have:=c.len;simp only at this;omega);have:=ag.tm.2 x _ u' (tD aA) a2;rw[<-Fa (tD aA),hD,<-ai] at this;exact this
      cases h
   cases h
  cases h
end
end Go.Proofs.YthcfmhgihcjloaaGreatDoor.Gx
namespace Go.Proofs.YthcfmhgihcjloaaGreatDoor.Gx
open Go
def LB (P:Program) (m:Machine) (fn:FuncId) (kd:CallKind) (ro:Option Nat) (tmps:Array Value) (df:List Deferred) (cs:List Frame) (B:Nat->Prop) (w:World) (φ:cO) (k:List Item):Ex->Prop
 | .normal=>Steps P m<|lone (cF fn kd ro tmps df k) cs w
 | .exit id=>∃k0,exitTo id k0=exitTo id k/\Steps P m (lone (cF fn kd ro tmps df (.code (.exit id)::k0)) cs w)
 | .ret=>∃k0,Steps P m<|lone (cF fn kd ro tmps df (.code .ret::k0)) cs w
 | .pan ch=>∃chain k0,All2 (PRelC B w φ) ch chain/\Steps P m (lone { cF fn kd ro tmps df k0 with mode:=.panicking chain } cs w)
def ExOk (E:Env) (F:Nat->Prop) (φ:cO) (st:St) (w:World) (fn:FuncId) (kd:CallKind) (ro:Option Nat) (cs:List Frame) (m:Machine) (k:List Item) (r:Ex × Fr × St):Prop:=
 ∃φ' w' tmps' df' cs',Sess E F φ' r.2.2 w'/\Ext φ st w φ' r.2.2 w'/\FRel (Bd F φ' r.2.2) w' φ' r.2.1 kd ro tmps' df' cs'/\CsLike kd cs cs'/\
  LB E.P m fn kd ro tmps' df' cs' (Bd F φ' r.2.2) w' φ' k r.1
section
variable {E:Env} {F:Nat->Prop} {φ:cO} {st:St} {w:World}
theorem OpOk.ex {fn:FuncId} {kd:CallKind} {ro:Option Nat} {tmps:Array Value} {df:List Deferred} {cs:List Frame} {m:Machine} {k:List Item} {out:Option OpOut} {r:Ex × Fr × St} (a:oE out=some r)
  (h:∀o,out=some o->OpOk E F φ st w fn kd ro tmps df cs m k o):ExOk E F φ st w fn kd ro cs m k r:=by
 cases out with
 | none=>simp[oE] at a
 | some o=>
  have h:=h o rfl
  cases o with
  | ok fr' st'=>simp[oE] at a;subst a;obtain⟨φ',w',j,c,b,d,e,f,g,i⟩:=h;exact⟨φ',w',j,c,b,d,e,f,g,i⟩
  | pan ch fr' st'=>simp[oE] at a;subst a;obtain⟨φ',w',j,c,b,l,p,d,e,f,g,i,n⟩:=h;exact⟨φ',w',j,c,b,d,e,f,g,l,p,i,n⟩
theorem ExOk.of_steps {fn:FuncId} {kd:CallKind} {ro:Option Nat} {cs d:List Frame} {m f:Machine} {k:List Item} {φ':cO} {g:St} {w':World} {r:Ex × Fr × St}
  (c:Steps E.P m f) (t:Ext φ st w φ' g w') (s:CsLike kd cs d) (h:ExOk E F φ' g w' fn kd ro d f k r):ExOk E F φ st w fn kd ro cs m k r:=by
 obtain⟨φ2,v,u,l,j,n,o,p,q,b⟩:=h;refine⟨φ2,v,u,l,j,n,t.trans o,p,s.trans q,?_⟩;obtain⟨ex,fr,x⟩:=r
 cases ex with
 | normal=>exact c.trans b
 | exit id=>obtain⟨a,e,h⟩:=b;exact⟨a,e,c.trans h⟩
 | ret=>obtain⟨a,h⟩:=b;exact⟨a,c.trans h⟩
 | pan ch=>obtain⟨i,a,e,h⟩:=b;exact⟨i,a,e,c.trans h⟩
theorem I7:∀(n i:Nat),gF (List.replicate n false) i=false
 | 0,_i=>rfl
 | _n+1,0=>rfl
 | n+1,i+1=>I7 n i
theorem DInv.start (c:Sess E F φ st w) {ops:List Oper} {kd:CallKind} {ro:Option Nat} {tmps:Array Value} {df:List Deferred} {cs:List Frame} {fr:Fr} (hF:FRel (Bd F φ st) w φ fr kd ro tmps df cs):
  DInv E F ops φ st w kd ro df cs (List.replicate ops.length false) [] fr st (Array.replicate ops.length false) φ w tmps fr where
 lenA:=by simp
 lenD:=by simp
 sub:=λi h=>by
  rcases tH i ops.length with a | a<;>simp[Array.getD,a] at h
 clA:=λi o h=>by rw[I7] at h;cases h
 sess:=c
 ext:=Ext0.refl _ _ _
 old:=λ_ _=>rfl
 fr:=hF
 df:=rfl
 rc:=rfl
 ro:=rfl
 len:=rfl
 tm:=λ_=>.inr rfl
 pend:=λi o _ h=>by rw[I7] at h;cases h
 psb:=λi b ab h=>by simp at h
 psi:=λi j b ab ab' h=>by simp at h
theorem Po {R:Rn} (e:jF E (gU E R)) (j:E.P.follows .mixedOrders=true) (d:Sess E F φ st w) {fn:FuncId} {kd:CallKind} {ro:Option Nat} {tmps:Array Value} {df:List Deferred} {cs:List Frame} {fr:Fr}
  (hF:FRel (Bd F φ st) w φ fr kd ro tmps df cs) {id:Nat} {ops:Array Oper} {a:Bool} {r:Ex × Fr × St} (h:region E R ops.toList a fr st=some r) (k:List Item):
  ExOk E F φ st w fn kd ro cs (lone (cF fn kd ro tmps df (.code (.region id ops a)::k)) cs w) k r:=by
 unfold region at h
 cases a with
 | false=>simp only[tM,if_false] at h;refine ExOk.of_steps (.one O7) (Ext.refl _ _ _) (.refl _ _)<|OpOk.ex (tmps:=tmps) (df:=df) h λo c=>?_;have:=IV e (fn:=fn) (opsA:=ops) rfl k ops.toList 0 (by simp) d hF c;rw[List.range_eq_range'];simpa using this
 | true=>
  simp only[if_true] at h;split at h
  .rename_i hssa;obtain⟨g,b⟩:=d.same_heap (w':={ w with drawn:=w.drawn+1 }) rfl ⟨rfl,rfl,rfl⟩;refine ExOk.of_steps (.one O8) b (.refl _ _)<|OpOk.ex (tmps:=tmps) (df:=df) h λo c=>?_;have f:=hF.mono (b.goes (F:=F)) b.phi;have:=LA (fn:=fn) e (xh hssa) (opsA:=ops) rfl k tmps _ _ _ _ _ _ c ops.size (w.tape w.drawn<|.order fn id) _ _ _ _ _ (DInv.start g f) (by simp[List.count_replicate]);have i:Region.schedule (E.P.follows .mixedOrders) ops (w.tape w.drawn<|.order fn id)=fS ops ops.size (w.tape w.drawn<|.order fn id) (Array.replicate ops.toList.length false):=(by rw[j];simp[Region.schedule,Region.linearise,fS]);rw[i];exact this
  cases h
end
