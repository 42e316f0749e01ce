import Derived.Test.YthcfmhgihcjloaaGreatDoorGxD
import Derived.Below
import Derived.RowKit3
import Derived.Lib.LaidTab
import Derived.Carry
import Derived.RowKit
import Derived.ChangeOld
import Derived.JoinedOf
import Derived.KernelRfl
import GoSem.ClaimGoes
namespace Go.Proofs.YthcfmhgihcjloaaGreatDoor.Gx
open Go
def i3 (E:Env) (R:Rn):Prop:=
 ∀(c:Code) (fr:Fr) (st:St) (r:Ex × Fr × St),R c fr st=some r->∀(F:Nat->Prop) (φ:cO) (w:World) (fn:FuncId) (kd:CallKind) (ro:Option Nat) (tmps:Array Value) (df:List Deferred) (cs:List Frame) (k:List Item),
  (E.P.funcs[fn]?).isSome=true->Sess E F φ st w->FRel (Bd F φ st) w φ fr kd ro tmps df cs->
  ExOk E F φ st w fn kd ro cs (lone (cF fn kd ro tmps df (.code c::k)) cs w) k r
def dI (fr:Frame) (u:FrameMode):Frame:={ fr with mode:=u }
section
variable {P:Program} {fn:FuncId} {kd:CallKind} {tmps:Array Value} {df:List Deferred} {k:List Item} {cs:List Frame} {w:World}
theorem CX:step P (lone (cF fn kd none tmps df (.code .ret::k)) cs w)=.next (lone (dI (cF fn kd none tmps df (.code .ret::k)) .returning) cs w):=
 step_lone_go (by simp[stepG,stepG.exec,cF,dI])
theorem zY:step P (lone (cF fn kd none tmps df []) cs w)=.next (lone (dI (cF fn kd none tmps df []) .returning) cs w):=
 step_lone_go (by simp[stepG,stepG.exec,cF,dI])
theorem Pp {t:TypeId} {u x:Value} (h:(Instr.loadAt t u).run P w=.ok x w):(do loadVar t (<-asAddr u):Sem Value).run P w=.ok x w:=by
 cases u with
 | pointer a=>
  cases a with
  | none=>simp[Instr.loadAt,Instr.sureAddr] at h
  | some a=>simpa [Instr.loadAt,Instr.sureAddr,asAddr] using h
 | _=>simp[Instr.loadAt,Instr.sureAddr] at h
end
section
variable {E:Env} {F:Nat->Prop} {φ:cO} {st:St} {w:World}
def zZ (tmps:Array Value):ResultVar->Sem Value
 | .tmp t=>pure<|tmps.getD t undef
 | .cell a t=>do loadVar t (<-asAddr (tmps.getD a undef))
theorem LC (f:Sess E F φ st w) {tm:List AV} {tmps:Array Value} (b:LRel (Bd F φ st) w φ tm tmps.toList):∀{c:List ResultVar} {vs:List AV},resL E st tm c=some vs->
  ∃us,(c.mapM<|zZ tmps).run E.P w=.ok us w/\LRel (Bd F φ st) w φ vs us
 | [],vs,h=>by simp[resL] at h;subst h;exact⟨[],by simp,.nil⟩
 | r::c,vs,h=>by
  unfold resL at h;split at h
  .rename_i v vs' hv hvs;simp at h;subst h;obtain⟨us,d,e⟩:=LC f b hvs
   cases r with
   | tmp t=>simp at hv;subst hv;exact⟨tmps.getD t undef::us,by simp[zZ,d],.cons (Gg b t) e⟩
   | cell a t=>simp only at hv;obtain⟨x,i,g⟩:=KL f hv<|Gg b a;have j:=Pp i;exact⟨x::us,by rw[vQ,Sem.run_bind,zZ,j];simp[d],.cons g e⟩
  cases h
theorem Pq {B:Nat->Prop} {vs:List AV} {us:List Value} (h:LRel B w φ vs us):VRel B w φ (CG vs) (if h:us.toArray.size=1 then us.toArray[0] else .tuple us.toArray):=by
 cases vs with
 | nil=>rw[h.inv_nil];exact VRel.undef
 | cons v vs=>
  obtain⟨u,l,rfl,b,a⟩:=h.inv_cons
  cases vs with
  | nil=>rw[a.inv_nil];exact b
  | cons m vs=>obtain⟨e,f,rfl,g,i⟩:=a.inv_cons;have:¬(u::e::f).toArray.size=1:=(by simp);rw[dif_neg this];exact .tup (by simpa using h.1) λj x y c d=>h.2 j x y c<|by simpa using d
theorem LD (c:Sess E F φ st w) {tm:List AV} {tmps:Array Value} (d:LRel (Bd F φ st) w φ tm tmps.toList) {fn:Func} {vs:List AV} (h:resL E st tm fn.results.toList=some vs):
  ∃u,(results fn tmps).run E.P w=.ok u w/\VRel (Bd F φ st) w φ (CG vs) u:=by
 obtain⟨us,a,b⟩:=LC c d h;refine⟨_,?_,Pq b⟩
 have e:results fn tmps=(do
   let vs <-fn.results.mapM (zZ tmps)
   pure (if h:vs.size=1 then vs[0] else .tuple vs)):=by
  unfold results;congr 1
 rw[e,vK];simp only[bind_map_left,Sem.run_bind,a];simp
def LeavOk (P:Program) (m:Machine) (cs:List Frame) (B:Nat->Prop) (w:World) (φ:cO) (f:FuncId):Out->Prop
 | .ret v=>∃u fr,VRel B w φ v u/\Steps P m (lone fr cs w)/\fr.fn=f/\fr.leaving P w (.returned u)
 | .pan ch=>∃chain fr,All2 (PRelC B w φ) ch chain/\Steps P m (lone fr cs w)/\fr.fn=f/\fr.leaving P w (.panicked chain)
theorem LeavOk.out {P:Program} {m:Machine} {c:Frame} {cs:List Frame} {B:Nat->Prop} {f:FuncId} {out:Out} (h:LeavOk P m (c::cs) B w φ f out):xf P m c cs B w φ out:=by
 cases out with
 | ret v=>obtain⟨u,fr,a,b,_,d⟩:=h;exact⟨u,a,b.trans<|.one<|step_leave_returned d⟩
 | pan ch=>obtain⟨e,fr,a,b,_,d⟩:=h;exact⟨e,a,b.trans<|.one<|step_leave_panicked d⟩
theorem Pr {P:Program} {f:FuncId} {fn:Func} {c:Code} (b:P.funcs[f]?=some fn) (a:fn.body=some c) (us:Array Value) (kd:CallKind):
  Frame.enter P f us kd=cF f kd none (us++Array.replicate (fn.ntmps - us.size) undef) [] [.code c]:=by
 simp[Frame.enter,cF,b,a]
theorem Gt {f:FuncId} {fn:Func} {c:Code} (h:ff E f=some (fn,c)):E.P.funcs[f]?=some fn/\fn.body=some c:=by
 unfold ff at h;split at h
 .rename_i fn' hf;split at h
  .rename_i c' hb;simp at h;obtain⟨rfl,rfl⟩:=h;exact⟨hf,hb⟩
  cases h
 cases h
theorem Ps {B:Nat->Prop} (n:Nat):LRel B w φ (wM n) (List.replicate n undef):=by
 refine⟨by simp[wM],λj x v a b=>?_⟩;simp only[wM,List.getElem?_replicate] at a b;split at a
 .rename_i hj;rw[if_pos hj] at b;simp at a b;subst a;subst b;exact VRel.undef
 cases a
theorem LE {R:Rn} (p:i3 E R) {f:FuncId} {fn:Func} {c:Code} (A:ff E f=some (fn,c)) {args:List AV} {rc:Option AMode} {m:AMode} {fr:Fr} {n:St} (h:body R fn c args rc st=some (m,fr,n))
  (q:Sess E F φ st w) {us:Array Value} (t:LRel (Bd F φ st) w φ args us.toList) {kd:CallKind} {cs:List Frame}
  (x:match rc with | none=>kd=.normal | some m=>kd=.deferred/\∃c rest,cs=c::rest/\MRel (Bd F φ st) w φ m c.mode):
  ∃φ' w' d b a G u,Sess E F φ' n w'/\Ext φ st w φ' n w'/\FRel (Bd F φ' n) w' φ' fr kd none d b a/\CsLike kd cs a/\MRel (Bd F φ' n) w' φ' m u/\u≠.run/\
   Steps E.P (lone (Frame.enter E.P f us kd) cs w) (lone (dI (cF f kd none d b G) u) a w'):=by
 obtain⟨v,C⟩:=Gt A;have r:(E.P.funcs[f]?).isSome=true:=by simp[v]
 rw[Pr v C];have D:args.length=us.size:=by simpa using t.1
 have o:FRel (Bd F φ st) w φ ⟨args++wM (fn.ntmps - args.length),[],rc,none⟩ kd none (us++Array.replicate (fn.ntmps - us.size) undef) [] cs:=by
  refine⟨?_,.nil,?_,rfl⟩
  .rw[D];simp only[vr,Array.toList_replicate];exact t.append<|Ps _
  cases rc with
  | none=>exact x
  | some m=>exact x
 unfold body at h;split at h
 .rename_i fr' st1 hr;simp at h;obtain⟨rfl,rfl,rfl⟩:=h;obtain⟨φ',w',d,b,a,e,g,i,j,l⟩:=p _ _ _ _ hr F φ w f kd none _ _ cs [] r q o;exact⟨φ',w',d,b,a,_,.returning,e,g,i,j,rfl,by simp,l.trans<|.one zY⟩
 .rename_i fr' st1 hr;simp at h;obtain⟨rfl,rfl,rfl⟩:=h;obtain⟨φ',w',d,b,a,e,g,i,j,y,l⟩:=p _ _ _ _ hr F φ w f kd none _ _ cs [] r q o;exact⟨φ',w',d,b,a,_,.returning,e,g,i,j,rfl,by simp,l.trans<|.one CX⟩
 .rename_i ch fr' st1 hr;simp at h;obtain⟨rfl,rfl,rfl⟩:=h;obtain⟨φ',w',d,b,a,e,g,i,j,s,y,l,z⟩:=p _ _ _ _ hr F φ w f kd none _ _ cs [] r q o;exact⟨φ',w',d,b,a,y,.panicking s,e,g,i,j,⟨s,rfl,l⟩,by simp,z⟩
 cases h
theorem Pu {B:Nat->Prop} {m:AMode} {u:FrameMode} (h:MRel B w φ m u):MRel B w φ (oS m) (settle u):=by
 cases m with
 | returning=>cases h;rfl
 | panicking ch=>
  obtain⟨r,rfl,i⟩:=h
  cases i with
  | nil=>exact⟨[],rfl,.nil⟩
  | cons n f=>
   rename_i a e l p;obtain⟨v,t⟩:=a;obtain⟨y,q,s⟩:=e;obtain⟨b,c,d⟩:=n;simp only at b c d;subst c;subst d
   cases q with
   | true=>
    have j:p.dropWhile (λx=>!x.goexit)=[]:=by
     clear b
     induction f with
     | nil=>rfl
     | cons g _ o=>simp[g.2.2,o]
    simp[oS,settle,j,MRel]
   | false=>exact⟨_,rfl,.cons ⟨b,rfl,rfl⟩ f⟩
theorem Pv {B:Nat->Prop} {m:AMode} {u:FrameMode} (h:MRel B w φ m u) {b:List APan} {a:List PanicEntry} (c:All2 (PRelC B w φ) b a):MRel B w φ (uJ m b) (raised u a):=by
 cases m with
 | returning=>cases h;exact⟨a,rfl,c⟩
 | panicking old=>obtain⟨e,rfl,d⟩:=h;exact⟨a++e,rfl,c.append d⟩
theorem LF {B:Nat->Prop} {m:AMode} {u:FrameMode} (h:MRel B w φ m u):u≠.run:=by
 cases m with
 | returning=>cases h;simp
 | panicking old=>obtain⟨b,rfl,a⟩:=h;simp
def fT (P:Program):Prop:=∀(f:FuncId) (fn:Func),P.funcs[f]?=some fn->fn.body.isSome=true->(fn.name == "runtime.NumGoroutine")=false
theorem LG (g:fT E.P) {f:FuncId} {fn:Func} {c:Code} (h:ff E f=some (fn,c)) (args:Array Value):(callFunc f args).run E.P w=.ok (.enter f args) w:=by
 obtain⟨a,b⟩:=Gt h;have d:=g f fn a (by simp[b]);have e:¬fn.name = "runtime.NumGoroutine":=by simpa using d
 simp[callFunc,a,e,b]
end
end Go.Proofs.YthcfmhgihcjloaaGreatDoor.Gx
namespace Go.Proofs.YthcfmhgihcjloaaGreatDoor.Gx
open Go
section
variable {E:Env} {F:Nat->Prop} {φ:cO} {st:St} {w:World}
theorem Pw {R:Rn} (O:i3 E R) (N:fT E.P) {t:AV} {args:List AV} {m G:AMode} {i:St} (h:deferred E R t args m st=some (G,i)) (Q:Sess E F φ st w) {d:Deferred} (W:DRel (Bd F φ st) w φ (.call t args) d)
  {fr:Frame} {b:List Deferred} {cs:List Frame} (X:fr.defers=d::b) (z:MRel (Bd F φ st) w φ m fr.mode):
  ∃φ' w' K,Sess E F φ' i w'/\Ext φ st w φ' i w'/\MRel (Bd F φ' i) w' φ' G K/\Steps E.P (lone fr cs w) (lone (dI { fr with defers:=b } K) cs w'):=by
 obtain⟨g,a,c,rfl,l,j,rfl,U,S⟩:=W;simp only[deferred] at h;split at h
 .rename_i fn cd hb;split at h
  .rename_i m1 fr1 st1 hbody;have Z:(invoke (.fn (.func g) l) j).run E.P w=.ok (.enter g<|j++l) w:=(by simp only[invoke];exact LG N hb _);have D:=step_defer (P:=E.P) (cs:=cs) (LF z) X rfl Z;have T:LRel (Bd F φ st) w φ (a++args++c) (j++l).toList:=(by rw[vr];exact S.append U);obtain⟨φ1,w1,ac,q,M,ad,u1,p,H,f,s4,I,s6,J⟩:=LE O hb hbody Q T (kd:=.deferred) (cs:={ fr with defers:=b }::cs) ⟨rfl,_,_,rfl,z⟩
   have y:∀u,fr1.rc=some u->∃x,M=dI { fr with defers:=b } x::cs/\MRel (Bd F φ1 st1) w1 φ1 u x:=by
    intro u hu;have:=f.rc;rw[hu] at this;obtain⟨_,c0,rest,e,A⟩:=this
    rcases s4 with rfl | ⟨_,c2,ab,x,s,rfl⟩
    .simp at e;obtain⟨rfl,rfl⟩:=e;exact⟨fr.mode,rfl,A⟩
    simp at s;obtain⟨rfl,rfl⟩:=s;simp at e;obtain⟨rfl,rfl⟩:=e;exact⟨x,rfl,A⟩
   have C:=(Gt hb).1;split at h
   .rename_i u v hdf hrc hends;simp at h;obtain⟨rfl,rfl⟩:=h;obtain⟨x,rfl,o⟩:=y u hrc;have n:q=[]:=(by have:=f.df;rw[hdf] at this;cases this;rfl);subst n
    cases m1 with
    | panicking ch=>simp[oT] at hends
    | returning=>cases I;simp only[oT,tC] at hends;obtain⟨vs,aa,_⟩:=hends;obtain⟨r,Y,_⟩:=LD p f.tm aa;refine⟨φ1,w1,settle x,p,H,Pu o,.head D<|J.trans<|.one ?_⟩;exact step_going_returned (c:=dI { fr with defers:=b } x) (v:=r) rfl ⟨rfl,rfl,fn,C,Y⟩
   .rename_i u ch hdf hrc hends;simp at h;obtain⟨rfl,rfl⟩:=h;obtain⟨x,rfl,o⟩:=y u hrc;have n:q=[]:=(by have:=f.df;rw[hdf] at this;cases this;rfl);subst n
    cases m1 with
    | returning=>simp[oT] at hends
    | panicking ch'=>simp[oT] at hends;subst hends;obtain⟨L,rfl,V⟩:=I;refine⟨φ1,w1,raised x L,p,H,Pv o V,.head D<|J.trans<|.one ?_⟩;exact step_going_panicked (c:=dI { fr with defers:=b } x) ⟨rfl,rfl,fn,C⟩
   cases h
  cases h
 cases h
theorem Px {P:Program} {fr:Frame} {d:List Deferred} {cs:List Frame} {b:Nat} (i:fr.mode≠.run) (f:fr.defers={ target:=.collected b,args:=#[] }::d) (e:w.1[b]?=some (.deferred<|some [])):
  step P (lone fr cs w)=.next (lone { fr with defers:=d } cs<|bZ w b<|.deferred none):=by
 have g:(Instr.takeDeferred b).run P w=.ok [] (bZ w b<|.deferred none):=by simp[Instr.takeDeferred,se e<|by intro c t h;simp,CN e<|by intro c t h;simp]
 refine step_lone_go ?_
 cases a:fr.mode with
 | run=>exact absurd a i
 | returning=>simp[stepG,unwind,a,f,g]
 | panicking chain=>simp[stepG,unwind,a,f,g]
theorem I8 {R:Rn} (o:i3 E R) (n:fT E.P):∀(e:List ADef) {m g:AMode} {st a:St} {φ:cO} {w:World},l8 E R e m st=some (g,a)->Sess E F φ st w->
  ∀{fr:Frame} {cs:List Frame},All2 (DRel (Bd F φ st) w φ) e fr.defers->MRel (Bd F φ st) w φ m fr.mode->
  ∃φ' w' H,Sess E F φ' a w'/\Ext φ st w φ' a w'/\MRel (Bd F φ' a) w' φ' g H/\Steps E.P (lone fr cs w) (lone (dI { fr with defers:=[] } H) cs w')
 | [],m,g,st,a,φ,w,h,hS,fr,cs,hds,hm=>by
  simp[l8] at h;obtain⟨rfl,rfl⟩:=h;have D:fr.defers=[]:=by generalize fr.defers=l at hds;cases hds;rfl
  refine⟨φ,w,fr.mode,hS,Ext.refl _ _ _,hm,?_⟩;have:dI { fr with defers:=[] } fr.mode=fr:=by cases fr;simp[dI] at D ⊢;exact D
  rw[this];exact .refl _ _
 | .coll b::e,m,g,st,a,φ,w,h,hS,fr,cs,hds,hm=>by
  simp only[l8] at h;rw[get?_eq] at h;split at h
  .rename_i hb;generalize q:fr.defers=l at hds
   cases hds with
   | cons p r=>rename_i d s;obtain⟨cb,y,rfl,G⟩:=p;have j:=hS.blk b _ cb y hb G;simp only[ORel,tM,if_false] at j;have J:=Px (P:=E.P) (cs:=cs) (LF hm) q j;rw[ip] at h;obtain⟨I,f⟩:=hS.change (ab':=.defd true) hb rfl rfl G (o':=.deferred none) (λc t Q C=>by rw[j] at C;cases C) (by simp only[ORel,if_true];exact zx j);obtain⟨φ2,A,z,u,i,v,x⟩:=I8 o n e h I (fr:={ fr with defers:=s }) (cs:=cs) (r.mono λ_ _=>DRel.mono f.goes f.phi)<|hm.mono f.goes f.phi;exact⟨φ2,A,z,u,f.trans i,v,.head J x⟩
  cases h
 | .call fv args::e,m,g,st,a,φ,w,h,hS,fr,cs,hds,hm=>by
  simp only[l8] at h;split at h
  .rename_i m1 st1 hdef;generalize q:fr.defers=l at hds
   cases hds with
   | cons p r=>rename_i d s;obtain⟨φ1,w1,O,u,i,v,x⟩:=Pw o n hdef hS p (cs:=cs) q hm;obtain⟨φ2,A,z,K,L,M,N⟩:=I8 o n e h u (fr:=dI { fr with defers:=s } O) (cs:=cs) (r.mono λ_ _=>DRel.mono i.goes i.phi) v;exact⟨φ2,A,z,K,i.trans L,M,x.trans N⟩
  cases h
theorem Py {fn:Func} {f:FuncId} (a:E.P.funcs[f]?=some fn) {m:AMode} {fr:Fr} {out:Out} (h:oT E fn m fr st=some out) (g:Sess E F φ st w) {tmps:Array Value} (i:LRel (Bd F φ st) w φ fr.tm tmps.toList)
  {u:FrameMode} (b:MRel (Bd F φ st) w φ m u) {d:Machine} {p:List Item} {cs:List Frame} (c:Steps E.P d (lone (dI (cF f .normal none tmps [] p) u) cs w)):LeavOk E.P d cs (Bd F φ st) w φ f out:=by
 cases m with
 | returning=>cases b;simp only[oT,tC] at h;obtain⟨vs,o,rfl⟩:=h;obtain⟨r,l,n⟩:=LD g i o;exact⟨r,_,n,c,rfl,rfl,rfl,rfl,fn,a,l⟩
 | panicking ch=>simp[oT] at h;subst h;obtain⟨e,rfl,j⟩:=b;exact⟨e,_,j,c,rfl,rfl,rfl,fn,a⟩
theorem I9 {R:Rn} (d:i3 E R) (n:fT E.P) {f:FuncId} {args:List AV} {out:Out} {a:St} (h:ie E R f args st=some (out,a)) (p:Sess E F φ st w) {us:Array Value} (l:LRel (Bd F φ st) w φ args us.toList) (cs:List Frame):
  ∃φ' w',Sess E F φ' a w'/\Ext φ st w φ' a w'/\LeavOk E.P (lone (Frame.enter E.P f us .normal) cs w) cs (Bd F φ' a) w' φ' f out:=by
 unfold ie at h;split at h
 .rename_i fn c hb;split at h
  .rename_i m fr st1 hbody;split at h
   .rename_i m' st2 hlv;simp only[tC,tG] at h;obtain⟨o,r,rfl,rfl⟩:=h;obtain⟨φ1,w1,A,j,b,C,D,s,t,e,u,v,H,x⟩:=LE d hb hbody p l (kd:=.normal) (cs:=cs) rfl
    have q:b=cs:=by rcases u with h | ⟨h,_⟩;exact h;cases h
    subst q;obtain⟨φ2,G,I,g,i,y,z⟩:=I8 d n fr.df hlv s (fr:=dI (cF f .normal none A j C) D) (cs:=b) e.df v;exact⟨φ2,G,g,t.trans i,Py (Gt hb).1 r g (i.list e.tm) y<|x.trans z⟩
   cases h
  cases h
 cases h
theorem I' {R:Rn} {f:FuncId} {args:List AV} {r:Out × St} (h:ie E R f args st=some r):∃fn c,ff E f=some (fn,c):=by
 unfold ie at h;split at h
 .rename_i fn c hb;exact⟨fn,c,hb⟩
 cases h
structure Grew (w w':World):Prop where
 size:w.1.size<=w'.1.size
 keep:∀(cb:Nat),cb<w.1.size->w'.1[cb]?=w.1[cb]?
 aux:w'.tape=w.tape/\w'.os=w.os/\w'.output=w.output
theorem Grew.shape {w':World} (h:Grew w w') (cb:Nat) (cells:Array Value) (t:TypeId) (b:Nat × Nat) (c:w.1[cb]?=some (.cells cells t b)):∃a:Array Value,w'.1[cb]?=some (.cells a t b)/\a.size=cells.size:=
 ⟨cells,by rw[h.keep cb<|DR c];exact c,rfl⟩
theorem Sess.grew {w':World} (h:Sess E F φ st w) (a:Grew w w'):Sess E F φ st w'/\Ext φ st w φ st w':=by
 have e:Ext φ st w φ st w':=⟨⟨λ_ _ h=>h,a.size,λcb m _=>a.keep cb m,λ_ _ o=>o,a.shape,tE _,a.aux⟩,λ_ _=>rfl⟩;have g:=e.goes (F:=F)
 exact⟨⟨λb ab cb co j c=>(h.blk b ab cb co j c).other g (λ_ _ h=>h) (a.keep cb (h.lt b cb co c).1) λ_=>(h.lt b cb co c).1,h.inj,
  λb cb co d=>⟨tO (h.lt b cb co d).1 a.size,(h.lt b cb co d).2⟩,λi cs l=>(h.glob i cs l).mono g λ_ _ h=>h,λcb f=>⟨tO (h.fout cb f).1 a.size,(h.fout cb f).2⟩⟩,e⟩
theorem D6 (φ:cO) (cb:Nat):¬iW φ [] cb:=by rintro⟨b,ab,co,h,_⟩;simp at h
theorem Sess.inner (h:Sess E F φ st w):Sess E (Bd F φ st) cP [] w where
 blk:=λb ab cb co a=>by simp at a
 inj:=λb j ab ab' cb co l a=>by simp at a
 lt:=λb cb co a=>by simp[cP] at a
 glob:=λg cs i=>(h.glob g cs i).mono ⟨λcb _ a=>⟨λe=>e.elim a<|D6 _ _,rfl⟩,tE _,λcb cells t m f=>⟨cells,f,rfl⟩⟩ λ_ _ h=>h
 fout:=λcb c=>⟨c.elim (λc=>(h.fout cb c).1) λ⟨b,ab,co,n,_,d⟩=>(h.lt b cb co d).1,D6 _ _⟩
theorem Aa:Goes (Bd F φ st) w (Bd (Bd F φ st) cP []) w:=
 ⟨λ_cb _ a=>⟨λb=>b.elim a<|D6 _ _,rfl⟩,tE _,λ_cb cells _t _fz c=>⟨cells,c,rfl⟩⟩
def SealOk (E:Env) (f:FuncId) (args:List AV) (out:Out):Prop:=
 (∃fn c,ff E f=some (fn,c))/\∀(F:Nat->Prop) (w:World) (us:Array Value) (cs:List Frame),Sess E F cP [] w->LRel (Bd F cP []) w cP args us.toList->
   ∃w',Grew w w'/\LeavOk E.P (lone (Frame.enter E.P f us .normal) cs w) cs F w' cP f out
theorem LH {φ':cO} {d:St}:Goes (Bd F φ' d) w F w:=
 ⟨λ_cb _ a=>⟨λc=>a<|.inl c,rfl⟩,tE _,λ_cb cells _t _fz b=>⟨cells,b,rfl⟩⟩
theorem LI {R:Rn} (p:i3 E R) (n:fT E.P) {f:FuncId} {args:List AV} {out:Out} (h:ma E R f args=some out):SealOk E f args out:=by
 unfold ma at h;split at h
 .rename_i o st1 hin;refine⟨I' hin,λF w us cs r m=>?_⟩;obtain⟨φ1,w1,j,b,l⟩:=I9 p n hin r m cs;refine⟨w1,⟨b.size,λcb t=>b.keep cb t<|D6 _ _,b.aux⟩,?_⟩;unfold wN at h;split at h
  .rename_i v;simp only[tC] at h;obtain⟨⟨y,x⟩,a,rfl⟩:=h;obtain⟨u,fr,c,d,e,g⟩:=l;obtain⟨_,_,q⟩:=Gp fy _ _ _ _ _ a j c;exact⟨u,fr,q.mono LH λ_ _ h=>h,d,e,g⟩
  split at h
  .rename_i v;simp only[tC] at h;obtain⟨⟨y,x⟩,a,rfl⟩:=h;obtain⟨z,fr,c,d,e,g⟩:=l
   cases c with
   | cons i s=>cases s;obtain⟨_,_,q⟩:=Gp fy _ _ _ _ _ a j i.1;exact⟨_,fr,.cons ⟨q.mono LH λ_ _ h=>h,i.2⟩ .nil,d,e,g⟩
  cases h
 cases h
def oU (E:Env):Prop:=∀(f:FuncId) (args:List AV) (out:Out),E.memo f args=some out->SealOk E f args out
theorem SealOk.call {f:FuncId} {args:List AV} {out:Out} (h:SealOk E f args out) (i:Sess E F φ st w) {us:Array Value} (n:LRel (Bd F φ st) w cP args us.toList) (cs:List Frame):
  ∃w',Sess E F φ st w'/\Ext φ st w φ st w'/\LeavOk E.P (lone (Frame.enter E.P f us .normal) cs w) cs (Bd F φ st) w' φ f out:=by
 obtain⟨w',q,j⟩:=h.2 (Bd F φ st) w us cs i.inner<|n.mono Aa λ_ _ h=>h;obtain⟨r,s⟩:=i.grew q;refine⟨w',r,s,?_⟩;have l:∀b x,cP b=some x->φ b=some x:=λb x h=>by simp[cP] at h
 have g:Goes (Bd F φ st) w' (Bd F φ st) w':=⟨λcb _ o=>⟨o,rfl⟩,tE _,λcb cells t y p=>⟨cells,p,rfl⟩⟩
 cases out with
 | ret v=>obtain⟨u,fr,a,c,d,e⟩:=j;exact⟨u,fr,a.mono g l,c,d,e⟩
 | pan ch=>obtain⟨m,fr,a,c,d,e⟩:=j;exact⟨m,fr,a.mono λ_ _ h=>h.mono g l,c,d,e⟩
theorem Pz {R:Rn} (g:i3 E R) (e:fT E.P) (hM:oU E) {f:FuncId} {args:List AV} {out:Out} {a:St} (h:wO E R f args st=some (out,a)) (i:Sess E F φ st w) {us:Array Value}
  (d:LRel (Bd F φ st) w φ args us.toList):(∃fn c,ff E f=some (fn,c))/\∀cs:List Frame,
  ∃φ' w',Sess E F φ' a w'/\Ext φ st w φ' a w'/\LeavOk E.P (lone (Frame.enter E.P f us .normal) cs w) cs (Bd F φ' a) w' φ' f out:=by
 unfold wO at h;split at h
 .split at h
  .rename_i args' st1 hfr;obtain⟨l,m,n⟩:=CO (Gp fy) hfr i d
   have j:SealOk E f args' out->st1=a->(∃fn c,ff E f=some (fn,c))/\∀cs:List Frame,
     ∃φ' w',Sess E F φ' a w'/\Ext φ st w φ' a w'/\LeavOk E.P (lone (Frame.enter E.P f us .normal) cs w) cs (Bd F φ' a) w' φ' f out:=by
    rintro b rfl;refine⟨b.1,λcs=>?_⟩;obtain⟨w',p,q,r⟩:=b.call l n cs;exact⟨φ,w',p,m.trans q,r⟩
   split at h
   .rename_i o hm;simp at h;obtain⟨rfl,rfl⟩:=h;exact j (hM _ _ _ hm) rfl
   split at h
   .rename_i o b;simp at h;obtain⟨rfl,rfl⟩:=h;exact j (LI g e b) rfl
   cases h
  exact⟨I' h,λcs=>I9 g e h i d cs⟩
 exact⟨I' h,λcs=>I9 g e h i d cs⟩
end
end Go.Proofs.YthcfmhgihcjloaaGreatDoor.Gx
namespace Go.Proofs.YthcfmhgihcjloaaGreatDoor.Gx
open Go
section
variable {P:Program} {fn:FuncId} {kd:CallKind} {ro:Option Nat} {tmps:Array Value} {df:List Deferred} {k:List Item} {cs:List Frame} {w w1:World}
theorem PA {f:Operand} {params:Array Tmp} {assign b:Code} {l:Nat} {a:List Deferred} {nx:Next} {c:Frame} (i:(Instr.enterLoop fn tmps params assign b ro).run P w=.ok (l,a) w1)
  (h:(kr (bR tmps f) #[.func (.yield l) #[] #[]]).run P w1=.ok nx w1) (g:eP P nx=some c):
  step P (lone (cF fn kd ro tmps df (.code (.rangeFunc f params assign b)::k)) cs w)=.next (lone c (cF fn kd ro tmps (a++df) (.inRangeFunc l::k)::cs) w1):=by
 have e:=IS (fn:=fn) (kd:=kd) (ro:=ro) (tmps:=tmps) (df:=a++df) (.inRangeFunc l::k);simp only[cF] at e
 have j:(do let d <-resolve (bR tmps) { callee:=.value f,args:=#[.const<|.func (.yield l) #[] #[]],argTypes:=#[] } 0;invoke d.target d.args:Sem Next).run P w1=.ok nx w1:=by
  have:(resolve (bR tmps) { callee:=.value f,args:=#[.const<|.func (.yield l) #[] #[]],argTypes:=#[] } 0)=Deferred.ofValue (bR tmps f) #[.func (.yield l) #[] #[]]:=by simp[resolve,bR]
  rw[this];exact h
 refine step_lone_go ?_;cases nx<;>simp[eP] at g<;>subst g<;>simp[stepG,stepG.exec,stepG.apply,cF,i,e,j]
theorem PB {l:Nat} {L:Loop} (a:w.1[l]?=some (.loop L)) (b:L.state≠.busy):
  step P (lone (cF fn kd ro tmps df (.endRangeFunc l::k)) cs w)=.next (lone (cF fn kd ro tmps df<|(L.pending.map Item.code).toList++k) cs<|bZ w l<|.loop { L with state:=.exhausted }):=by
 have d:(Instr.endLoop l).run P w=.ok L.pending (bZ w l<|.loop { L with state:=.exhausted }):=by simp[Instr.endLoop,Instr.getLoop,se a<|by intro c t f;simp,CN a<|by intro c t f;simp,b]
 exact step_lone_go<|by simp[stepG,stepG.exec,cF,d]
theorem PC {l:Nat} {L:Loop} (a:w.1[l]?=some (.loop L)) (b:L.state=.ready):
  step P (lone (cF fn kd (some l) tmps df (.beginRound::k)) cs w)=.next (lone (cF fn kd (some l) tmps df k) cs<|bZ w l<|.loop { L with state:=.busy }):=by
 have d:(Instr.beginRound l).run P w=.ok () (bZ w l<|.loop { L with state:=.busy }):=by simp[Instr.beginRound,Instr.getLoop,se a<|by intro c t f;simp,CN a<|by intro c t f;simp,b]
 exact step_lone_go<|by simp[stepG,stepG.exec,stepG.apply,cF,d,Frame.finish]
theorem Ja {l:Nat} {L:Loop} (b:w.1[l]?=some (.loop L)) (a:Option Code):
  (Instr.endRound l a).run P w=.ok (.bool a.isNone) (bZ w l<|.loop { L with state:=if a.isNone then .ready else .done,pending:=a }):=by
 simp[Instr.endRound,Instr.getLoop,se b<|by intro c t f;simp,CN b<|by intro c t f;simp]
theorem PD {l:Nat} {L:Loop} {c:Frame} (a:w.1[l]?=some (.loop L)):
  step P (lone (cF fn .normal (some l) tmps df []) (c::cs) w)=.next (lone (c.finish<|.bool true) cs<|bZ w l<|.loop { L with state:=.ready,pending:=none }):=by
 have h:=Ja (P:=P) a none;exact step_lone_go<|by simp[stepG,stepG.exec,cF,h,doReturn]
theorem PE {l:Nat} {L:Loop} {c:Frame} (a:w.1[l]?=some (.loop L)):
  step P (lone (cF fn .normal (some l) tmps df (.code .ret::k)) (c::cs) w)=.next (lone (c.finish<|.bool false) cs<|bZ w l<|.loop { L with state:=.done,pending:=some .ret }):=by
 have h:=Ja (P:=P) a<|some .ret;exact step_lone_go<|by simp[stepG,stepG.exec,cF,h,doReturn]
theorem PG {l id:Nat} {L:Loop} {c:Frame} (a:w.1[l]?=some (.loop L)) (b:exitTo id k=none):
  step P (lone (cF fn .normal (some l) tmps df (.code (.exit id)::k)) (c::cs) w)=.next (lone (c.finish<|.bool false) cs<|bZ w l<|.loop { L with state:=.done,pending:=some (.exit id) }):=by
 have h:=Ja (P:=P) a<|some<|.exit id;exact step_lone_go<|by simp[stepG,stepG.exec,cF,h,doReturn,b]
end
section
variable {E:Env} {F:Nat->Prop} {φ:cO} {st:St} {w:World}
theorem Gu (r:Sess E F φ st w) {l b y:Nat} {L:ALoop} (f:st[l]?=some (.loop L)) (i:φ l=some (b,y)):
  ∃a:Loop,w.1[b]?=some (.loop a)/\a.state=L.state/\a.pending=L.pending/\a.params.toList=L.params/\a.assign=L.assign/\a.body=L.body/\LRel (Bd F φ st) w φ L.tmps a.tmps.toList/\(E.P.funcs[a.fn]?).isSome=true/\
   ∀(s:LoopState) (p:Option Code),Sess E F φ (fm st l<|.loop { L with state:=s,pending:=p }) (bZ w b<|.loop { a with state:=s,pending:=p })/\
    Ext φ st w φ (fm st l<|.loop { L with state:=s,pending:=p }) (bZ w b<|.loop { a with state:=s,pending:=p }):=by
 obtain⟨a,d,v,x,j,m,n,o,⟨C,z⟩,q⟩:=r.blk l _ b y f i;refine⟨a,d,v,x,j,m,n,o,q,λs p=>?_⟩;rw[ip];have A:iW φ st b:=⟨l,_,y,f,rfl,i⟩;have g:Goes (Bd F φ st) w (Bd F φ st) (bZ w b<|.loop { a with state:=s,pending:=p }):=DX (.inr A) d (λc t u e=>by cases e);exact r.change f rfl rfl i (λc t u e=>by rw[d] at e;cases e) ⟨_,zx d,rfl,rfl,j,m,n,o.mono g λ_ _ h=>h,⟨C,z⟩,q⟩
theorem LJ {B:Nat->Prop}:∀{ps:List Tmp} {args tm:List AV} {us:List Value} {tmps:Array Value},args.length=ps.length->LRel B w φ args us->LRel B w φ tm tmps.toList->
  LRel B w φ (eb ps args tm) ((ps.zip us).foldl (λtmps (x:Tmp × Value)=>tmps.setIfInBounds x.1 x.2) tmps).toList
 | [],args,tm,us,tmps,hl,hA,hT=>by simpa [eb] using hT
 | p::ps,args,tm,us,tmps,hl,hA,hT=>by
  cases args with
  | nil=>simp at hl
  | cons a args=>obtain⟨u,d,rfl,b,c⟩:=hA.inv_cons;simp only[eb,List.zip_cons_cons,List.foldl_cons];refine LJ (by simpa using hl) c ?_;rw[ip,vq];exact hT.set p b
theorem PH {R:Rn} (G:i3 E R) {l:Nat} {args:List AV} {out:Out} {m:St} (h:round R l args st=some (out,m)) (H:Sess E F φ st w) {b y:Nat} (s:φ l=some (b,y)) {us:Array Value}
  (D:LRel (Bd F φ st) w φ args us.toList):∃nx fr,(Instr.yield b us).run E.P w=.ok nx w/\eP E.P nx=some fr/\
    ∀(c:Frame) (cs:List Frame),∃φ' w',Sess E F φ' m w'/\Ext φ st w φ' m w'/\xf E.P (lone fr (c::cs) w) c cs (Bd F φ' m) w' φ' out:=by
 unfold round at h;rw[get?_eq] at h;split at h
 .rename_i L hl;split at h
  .rename_i hlen;obtain⟨a,T,c2,c3,A,U,V,W,o,c9⟩:=Gu H hl s;have al:us.size=a.params.size:=(by have h1:=D.1;have h2:a.params.size=L.params.length:=(by rw[<-A];simp);simp at h1;omega);have am:(Instr.yield b us).run E.P w=.ok (.round b a.fn ((a.params.zip us).foldl (λtmps (x:Tmp × Value)=>tmps.setIfInBounds x.1 x.2) a.tmps) a.assign a.body) w:=(by simp[Instr.yield,Instr.getLoop,se T<|by intro c t f;simp,al]);refine⟨_,_,am,rfl,λc cs=>?_⟩;have hT:LRel (Bd F φ st) w φ (eb L.params args L.tmps) ((a.params.zip us).foldl (λtmps (x:Tmp × Value)=>tmps.setIfInBounds x.1 x.2) a.tmps).toList:=by have:=LJ (ps:=L.params) hlen D W;rw[<-Array.foldl_toList,Array.toList_zip,A];exact this
   have ac:FRel (Bd F φ st) w φ ⟨eb L.params args L.tmps,[],none,some l⟩ .normal (some b) ((a.params.zip us).foldl (λtmps (x:Tmp × Value)=>tmps.setIfInBounds x.1 x.2) a.tmps) [] (c::cs):=
    ⟨hT,.nil,rfl,b,y,rfl,s⟩
   split at h
   .rename_i fr1 st1 hr1;rw[<-U] at hr1;obtain⟨φ1,w1,Q,C,Y,M,u,N,s4,s5⟩:=G _ _ _ _ hr1 F φ w a.fn .normal (some b) _ _ (c::cs) [.beginRound,.code a.body] o H ac
    have af:Y=c::cs:=by rcases s4 with h | ⟨h,_⟩;exact h;cases h
    subst af;simp only at M u N;have J:φ1 l=some (b,y):=u.phi _ _ s;rw[get?_eq] at h;split at h
    .rename_i L1 hl1;split at h
     .rename_i hready;obtain⟨n,d1,d2,d3,d4,d5,d6,d7,d8,d9⟩:=Gu M hl1 J;obtain⟨e1,p⟩:=d9 .busy L1.pending;have I:=PC (P:=E.P) (fn:=a.fn) (kd:=.normal) (tmps:=Q) (df:=C) (k:=[.code a.body]) (cs:=c::cs) d1 (by rw[d2,hready]);have hW:({ n with state:=.busy }:Loop)={ n with state:=.busy,pending:=L1.pending }:=(by rw[<-d3]);rw[hW] at I;have ad:=N.mono p.goes p.phi;split at h
      .rename_i ex tm2 rc2 ro2 st2 hr2;rw[<-V] at hr2;obtain⟨φ2,S,ao,aa,Z,v,z,O,t4,d⟩:=G _ _ _ _ hr2 F φ1 _ a.fn .normal (some b) _ _ (c::cs) [] o e1 ad
       have ag:Z=c::cs:=by rcases t4 with h | ⟨h,_⟩;exact h;cases h
       subst ag;simp only at v z O;have ah:aa=[]:=(by have:=O.df;cases this;rfl);subst ah;have ak:φ2 l=some (b,y):=z.phi _ _ J
       have j:Steps E.P (lone (Frame.round b a.fn ((a.params.zip us).foldl (λtmps (x:Tmp × Value)=>tmps.setIfInBounds x.1 x.2) a.tmps) a.assign a.body .normal) (c::cs) w)
        (lone (cF a.fn .normal (some b) Q C [.code a.body]) (c::cs)<|bZ w1 b<|.loop { n with state:=.busy,pending:=L1.pending }):=Steps.trans s5<|.one I
       rw[get?_eq] at h;split at h
       .rename_i L2 hl2;obtain⟨an,q,f2,f3,f4,f5,f6,f7,f8,r⟩:=Gu v hl2 ak;have i:Ext φ st w φ2 st2 S:=u.trans<|p.trans z;unfold endRound at h
        cases ex with
        | normal=>simp at h;obtain⟨rfl,rfl⟩:=h;obtain⟨e,g⟩:=r .ready none;exact⟨φ2,_,e,i.trans g,_,.bool true,j.trans<|Steps.trans d<|.one<|PD q⟩
        | ret=>simp at h;obtain⟨rfl,rfl⟩:=h;obtain⟨e,g⟩:=r .done<|some .ret;obtain⟨K,d⟩:=d;exact⟨φ2,_,e,i.trans g,_,.bool false,j.trans<|Steps.trans d<|.one<|PE q⟩
        | exit id=>simp at h;obtain⟨rfl,rfl⟩:=h;obtain⟨e,g⟩:=r .done<|some<|.exit id;obtain⟨K,aj,d⟩:=d;exact⟨φ2,_,e,i.trans g,_,.bool false,j.trans<|Steps.trans d<|.one<|PG q<|by rw[aj];rfl⟩
        | pan ch=>simp at h;obtain⟨rfl,rfl⟩:=h;obtain⟨X,K,ae,d⟩:=d;obtain⟨ab,ai⟩:=Option.isSome_iff_exists.1 o;exact⟨φ2,S,v,i,X,ae,j.trans<|Steps.trans d<|.one<|step_leave_panicked ⟨rfl,rfl,ab,ai⟩⟩
       cases h
      cases h
     cases h
    cases h
   cases h
  cases h
 cases h
theorem PI {R:Rn} (m:i3 E R) (l:fT E.P) (hM:oU E):jF E (gU E R):=by
 intro D args st out G h F φ w H us n t i
 cases t with
 | func ha hc hav hcv=>
  rename_i f a c b d;simp only[gU] at h;have r:LRel (Bd F φ st) w φ (a++args++c) (b++us++d).toList:=by simp only[vr];exact(LRel.append ⟨by simpa using ha,λj x v g e=>hav j x v g<|by simpa using e⟩ i).append ⟨by simpa using hc,λj x v g e=>hcv j x v g<|by simpa using e⟩
  obtain⟨⟨fn,C,s⟩,u⟩:=Pz m l hM h n r;refine⟨.enter f<|b++us++d,Frame.enter E.P f (b++us++d) .normal,?_,rfl,λc cs=>?_⟩
  .simp only[kr,Deferred.ofValue,pure_bind,invoke];exact LG l s _
  obtain⟨φ',w',y,z,A⟩:=u (c::cs);exact⟨φ',w',y,z,A.out⟩
 | yld hp=>simp only[gU] at h;obtain⟨nx,fr,o,p,q⟩:=PH m h n hp i;refine⟨nx,fr,?_,p,q⟩;simp only[kr,Deferred.ofValue,pure_bind,invoke];simpa using o
 | _=>simp[gU] at h
end
end Go.Proofs.YthcfmhgihcjloaaGreatDoor.Gx
namespace Go.Proofs.YthcfmhgihcjloaaGreatDoor.Gx
open Go
section
variable {E:Env} {F:Nat->Prop} {φ:cO} {st:St} {w:World}
theorem PJ (e:Sess E F φ st w) {fr:Fr} {kd:CallKind} {ro:Option Nat} {tmps:Array Value} {df:List Deferred} {cs:List Frame} (hF:FRel (Bd F φ st) w φ fr kd ro tmps df cs)
  {m:Nat} {n:List ADef} {d:St} (h:uu fr st=some (m,n,d)):
  ∃φ1 w1 i y j,Sess E F φ1 d w1/\Ext φ st w φ1 d w1/\φ1 m=some (i,y)/\All2 (DRel (Bd F φ1 d) w1 φ1) n j/\
   ∀(fn:FuncId) (tmps:Array Value) (params:Array Tmp) (assign a:Code),(Instr.enterLoop fn tmps params assign a ro).run E.P w=
    .ok (w1.1.size,j) (bN w1<|.loop { state:=.ready,pending:=none,fn,tmps,params,assign,body:=a,defers:=i }):=by
 unfold uu at h;have b:=hF.ro;split at h
 .rename_i g;simp at h;obtain⟨rfl,rfl,rfl⟩:=h;rw[g] at b;subst b;obtain⟨v,x,o⟩:=IP e (ab:=.defd false) rfl (.deferred<|some []) (λA φ' _ _=>by simp only[ORel,tM,if_false];exact BB w _);refine⟨_,_,w.1.size,0,[{ target:=.collected w.1.size,args:=#[] }],v,x,o,.cons ⟨_,0,rfl,o⟩ .nil,λfn tmps params assign a=>?_⟩;simp[Instr.enterLoop,bN];rfl
 rename_i l g;rw[get?_eq] at h;split at h
 .rename_i L hl;simp at h;obtain⟨rfl,rfl,rfl⟩:=h;rw[g] at b;obtain⟨q,y,rfl,u⟩:=b;obtain⟨p,r,C,D,G,H,I,J,⟨z,s⟩,K⟩:=e.blk l _ q y hl u;refine⟨φ,w,p.defers,z,[],e,Ext.refl _ _ _,s,.nil,λfn tmps params assign a=>?_⟩;simp[Instr.enterLoop,Instr.getLoop,se r<|by intro c t f;simp,bN]
 cases h
theorem PL {R:Rn} (X:jF E (gU E R)) (D:Sess E F φ st w) {fn:FuncId} (aa:(E.P.funcs[fn]?).isSome=true) {kd:CallKind} {ro:Option Nat} {tmps:Array Value} {df:List Deferred} {cs:List Frame} {fr:Fr}
  (hF:FRel (Bd F φ st) w φ fr kd ro tmps df cs) {f:Operand} {params:Array Tmp} {assign a:Code} {r:Ex × Fr × St} (h:uv E R f params.toList assign a fr st=some r) (k:List Item):
  ExOk E F φ st w fn kd ro cs (lone (cF fn kd ro tmps df (.code (.rangeFunc f params assign a)::k)) cs w) k r:=by
 unfold uv at h;split at h
 .rename_i fv dblk mark st1 hev hen;obtain⟨φ1,w1,T,y,e,s1,n,s3,s4,s5⟩:=PJ D hF hen;have A:=hF.mono n.goes n.phi
  obtain⟨t1,d,N⟩:=IP s1 (ab:=.loop ⟨.ready,none,fr.tm,params.toList,assign,a,dblk⟩) rfl (.loop { state:=.ready,pending:=none,fn,tmps,params,assign,body:=a,defers:=T })
   (λB' φ' H g=>⟨_,BB w1 _,rfl,rfl,rfl,rfl,rfl,A.tm.mono g H,⟨y,H _ _ s3⟩,aa⟩)
  have V:=A.mono d.goes d.phi;have ac:=d.val<|n.val<|fC D hF.tm hev
  cases s:gU E R fv [.yld st1.length] (st1++[AB.loop ⟨.ready,none,fr.tm,params.toList,assign,a,dblk⟩]) with
  | none=>rw[s] at h;simp[zR] at h
  | some p=>
   obtain⟨out,M⟩:=p;rw[s] at h;obtain⟨nx,ai,ah,ae,ag⟩:=X _ _ _ _ _ s F _ _ _ #[.func (.yield w1.1.size) #[] #[]] t1 ac<|.cons (.yld N) .nil;obtain⟨φ3,t,J,c,K⟩:=ag (cF fn kd ro tmps (e++df) (.inRangeFunc w1.1.size::k)) cs;have I:=PA (P:=E.P) (kd:=kd) (df:=df) (k:=k) (cs:=cs) (f:=f) (s5 fn tmps params assign a) ah ae;have l:Ext φ st w φ3 M t:=n.trans<|d.trans c;have C:FRel (Bd F φ3 M) t φ3 { fr with df:=mark++fr.df } kd ro tmps (e++df) cs:=(by have j:=V.mono c.goes c.phi;exact⟨j.tm,(s4.mono λ_ _ h=>(h.mono d.goes d.phi).mono c.goes c.phi).append j.df,j.rc,j.ro⟩);have af:φ3 st1.length=some (w1.1.size,0):=c.phi _ _ N
   cases out with
   | ret v=>
    obtain⟨u,_,m⟩:=K;have Z:(cF fn kd ro tmps (e++df) (.inRangeFunc w1.1.size::k)).finish u=cF fn kd ro tmps (e++df) (.endRangeFunc w1.1.size::k):=rfl;rw[Z] at m;simp only[zR] at h;rw[get?_eq] at h;split at h
    .rename_i L hl;split at h
     .cases h
     rename_i ad;obtain⟨x,O,Q,z,c4,c5,c6,c7,c8,S⟩:=Gu J hl af;obtain⟨o,i⟩:=S .exhausted L.pending;have G:=PB (P:=E.P) (fn:=fn) (kd:=kd) (ro:=ro) (tmps:=tmps) (df:=e++df) (k:=k) (cs:=cs) O (by rw[Q];exact ad);have W:({ x with state:=.exhausted }:Loop)={ x with state:=.exhausted,pending:=L.pending }:=(by rw[<-z]);rw[W,z] at G;have q:=C.mono i.goes i.phi;have b:=Steps.head I<|m.trans<|.one G;split at h
     .rename_i hpd;simp at h;subst h;rw[hpd] at b;exact⟨φ3,_,tmps,_,cs,o,l.trans i,q,.refl _ _,by simpa [LB,hpd] using b⟩
     .rename_i hpd;simp at h;subst h;rw[hpd] at b;exact⟨φ3,_,tmps,_,cs,o,l.trans i,q,.refl _ _,k,by simpa [hpd] using b⟩
     .rename_i id hpd;simp at h;subst h;rw[hpd] at b;exact⟨φ3,_,tmps,_,cs,o,l.trans i,q,.refl _ _,k,rfl,by simpa [hpd] using b⟩
     cases h
    cases h
   | pan ch=>simp[zR] at h;subst h;obtain⟨U,Y,m⟩:=K;exact⟨φ3,t,tmps,_,cs,J,l,C,.refl _ _,U,_,Y,.head I m⟩
 cases h
theorem LK {R:Rn} {b:Code} {fn:FuncId} {kd:CallKind} {ro:Option Nat} {cs:List Frame} {m:Machine} {k:List Item} {n:Item} {o r:Ex × Fr × St}
  (s:∀(φ:cO) (st:St) (w:World) (fr:Fr) (tmps:Array Value) (df:List Deferred) (cs:List Frame),R b fr st=some r->Sess E F φ st w->FRel (Bd F φ st) w φ fr kd ro tmps df cs->
    ExOk E F φ st w fn kd ro cs (lone (cF fn kd ro tmps df (n::k)) cs w) k r)
  (t:∀id,exitTo id (n::k)=exitTo id k) (h:fF R b (some o)=some r) (q:ExOk E F φ st w fn kd ro cs m (n::k) o):ExOk E F φ st w fn kd ro cs m k r:=by
 obtain⟨ex,p,x⟩:=o;obtain⟨φ1,w1,l,c,a,d,f,g,i,j⟩:=q
 cases ex with
 | normal=>simp only[fF] at h;exact ExOk.of_steps j f i<|s φ1 x w1 p l c a h d g
 | exit id=>simp[fF] at h;subst h;obtain⟨v,e,u⟩:=j;exact⟨φ1,w1,l,c,a,d,f,g,i,v,e.trans<|t id,u⟩
 | ret=>simp[fF] at h;subst h;exact⟨φ1,w1,l,c,a,d,f,g,i,j⟩
 | pan ch=>simp[fF] at h;subst h;exact⟨φ1,w1,l,c,a,d,f,g,i,j⟩
structure EnvOk (E:Env):Prop where
 noNum:fT E.P
 memo:oU E
 mixed:E.P.follows .mixedOrders=true
def CY (E:Env) (R:Rn):Prop:=
 ∀(b:Code) (fr:Fr) (st:St) (r:Ex × Fr × St),R (.loop b) fr st=some r->∀(F:Nat->Prop) (φ:cO) (w:World) (fn:FuncId) (kd:CallKind) (ro:Option Nat) (tmps:Array Value) (df:List Deferred) (cs:List Frame) (k:List Item),
  (E.P.funcs[fn]?).isSome=true->Sess E F φ st w->FRel (Bd F φ st) w φ fr kd ro tmps df cs->
  ExOk E F φ st w fn kd ro cs (lone (cF fn kd ro tmps df (.inLoop b::k)) cs w) k r
theorem LM (y:EnvOk E):∀n,i3 E (run E n)/\CY E (run E n)
 | 0=>⟨λc fr st r h=>by simp[run] at h,λc fr st r h=>by simp[run] at h⟩
 | n+1=>by
  obtain⟨l,J⟩:=LM y n;have H:=PI l y.noNum y.memo
  have loop:∀{b:Code} {fr:Fr} {st:St} {r:Ex × Fr × St},wQ b E (run E n) fr st=some r->∀{F:Nat->Prop} {φ:cO} {w:World} {fn:FuncId} {kd:CallKind} {ro:Option Nat} {tmps:Array Value} {df:List Deferred} {cs:List Frame} {k:List Item},
    (E.P.funcs[fn]?).isSome=true->Sess E F φ st w->FRel (Bd F φ st) w φ fr kd ro tmps df cs->ExOk E F φ st w fn kd ro cs (lone (cF fn kd ro tmps df (.code b::.inLoop b::k)) cs w) k r:=by
   intro b fr st r h F φ w fn kd ro tmps df cs k g d hF;simp only[wQ] at h
   cases i:run E n b fr st with
   | none=>rw[i] at h;simp[fF] at h
   | some G=>rw[i] at h;exact LK (λφ st w fr tmps df cs C d hF=>J b fr st r C F φ w fn kd ro tmps df cs k g d hF) (λid=>rfl) h<|l _ _ _ _ i F φ w fn kd ro tmps df cs _ g d hF
  refine⟨λc fr st r h F φ w fn kd ro tmps df cs k g d hF=>?_,λb fr st r h F φ w fn kd ro tmps df cs k g d hF=>?_⟩
  .simp only[run] at h
   cases c with
   | skip=>simp[jE,Bs] at h;subst h;exact⟨φ,w,tmps,df,cs,d,Ext.refl _ _ _,hF,.refl _ _,.one zT⟩
   | region id ops draw=>exact Po H y.mixed d hF h k
   | seq a b=>
    simp only[jE,EU] at h
    cases i:run E n a fr st with
    | none=>rw[i] at h;simp[fF] at h
    | some G=>rw[i] at h;refine ExOk.of_steps (.one CR) (Ext.refl _ _ _) (.refl _ _) ?_;exact LK (λφ st w fr tmps df cs C d hF=>l b fr st r C F φ w fn kd ro tmps df cs k g d hF) (λid=>rfl) h<|l _ _ _ _ i F φ w fn kd ro tmps df cs _ g d hF
   | cond c a b=>
    simp only[jE,condC] at h;split at h
    .rename_i hc;have p:=fC d hF.tm hc;generalize D:bR tmps c=u at p;cases p;refine ExOk.of_steps (.one<|Lg D) (Ext.refl _ _ _) (.refl _ _) ?_;exact l _ _ _ _ h F φ w fn kd ro tmps df cs k g d hF
    .rename_i hc;have p:=fC d hF.tm hc;generalize D:bR tmps c=u at p;cases p;refine ExOk.of_steps (.one<|Lg D) (Ext.refl _ _ _) (.refl _ _) ?_;exact l _ _ _ _ h F φ w fn kd ro tmps df cs k g d hF
    cases h
   | block id b=>
    simp only[jE,wP] at h
    cases i:run E n b fr st with
    | none=>rw[i] at h;simp[fB] at h
    | some G=>
     rw[i] at h;refine ExOk.of_steps (.one xe) (Ext.refl _ _ _) (.refl _ _) ?_;obtain⟨ex,L,M⟩:=G;obtain⟨φ1,w1,x,o,m,q,s,t,v,z⟩:=l _ _ _ _ i F φ w fn kd ro tmps df cs (.inBlock id::k) g d hF
     cases ex with
     | normal=>simp[fB] at h;subst h;exact⟨φ1,w1,x,o,m,q,s,t,v,Steps.trans z<|.one O5⟩
     | exit j=>
      simp only[fB] at h;obtain⟨K,e,I⟩:=z;split at h
      .rename_i A;simp at h;subst h;subst A;exact⟨φ1,w1,x,o,m,q,s,t,v,I.trans<|.one<|zV<|e.trans<|by simp[exitTo]⟩
      rename_i A;simp at h;subst h;exact⟨φ1,w1,x,o,m,q,s,t,v,K,e.trans<|by simp[exitTo,Ne.symm A],I⟩
     | ret=>simp[fB] at h;subst h;exact⟨φ1,w1,x,o,m,q,s,t,v,z⟩
     | pan ch=>simp[fB] at h;subst h;exact⟨φ1,w1,x,o,m,q,s,t,v,z⟩
   | loop b=>exact ExOk.of_steps (.one zU) (Ext.refl _ _ _) (.refl _ _)<|loop h g d hF
   | rangeFunc f params assign bd=>exact PL H d g hF h k
   | exit id=>simp[jE,Bt] at h;subst h;exact⟨φ,w,tmps,df,cs,d,Ext.refl _ _ _,hF,.refl _ _,k,rfl,.refl _ _⟩
   | ret=>simp[jE,EW] at h;subst h;exact⟨φ,w,tmps,df,cs,d,Ext.refl _ _ _,hF,.refl _ _,k,.refl _ _⟩
   | _=>simp[jE,Bu] at h
  simp only[run] at h;exact ExOk.of_steps (.one O6) (Ext.refl _ _ _) (.refl _ _)<|loop h g d hF
theorem PM (a:EnvOk E) {n:Nat} {f:FuncId} {args:List AV} {out:Out} (h:ma E (run E n) f args=some out):SealOk E f args out:=
 LI (LM a n).1 a.noNum h
theorem SealOk.calls {f:FuncId} {args:List AV} {v:AV} (h:SealOk E f args (.ret v)) {us:Array Value} (i:Sess E F cP [] w) (g:LRel (Bd F cP []) w cP args us.toList):
  Calls E.P f us w λe w'=>(∃u,e=.returned u/\VRel F w' cP v u)/\Grew w w':=by
 intro cs;obtain⟨w',j,u,fr,a,b,c,d⟩:=h.2 F w us cs i g;exact⟨.returned u,w',fr,⟨⟨u,rfl,a⟩,j⟩,b,c,d⟩
end
end Go.Proofs.YthcfmhgihcjloaaGreatDoor.Gx
namespace Go.Proofs.YthcfmhgihcjloaaGreatDoor.Gx
open Go
abbrev jL:=List<|FuncId × List AV × AV
def look:jL->FuncId->List AV->Option Out
 | [],_,_=>none
 | (g,as,v)::t,f,args=>match Nat.beq g f with
  | true=>match fM as args with
   | true=>some<|.ret v
   | false=>look t f args
  | false=>look t f args
def jg (P:Program) (G:Nat->Option (List AV)) (pol:FuncId->Bool) (t:jL):Env:={ P,G,pol,memo:=look t }
def ik:Option Out->AV->Bool
 | some (.ret u),v=>eE u v
 | _,_=>false
def o9 (P:Program) (G:Nat->Option (List AV)) (pol:FuncId->Bool) (n:Nat) (t:jL):jL->Bool
 | []=>true
 | (f,as,v)::r=>match ik (Bw (jg P G pol t) n f as) v with
  | true=>o9 P G pol n t r
  | false=>false
theorem SealOk.env {E E':Env} (c:E'.P=E.P) (b:E'.G=E.G) {f:FuncId} {args:List AV} {out:Out} (h:SealOk E f args out):SealOk E' f args out:=by obtain⟨P,G,pol,memo⟩:=E;obtain⟨g,e,j,i⟩:=E';simp only at c b;subst c;subst b;refine⟨h.1,λF w us cs a d=>h.2 F w us cs ⟨a.blk,a.inj,a.lt,a.glob,a.fout⟩ d⟩
def TabOk (P:Program) (G:Nat->Option (List AV)) (t:jL):Prop:=∀e∈t,SealOk (jg P G (λ_=>true) []) e.1 e.2.1<|.ret e.2.2
theorem Gv:∀{t:jL} {f:FuncId} {args:List AV} {out:Out},look t f args=some out->∃v,out=.ret v/\(f,args,v)∈t
 | [],f,args,out,h=>by simp[look] at h
 | (g,as,v)::t,f,args,out,h=>by
  unfold look at h;split at h
  .rename_i hg;split at h
   .rename_i ha;simp at h;subst h;rw[vj hg,zW _ _ ha];exact⟨v,rfl,by simp⟩
   obtain⟨u,a,b⟩:=Gv h;exact⟨u,a,vV _ b⟩
  obtain⟨u,a,b⟩:=Gv h;exact⟨u,a,vV _ b⟩
theorem TabOk.memo {P:Program} {G:Nat->Option (List AV)} {t:jL} (h:TabOk P G t) (pol:FuncId->Bool):oU (jg P G pol t):=by intro f args out a;obtain⟨v,rfl,b⟩:=Gv a;exact SealOk.env (E:=jg P G (λ_=>true) []) (E':=jg P G pol t) rfl rfl (h _ b)
theorem TabOk.env {P:Program} {G:Nat->Option (List AV)} {t:jL} (h:TabOk P G t) (a:fT P) (hM:P.follows .mixedOrders=true) (pol:FuncId->Bool):EnvOk (jg P G pol t):=⟨a,h.memo pol,hM⟩
theorem TabOk.nil (P:Program) (G:Nat->Option (List AV)):TabOk P G []:=λe a=>by simp at a
theorem TabOk.chk {P:Program} {G:Nat->Option (List AV)} {t:jL} (h:TabOk P G t) (b:fT P) (hM:P.follows .mixedOrders=true) {pol:FuncId->Bool} {n:Nat}:∀{r:jL},o9 P G pol n t r=true->TabOk P G (r++t)
 | [],_=>h
 | (f,as,v)::r,hc=>by
  unfold o9 at hc;split at hc
  .rename_i ha;have c:=TabOk.chk h b hM hc;intro e a;simp only[List.cons_append,tW] at a
   rcases a with rfl | a
   .cases hs:Bw (jg P G pol t) n f as with
    | none=>rw[hs] at ha;simp[ik] at ha
    | some o=>
     rw[hs] at ha
     cases o with
     | pan ch=>simp[ik] at ha
     | ret u=>rw[<-E6 _ _ ha];exact SealOk.env (E:=jg P G pol t) (E':=jg P G (λ_=>true) []) rfl rfl (PM (h.env b hM pol) hs)
   exact c e a
  cases hc
end Go.Proofs.YthcfmhgihcjloaaGreatDoor.Gx
namespace Go.Proofs.YthcfmhgihcjloaaGreatDoor.Gx
open Go Go.RowKit
theorem Grew.below {w w':World} (h:Grew w w'):Below w.1.size w w':=⟨h.aux.2.1,h.aux.1,h.aux.2.2,h.size,h.keep⟩
theorem PN {o:Option Out} {v:AV} (h:ik o v=true):o=some (.ret v):=by
 cases o with
 | none=>simp[ik] at h
 | some o=>
  cases o with
  | pan c=>simp[ik] at h
  | ret u=>rw[E6 _ _ h]
theorem TabOk.at {P:Program} {G:Nat->Option (List AV)} {t:jL} (h:TabOk P G t) {f:FuncId} {args:List AV} {v:AV} (c:ik (Gx.look t f args) v=true):SealOk (jg P G (λ_=>true) []) f args (.ret v):=by obtain⟨u,a,b⟩:=Gv<|PN c;cases a;exact h _ b
theorem TabOk.add {P:Program} {G:Nat->Option (List AV)} {t:jL} (h:TabOk P G t) {f:FuncId} {args:List AV} {v:AV} (b:SealOk (jg P G (λ_=>true) []) f args (.ret v)):TabOk P G ((f,args,v)::t):=by
 intro e a
 rcases tW.1 a with rfl | a
 .exact b
 exact h e a
section
variable {B:Nat->Prop} {w:World} {φ:cO}
end
end Go.Proofs.YthcfmhgihcjloaaGreatDoor.Gx
namespace Go.Proofs.YthcfmhgihcjloaaGreatDoor.Gx
open Go
theorem BH {E:Env} {w:World} (a:∀g cs,E.G g=some cs->VRel (λ_=>False) w cP (.iptr cs) (.pointer<|some ⟨g,0,none⟩)):Sess E (λ_=>False) cP [] w where
 blk b ab cb co h _:=by simp at h
 inj b b' ab ab' cb co co' h:=by simp at h
 lt b cb co h:=by simp[cP] at h
 glob g cs h:=by
  have:Bd (λ_=>False) cP ([]:St)=λ_=>False:=by funext cb;simp only[Bd,eq_iff_iff,false_or,iff_false];exact D6 _ _
  rw[this];exact a g cs h
 fout cb h:=h.elim
theorem LN:Bd (λ_=>False) cP ([]:St)=λ_=>False:=by funext cb;simp only[Bd,eq_iff_iff,false_or,iff_false];exact D6 _ _
theorem Ac {P:Program} {w:World} {f:String} {k:IntKind} {a:List Int} {g:Nat} (h:Lib.TabIs P w f k a) (m:P.globalNamed f=some g) (o:a≠[]):
  VRel (λ_=>False) w cP (.iptr<|a.map λz=>.int k z) (.pointer<|some ⟨g,0,none⟩):=by
 have e:∀i,i<a.length->w.cell? ⟨g,i,none⟩=some (.int k<|a.getD i 0):=λi n=>h.cell m i n;have l:0<a.length:=List.length_pos_iff.2 o;refine .iptr (λj=>.int k<|a.getD j 0) (λh=>h) (lt_of_cell?<|e 0 l) (λj c b=>?_) λj c b=>?_
 .have:j<a.length:=by
   rcases tH j a.length with d | d
   .exact d
   rw[tF<|by simpa using d] at b;cases b
  simpa using e j this
 simp only[List.getElem?_map,tC] at b;obtain⟨z,p,rfl⟩:=b;have:a.getD j 0=z:=by simp[List.getD,p]
 rw[this];exact .int k z
theorem SealOk.true_calls {E:Env} {f:FuncId} {args:List AV} (h:SealOk E f args (.ret<|.bool true)) {w:World} {us:Array Value}
  (c:∀g cs,E.G g=some cs->VRel (λ_=>False) w cP (.iptr cs) (.pointer<|some ⟨g,0,none⟩)) (a:LRel (λ_=>False) w cP args us.toList):
  Calls E.P f us w λe w'=>e=.returned (.bool true)/\Grew w w':=by
 refine(h.calls (BH c)<|by rw[LN];exact a).mono λe w' ⟨⟨u,b,i⟩,d⟩=>⟨?_,d⟩;cases i;exact b
end Go.Proofs.YthcfmhgihcjloaaGreatDoor.Gx
namespace Go.Proofs.YthcfmhgihcjloaaGreatDoor.Gx
open Go Go.RowKit Go.ChangeShapes
theorem LO {H:Type} {g:TypeId × Value->H} {P:Program} (j:laidOutB P=true) {W f:World} (i:Below W.1.size W f):
  ∀{c:List TypeId} {vs:List Value} {a:List (DataW H)} {ps:List MemPlace},(∀t∈c,P.readableRec t=true/\t<P.types.size)->DataW.TrodAll g P W 0 (λ_=>true) true c vs a ps->(∀x∈ps,x.block<W.1.size)->
   DataW.TrodAll g P f 0 (λb=>decide (b<W.1.size)) true c vs a ps
 | [],vs,a,ps,_,h,_=>by obtain⟨rfl,rfl,rfl⟩:=trodAll_nil h;exact trodAll_mk0
 | t::c,vs,a,ps,hr,h,hlt=>by obtain⟨v,s,d,r,p,q,rfl,rfl,rfl,l,m⟩:=trodAll_cons h;exact⟨p,q,Below.trod j (hr t<|by simp).1 (hr t<|by simp).2 l i λx e=>hlt x<|by simp[e],LO j i (λo n=>hr o<|by simp[n]) m λx e=>hlt x<|by simp[e],rfl⟩
theorem PO {W b:World} (a:Below W.1.size W b) (e:MemPlace->Prop):W.keptBut b e:=by
 refine⟨a.os,a.output,λi d=>?_⟩;rw[a.block i d];split
 .rename_i c t fr c' t' fr' h1 h2;rw[h1] at h2;simp only[tN,Obj.cells.injEq] at h2;obtain⟨rfl,rfl,rfl⟩:=h2;exact⟨rfl,rfl,rfl,λ_ _=>rfl⟩
 .rename_i es cl es' cl' h1 h2;rw[h1] at h2;simp only[tN,Obj.map.injEq] at h2;exact .inr ⟨h2.1.symm,h2.2.symm⟩
 rfl
theorem PP {H:Type} {g:TypeId × Value->H} {P:Program} {f:Func} {s:ChangeSpec} {W e:World} {args:Array Value} {a b:List (DataW H)} {l:List MemPlace} {j:TypeId}
  (o:laidOutB P=true) (v:∀t∈f.params.toList,P.readableRec t=true/\t<P.types.size) (A:s.vars=[])
  (d:(s.fn H<|a++b).results=[.lit<|.bool true]/\(s.fn H<|a++b).args=a/\(s.fn H<|a++b).vars=[]) (y:f.resultTypes=#[j]) (z:P.underlying j=some .bool)
  (c:DataW.Whole g P f.params.toList s.vars false W args.toList a b l) (i:Below W.1.size W e):
  s.post g P f false true false false W args (.bool true) e:=by
 have r:=c.lt;have n:=c;obtain⟨p,q,m,D,rfl,_⟩:=c;have u:∀x∈p,x.block<W.1.size:=λx C=>by simpa using r x (by simp[C])
 refine⟨a,b,p++q,[],p,[],n,?_,?_,?_,PO i _,λh=>by cases h⟩
 .rw[d.1,y];exact⟨[],[],shut_bool z true,trodAll_mk0,rfl⟩
 .rw[d.2.1];exact LO o i v m u
 rw[d.2.2,A];rfl
end Go.Proofs.YthcfmhgihcjloaaGreatDoor.Gx
namespace Go.Proofs.YthcfmhgihcjloaaGreatDoor.Gx
open Go
def jG (P:Program):Nat->List FuncId->Nat->List FuncId->List FuncId
 | 0,_,_,seen=>seen.reverse
 | _,[],_,seen=>seen.reverse
 | n+1,f::todo,m,seen=>match Nat.testBit m f with
  | true=>jG P n todo m seen
  | false=>jG P n ((P.funcs[f]?).elim [] P.leadsTo++todo) (Nat.lor m<|Nat.shiftLeft 1 f) (f::seen)
theorem Jb (P:Program):∀(n:Nat) (b:List FuncId) (m:Nat) (a:List FuncId),(∀f,Nat.testBit m f=a.contains f)->jG P n b m a=P.closureVia n b a
 | 0,b,m,a,h=>by cases b<;>simp[jG,Program.closureVia]
 | n+1,[],m,a,h=>by simp[jG,Program.closureVia]
 | n+1,f::b,m,a,h=>by
  have c:=h f;unfold jG Program.closureVia
  cases i:a.contains f with
  | true=>rw[i] at c;simp only[c,if_true];exact Jb P n b m a h
  | false=>
   rw[i] at c;simp only[c,tM,if_false];refine Jb P n _ _ _ λg=>?_;have:Nat.testBit (Nat.lor m<|Nat.shiftLeft 1 f) g=(Nat.testBit m g||Nat.testBit (1 <<< f) g):=Nat.testBit_or m (1 <<< f) g;rw[this,h g,Nat.one_shiftLeft,Nat.testBit_two_pow];simp only[List.contains_cons];by_cases d:f=g
   .subst d;simp
   have j:¬g=f:=λe=>d e.symm;simp[d,j]
theorem PR {P:Program} {f:FuncId} {n:Nat} {L:List FuncId} (a:(P.funcs.toList.map λg=>(P.leadsTo g).length+1).sum=n) (h:jG P (1+n) [f] 0 []=L):P.closure f=L:=by unfold Program.closure;rw[a,<-Jb P (1+n) [f] 0 [] (by simp),h]
theorem PS {P:Program} (h:(P.funcs.toList.all λfn=>!Func.goes fn)=true) (f:FuncId):P.goes f=false:=by
 have b:∀fn∈P.funcs.toList,Func.goes fn=false:=λfn a=>by have:=tV.1 h fn a;simpa using this
 have c:∀g:Nat,(P.funcs[g]?).any Func.goes=false:=by
  intro g
  cases e:P.funcs[g]? with
  | none=>rfl
  | some fn=>have a:fn∈P.funcs.toList:=(by rw[vU];exact Array.mem_of_getElem? e);simpa using b fn a
 have d:P.funcs.any Func.goes=false:=by rw[<-Array.any_toList,List.any_eq_false];intro fn a;rw[b fn a];exact Bool.false_ne_true
 unfold Program.goes;rw[d,Bool.and_false,Bool.or_false,List.any_eq_false];intro g _;rw[c g];exact Bool.false_ne_true
