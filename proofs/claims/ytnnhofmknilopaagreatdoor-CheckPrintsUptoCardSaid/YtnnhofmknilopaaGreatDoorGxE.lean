import Derived.Test.YtnnhofmknilopaaGreatDoorGxD
import Derived.Below
import Derived.RowKit3
import Derived.Lib.LaidTab
import Derived.Carry
import Derived.RowKit
import Derived.ChangeOld
import Derived.JoinedOf
import Derived.KernelRfl
import GoSem.ClaimGoes
namespace Go.Proofs.YtnnhofmknilopaaGreatDoor.Gx
open Go
def RunOk (E:Env) (R:Rn):Prop:=
 ∀(c:Code) (fr:Fr) (st:St) (r:Ex × Fr × St),R c fr st=some r->∀(F:Nat->Prop) (φ:Phi) (w:World) (fn:FuncId) (kd:CallKind) (ro:Option Nat) (tmps:Array Value) (df:List Deferred) (cs:List Frame) (k:List Item),
  (E.P.funcs[fn]?).isSome=true->Sess E F φ st w->FRel (Bd F φ st) w φ fr kd ro tmps df cs->
  ExOk E F φ st w fn kd ro cs (lone (mkF fn kd ro tmps df (.code c::k)) cs w) k r
def inMode (fr:Frame) (u:FrameMode):Frame:={ fr with mode:=u }
section
variable {P:Program} {fn:FuncId} {kd:CallKind} {tmps:Array Value} {df:List Deferred} {k:List Item} {cs:List Frame} {w:World}
theorem st_ret:step P (lone (mkF fn kd none tmps df (.code .ret::k)) cs w)=.next (lone (inMode (mkF fn kd none tmps df (.code .ret::k)) .returning) cs w):=
 step_lone_go (by simp[stepG,stepG.exec,mkF,inMode])
theorem st_fall:step P (lone (mkF fn kd none tmps df []) cs w)=.next (lone (inMode (mkF fn kd none tmps df []) .returning) cs w):=
 step_lone_go (by simp[stepG,stepG.exec,mkF,inMode])
theorem loadAt_asAddr {t:TypeId} {u x:Value} (h:(Instr.loadAt t u).run P w=.ok x w):(do loadVar t (<-asAddr u):Sem Value).run P w=.ok x w:=by
 cases u with
 | pointer a=>
  cases a with
  | none=>simp[Instr.loadAt,Instr.sureAddr] at h
  | some a=>simpa [Instr.loadAt,Instr.sureAddr,asAddr] using h
 | _=>simp[Instr.loadAt,Instr.sureAddr] at h
end
section
variable {E:Env} {F:Nat->Prop} {φ:Phi} {st:St} {w:World}
def resM (tmps:Array Value):ResultVar->Sem Value
 | .tmp t=>pure (tmps.getD t undef)
 | .cell a t=>do loadVar t (<-asAddr (tmps.getD a undef))
theorem resL_sound (hS:Sess E F φ st w) {tm:List AV} {tmps:Array Value} (hT:LRel (Bd F φ st) w φ tm tmps.toList):∀{rs:List ResultVar} {vs:List AV},resL E st tm rs=some vs->
  ∃us,(rs.mapM (resM tmps)).run E.P w=.ok us w/\LRel (Bd F φ st) w φ vs us
 | [],vs,h=>by
  simp[resL] at h;subst h
  exact⟨[],by simp,.nil⟩
 | r::rs,vs,h=>by
  unfold resL at h
  split at h
  ·rename_i v vs' hv hvs
   simp at h;subst h
   obtain⟨us,h1,h2⟩:=resL_sound hS hT hvs
   cases r with
   | tmp t=>
    simp at hv;subst hv
    exact⟨tmps.getD t undef::us,by simp[List.mapM_cons,resM,h1],.cons (nth_sound hT t) h2⟩
   | cell a t=>
    simp only at hv
    obtain⟨x,hx,hr⟩:=loadE_sound hS hv (nth_sound hT a)
    have hx':=loadAt_asAddr hx
    exact⟨x::us,by rw[List.mapM_cons,Sem.run_bind,resM,hx'];simp[h1],.cons hr h2⟩
  ·cases h
theorem resV_sound {B:Nat->Prop} {vs:List AV} {us:List Value} (h:LRel B w φ vs us):VRel B w φ (resV vs) (if h:us.toArray.size=1 then us.toArray[0] else .tuple us.toArray):=by
 cases vs with
 | nil=>rw[h.inv_nil];exact VRel.undef
 | cons v vs=>
  obtain⟨u,us',rfl,h1,h2⟩:=h.inv_cons
  cases vs with
  | nil=>rw[h2.inv_nil];exact h1
  | cons v2 vs=>
   obtain⟨u2,us'',rfl,h3,h4⟩:=h2.inv_cons
   have:¬(u::u2::us'').toArray.size=1:=by simp
   rw[dif_neg this]
   exact .tup (by simpa using h.1) (fun j x y hx hy=>h.2 j x y hx (by simpa using hy))
theorem results_sound (hS:Sess E F φ st w) {tm:List AV} {tmps:Array Value} (hT:LRel (Bd F φ st) w φ tm tmps.toList) {fn:Func} {vs:List AV} (h:resL E st tm fn.results.toList=some vs):
  ∃u,(results fn tmps).run E.P w=.ok u w/\VRel (Bd F φ st) w φ (resV vs) u:=by
 obtain⟨us,h1,h2⟩:=resL_sound hS hT h
 refine⟨_,?_,resV_sound h2⟩
 have he:results fn tmps=(do
   let vs <-fn.results.mapM (resM tmps)
   pure (if h:vs.size=1 then vs[0] else .tuple vs)):=by
  unfold results
  congr 1
 rw[he,Array.mapM_eq_mapM_toList]
 simp only[bind_map_left,Sem.run_bind,h1]
 simp
def LeavOk (P:Program) (m:Machine) (cs:List Frame) (B:Nat->Prop) (w:World) (φ:Phi) (f:FuncId):Out->Prop
 | .ret v=>∃u fr,VRel B w φ v u/\Steps P m (lone fr cs w)/\fr.fn=f/\fr.leaving P w (.returned u)
 | .pan ch=>∃chain fr,All2 (PRelC B w φ) ch chain/\Steps P m (lone fr cs w)/\fr.fn=f/\fr.leaving P w (.panicked chain)
theorem LeavOk.out {P:Program} {m:Machine} {c:Frame} {cs:List Frame} {B:Nat->Prop} {f:FuncId} {out:Out} (h:LeavOk P m (c::cs) B w φ f out):OutOk P m c cs B w φ out:=by
 cases out with
 | ret v=>obtain⟨u,fr,h1,h2,_,h4⟩:=h;exact⟨u,h1,h2.trans (.one (step_leave_returned h4))⟩
 | pan ch=>obtain⟨chain,fr,h1,h2,_,h4⟩:=h;exact⟨chain,h1,h2.trans (.one (step_leave_panicked h4))⟩
theorem enter_mkF {P:Program} {f:FuncId} {fn:Func} {c:Code} (hf:P.funcs[f]?=some fn) (hb:fn.body=some c) (us:Array Value) (kd:CallKind):
  Frame.enter P f us kd=mkF f kd none (us++Array.replicate (fn.ntmps - us.size) undef) [] [.code c]:=by
 simp[Frame.enter,mkF,hf,hb]
theorem bodyOf_some {f:FuncId} {fn:Func} {c:Code} (h:bodyOf E f=some (fn,c)):E.P.funcs[f]?=some fn/\fn.body=some c:=by
 unfold bodyOf at h
 split at h
 ·rename_i fn' hf
  split at h
  ·rename_i c' hb
   simp at h;obtain⟨rfl,rfl⟩:=h
   exact⟨hf,hb⟩
  ·cases h
 ·cases h
theorem pads_sound {B:Nat->Prop} (n:Nat):LRel B w φ (pads n) (List.replicate n undef):=by
 refine⟨by simp[pads],fun j x v hx hv=>?_⟩
 simp only[pads,List.getElem?_replicate] at hx hv
 split at hx
 ·rename_i hj
  rw[if_pos hj] at hv
  simp at hx hv;subst hx;subst hv
  exact VRel.undef
 ·cases hx
theorem body_sound {R:Rn} (hR:RunOk E R) {f:FuncId} {fn:Func} {c:Code} (hf:bodyOf E f=some (fn,c)) {args:List AV} {rc:Option AMode} {m:AMode} {fr:Fr} {st':St} (h:body R fn c args rc st=some (m,fr,st'))
  (hS:Sess E F φ st w) {us:Array Value} (hA:LRel (Bd F φ st) w φ args us.toList) {kd:CallKind} {cs:List Frame}
  (hrc:match rc with | none=>kd=.normal | some m=>kd=.deferred/\∃c rest,cs=c::rest/\MRel (Bd F φ st) w φ m c.mode):
  ∃φ' w' tmps' df' cs' todo u,Sess E F φ' st' w'/\Ext φ st w φ' st' w'/\FRel (Bd F φ' st') w' φ' fr kd none tmps' df' cs'/\CsLike kd cs cs'/\MRel (Bd F φ' st') w' φ' m u/\u≠.run/\
   Steps E.P (lone (Frame.enter E.P f us kd) cs w) (lone (inMode (mkF f kd none tmps' df' todo) u) cs' w'):=by
 obtain⟨hf1,hf2⟩:=bodyOf_some hf
 have bG:(E.P.funcs[f]?).isSome=true:=by simp[hf1]
 rw[enter_mkF hf1 hf2]
 have hl:args.length=us.size:=by simpa using hA.1
 have hF0:FRel (Bd F φ st) w φ ⟨args++pads (fn.ntmps - args.length),[],rc,none⟩ kd none (us++Array.replicate (fn.ntmps - us.size) undef) [] cs:=by
  refine⟨?_,.nil,?_,rfl⟩
  ·rw[hl];simp only[Array.toList_append,Array.toList_replicate];exact hA.append (pads_sound _)
  ·cases rc with
   | none=>exact hrc
   | some m=>exact hrc
 unfold body at h
 split at h
 ·rename_i fr' st1 hr
  simp at h;obtain⟨rfl,rfl,rfl⟩:=h
  obtain⟨φ',w',tmps',df',cs',h1,h2,h3,h4,h5⟩:=hR _ _ _ _ hr F φ w f kd none _ _ cs [] bG hS hF0
  exact⟨φ',w',tmps',df',cs',_,.returning,h1,h2,h3,h4,rfl,by simp,h5.trans (.one st_fall)⟩
 ·rename_i fr' st1 hr
  simp at h;obtain⟨rfl,rfl,rfl⟩:=h
  obtain⟨φ',w',tmps',df',cs',h1,h2,h3,h4,k0,h5⟩:=hR _ _ _ _ hr F φ w f kd none _ _ cs [] bG hS hF0
  exact⟨φ',w',tmps',df',cs',_,.returning,h1,h2,h3,h4,rfl,by simp,h5.trans (.one st_ret)⟩
 ·rename_i ch fr' st1 hr
  simp at h;obtain⟨rfl,rfl,rfl⟩:=h
  obtain⟨φ',w',tmps',df',cs',h1,h2,h3,h4,chain,k0,h5,h6⟩:=hR _ _ _ _ hr F φ w f kd none _ _ cs [] bG hS hF0
  exact⟨φ',w',tmps',df',cs',k0,.panicking chain,h1,h2,h3,h4,⟨chain,rfl,h5⟩,by simp,h6⟩
 ·cases h
theorem settle_sound {B:Nat->Prop} {m:AMode} {u:FrameMode} (h:MRel B w φ m u):MRel B w φ (settleA m) (settle u):=by
 cases m with
 | returning=>cases h;rfl
 | panicking ch=>
  obtain⟨ch',rfl,hc⟩:=h
  cases hc with
  | nil=>exact⟨[],rfl,.nil⟩
  | cons he ht=>
   rename_i a e l l'
   obtain⟨v,rec⟩:=a
   obtain⟨v',rec',gx⟩:=e
   obtain⟨h1,h2,h3⟩:=he
   simp only at h1 h2 h3
   subst h2;subst h3
   cases rec' with
   | true=>
    have hd:l'.dropWhile (fun x=>!x.goexit)=[]:=by
     clear h1
     induction ht with
     | nil=>rfl
     | cons hab _ ih=>simp[hab.2.2,ih]
    simp[settleA,settle,hd,MRel]
   | false=>exact⟨_,rfl,.cons ⟨h1,rfl,rfl⟩ ht⟩
theorem raised_sound {B:Nat->Prop} {m:AMode} {u:FrameMode} (h:MRel B w φ m u) {ch:List APan} {chain:List PanicEntry} (hc:All2 (PRelC B w φ) ch chain):MRel B w φ (raisedA m ch) (raised u chain):=by
 cases m with
 | returning=>cases h;exact⟨chain,rfl,hc⟩
 | panicking old=>obtain⟨old',rfl,ho⟩:=h;exact⟨chain++old',rfl,hc.append ho⟩
theorem settleA_run {B:Nat->Prop} {m:AMode} {u:FrameMode} (h:MRel B w φ m u):u≠.run:=by
 cases m with
 | returning=>cases h;simp
 | panicking old=>obtain⟨old',rfl,ho⟩:=h;simp
def NoNum (P:Program):Prop:=∀(f:FuncId) (fn:Func),P.funcs[f]?=some fn->fn.body.isSome=true->(fn.name == "runtime.NumGoroutine")=false
theorem callFunc_run (hN:NoNum E.P) {f:FuncId} {fn:Func} {c:Code} (hf:bodyOf E f=some (fn,c)) (args:Array Value):(callFunc f args).run E.P w=.ok (.enter f args) w:=by
 obtain⟨h1,h2⟩:=bodyOf_some hf
 have h3:=hN f fn h1 (by simp[h2])
 have h4:¬fn.name = "runtime.NumGoroutine":=by simpa using h3
 simp[callFunc,h1,h4,h2]
end
end Go.Proofs.YtnnhofmknilopaaGreatDoor.Gx
namespace Go.Proofs.YtnnhofmknilopaaGreatDoor.Gx
open Go
section
variable {E:Env} {F:Nat->Prop} {φ:Phi} {st:St} {w:World}
theorem deferred_sound {R:Rn} (hR:RunOk E R) (hN:NoNum E.P) {fv:AV} {args:List AV} {m m':AMode} {st':St} (h:deferred E R fv args m st=some (m',st')) (hS:Sess E F φ st w) {d:Deferred} (hd:DRel (Bd F φ st) w φ (.call fv args) d)
  {fr:Frame} {ds:List Deferred} {cs:List Frame} (hds:fr.defers=d::ds) (hm:MRel (Bd F φ st) w φ m fr.mode):
  ∃φ' w' u',Sess E F φ' st' w'/\Ext φ st w φ' st' w'/\MRel (Bd F φ' st') w' φ' m' u'/\Steps E.P (lone fr cs w) (lone (inMode { fr with defers:=ds } u') cs w'):=by
 obtain⟨g,a,c,rfl,c',ar,rfl,hc,ha⟩:=hd
 simp only[deferred] at h
 split at h
 ·rename_i fn cd hb
  split at h
  ·rename_i m1 fr1 st1 dJ
   have aQ:(invoke (.fn (.func g) c') ar).run E.P w=.ok (.enter g (ar++c')) w:=by simp only[invoke];exact callFunc_run hN hb _
   have aa:=step_defer (P:=E.P) (cs:=cs) (settleA_run hm) hds rfl aQ
   have br:LRel (Bd F φ st) w φ (a++args++c) (ar++c').toList:=by rw[Array.toList_append];exact ha.append hc
   obtain⟨φ1,w1,tmps1,df1,cs1,todo1,u1,s1,s2,s3,s4,s5,s6,s7⟩:=body_sound hR hb dJ hS br (kd:=.deferred) (cs:={ fr with defers:=ds }::cs) ⟨rfl,_,_,rfl,hm⟩
   have dK:∀u,fr1.rc=some u->∃x,cs1=inMode { fr with defers:=ds } x::cs/\MRel (Bd F φ1 st1) w1 φ1 u x:=by
    intro u hu
    have:=s3.rc
    rw[hu] at this
    obtain⟨_,c0,rest,e,hm0⟩:=this
    rcases s4 with rfl | ⟨_,c2,rest2,x,e1,rfl⟩
    ·simp at e;obtain⟨rfl,rfl⟩:=e
     exact⟨fr.mode,rfl,hm0⟩
    ·simp at e1;obtain⟨rfl,rfl⟩:=e1
     simp at e;obtain⟨rfl,rfl⟩:=e
     exact⟨x,rfl,hm0⟩
   have bG:=(bodyOf_some hb).1
   split at h
   ·rename_i u v hdf hrc bH
    simp at h;obtain⟨rfl,rfl⟩:=h
    obtain⟨x,rfl,hx⟩:=dK u hrc
    have fq:df1=[]:=by have:=s3.df;rw[hdf] at this;cases this;rfl
    subst fq
    cases m1 with
    | panicking ch=>simp[ends] at bH
    | returning=>
     cases s5
     simp only[ends,Option.map_eq_some_iff] at bH
     obtain⟨vs,hvs,_⟩:=bH
     obtain⟨r,hr,_⟩:=results_sound s1 s3.tm hvs
     refine⟨φ1,w1,settle x,s1,s2,settle_sound hx,.head aa (s7.trans (.one ?_))⟩
     exact step_going_returned (c:=inMode { fr with defers:=ds } x) (v:=r) rfl ⟨rfl,rfl,fn,bG,hr⟩
   ·rename_i u ch hdf hrc bH
    simp at h;obtain⟨rfl,rfl⟩:=h
    obtain⟨x,rfl,hx⟩:=dK u hrc
    have fq:df1=[]:=by have:=s3.df;rw[hdf] at this;cases this;rfl
    subst fq
    cases m1 with
    | returning=>simp[ends] at bH
    | panicking ch'=>
     simp[ends] at bH;subst bH
     obtain⟨chain,rfl,hch⟩:=s5
     refine⟨φ1,w1,raised x chain,s1,s2,raised_sound hx hch,.head aa (s7.trans (.one ?_))⟩
     exact step_going_panicked (c:=inMode { fr with defers:=ds } x) ⟨rfl,rfl,fn,bG⟩
   ·cases h
  ·cases h
 ·cases h
theorem st_collected {P:Program} {fr:Frame} {ds:List Deferred} {cs:List Frame} {b:Nat} (hm:fr.mode≠.run) (hd:fr.defers={ target:=.collected b,args:=#[] }::ds) (hb:w.heap[b]?=some (.deferred (some []))):
  step P (lone fr cs w)=.next (lone { fr with defers:=ds } cs (setAt w b (.deferred none))):=by
 have aQ:(Instr.takeDeferred b).run P w=.ok [] (setAt w b (.deferred none)):=by
  simp[Instr.takeDeferred,getObj_run hb (by intro c t fz;simp),setObj_run hb (by intro c t fz;simp)]
 refine step_lone_go ?_
 cases dL:fr.mode with
 | run=>exact absurd dL hm
 | returning=>simp[stepG,unwind,dL,hd,aQ]
 | panicking chain=>simp[stepG,unwind,dL,hd,aQ]
theorem leave_sound {R:Rn} (hR:RunOk E R) (hN:NoNum E.P):∀(ds:List ADef) {m m':AMode} {st st':St} {φ:Phi} {w:World},leave E R ds m st=some (m',st')->Sess E F φ st w->
  ∀{fr:Frame} {cs:List Frame},All2 (DRel (Bd F φ st) w φ) ds fr.defers->MRel (Bd F φ st) w φ m fr.mode->
  ∃φ' w' u',Sess E F φ' st' w'/\Ext φ st w φ' st' w'/\MRel (Bd F φ' st') w' φ' m' u'/\Steps E.P (lone fr cs w) (lone (inMode { fr with defers:=[] } u') cs w')
 | [],m,m',st,st',φ,w,h,hS,fr,cs,hds,hm=>by
  simp[leave] at h;obtain⟨rfl,rfl⟩:=h
  have he:fr.defers=[]:=by generalize fr.defers=l at hds;cases hds;rfl
  refine⟨φ,w,fr.mode,hS,Ext.refl _ _ _,hm,?_⟩
  have:inMode { fr with defers:=[] } fr.mode=fr:=by cases fr;simp[inMode] at he ⊢;exact he
  rw[this];exact .refl _ _
 | .coll b::ds,m,m',st,st',φ,w,h,hS,fr,cs,hds,hm=>by
  simp only[leave] at h
  rw[get?_eq] at h
  split at h
  ·rename_i hb
   generalize hl:fr.defers=l at hds
   cases hds with
   | cons hd ht=>
    rename_i d l'
    obtain⟨cb,y,rfl,hp⟩:=hd
    have aR:=hS.blk b _ cb y hb hp
    simp only[ORel,Bool.false_eq_true,if_false] at aR
    have aa:=st_collected (P:=E.P) (cs:=cs) (settleA_run hm) hl aR
    rw[upd_eq] at h
    obtain⟨hS1,hE1⟩:=hS.change (ab':=.defd true) hb rfl rfl hp (o':=.deferred none) (fun c t fz hc=>by rw[aR] at hc;cases hc) (by simp only[ORel,if_true];exact setAt_same aR)
    obtain⟨φ2,w2,u2,s1,s2,s3,s4⟩:=leave_sound hR hN ds h hS1 (fr:={ fr with defers:=l' }) (cs:=cs) (ht.mono fun _ _=>DRel.mono hE1.goes hE1.phi) (hm.mono hE1.goes hE1.phi)
    exact⟨φ2,w2,u2,s1,hE1.trans s2,s3,.head aa s4⟩
  ·cases h
 | .call fv args::ds,m,m',st,st',φ,w,h,hS,fr,cs,hds,hm=>by
  simp only[leave] at h
  split at h
  ·rename_i m1 st1 eK
   generalize hl:fr.defers=l at hds
   cases hds with
   | cons hd ht=>
    rename_i d l'
    obtain⟨φ1,w1,u1,s1,s2,s3,s4⟩:=deferred_sound hR hN eK hS hd (cs:=cs) hl hm
    obtain⟨φ2,w2,u2,t1,t2,t3,t4⟩:=leave_sound hR hN ds h s1 (fr:=inMode { fr with defers:=l' } u1) (cs:=cs) (ht.mono fun _ _=>DRel.mono s2.goes s2.phi) s3
    exact⟨φ2,w2,u2,t1,s2.trans t2,t3,s4.trans t4⟩
  ·cases h
theorem ends_sound {fn:Func} {f:FuncId} (hf:E.P.funcs[f]?=some fn) {m:AMode} {fr:Fr} {out:Out} (h:ends E fn m fr st=some out) (hS:Sess E F φ st w) {tmps:Array Value} (hT:LRel (Bd F φ st) w φ fr.tm tmps.toList)
  {u:FrameMode} (hm:MRel (Bd F φ st) w φ m u) {m0:Machine} {todo:List Item} {cs:List Frame} (hs:Steps E.P m0 (lone (inMode (mkF f .normal none tmps [] todo) u) cs w)):LeavOk E.P m0 cs (Bd F φ st) w φ f out:=by
 cases m with
 | returning=>
  cases hm
  simp only[ends,Option.map_eq_some_iff] at h
  obtain⟨vs,hvs,rfl⟩:=h
  obtain⟨r,hr,hv⟩:=results_sound hS hT hvs
  exact⟨r,_,hv,hs,rfl,rfl,rfl,rfl,fn,hf,hr⟩
 | panicking ch=>
  simp[ends] at h;subst h
  obtain⟨chain,rfl,hch⟩:=hm
  exact⟨chain,_,hch,hs,rfl,rfl,rfl,fn,hf⟩
theorem inline_sound {R:Rn} (hR:RunOk E R) (hN:NoNum E.P) {f:FuncId} {args:List AV} {out:Out} {st':St} (h:inline E R f args st=some (out,st')) (hS:Sess E F φ st w) {us:Array Value} (hA:LRel (Bd F φ st) w φ args us.toList) (cs:List Frame):
  ∃φ' w',Sess E F φ' st' w'/\Ext φ st w φ' st' w'/\LeavOk E.P (lone (Frame.enter E.P f us .normal) cs w) cs (Bd F φ' st') w' φ' f out:=by
 unfold inline at h
 split at h
 ·rename_i fn c hb
  split at h
  ·rename_i m fr st1 dJ
   split at h
   ·rename_i m' st2 hlv
    simp only[Option.map_eq_some_iff,Prod.mk.injEq] at h
    obtain⟨o,bH,rfl,rfl⟩:=h
    obtain⟨φ1,w1,tmps1,df1,cs1,todo1,u1,s1,s2,s3,s4,s5,s6,s7⟩:=body_sound hR hb dJ hS hA (kd:=.normal) (cs:=cs) rfl
    have hcs:cs1=cs:=by rcases s4 with h | ⟨h,_⟩;exact h;cases h
    subst hcs
    obtain⟨φ2,w2,u2,t1,t2,t3,t4⟩:=leave_sound hR hN fr.df hlv s1 (fr:=inMode (mkF f .normal none tmps1 df1 todo1) u1) (cs:=cs1) s3.df s5
    exact⟨φ2,w2,t1,s2.trans t2,ends_sound (bodyOf_some hb).1 bH t1 (t2.list s3.tm) t3 (s7.trans t4)⟩
   ·cases h
  ·cases h
 ·cases h
theorem inline_body {R:Rn} {f:FuncId} {args:List AV} {r:Out × St} (h:inline E R f args st=some r):∃fn c,bodyOf E f=some (fn,c):=by
 unfold inline at h
 split at h
 ·rename_i fn c hb;exact⟨fn,c,hb⟩
 ·cases h
structure Grew (w w':World):Prop where
 size:w.heap.size<=w'.heap.size
 keep:∀(cb:Nat),cb<w.heap.size->w'.heap[cb]?=w.heap[cb]?
 aux:w'.tape=w.tape/\w'.os=w.os/\w'.output=w.output
theorem Grew.shape {w':World} (h:Grew w w') (cb:Nat) (cells:Array Value) (t:TypeId) (fz:Nat × Nat) (hc:w.heap[cb]?=some (.cells cells t fz)):∃cells':Array Value,w'.heap[cb]?=some (.cells cells' t fz)/\cells'.size=cells.size:=
 ⟨cells,by rw[h.keep cb (heap_lt hc)];exact hc,rfl⟩
theorem Sess.grew {w':World} (h:Sess E F φ st w) (hg:Grew w w'):Sess E F φ st w'/\Ext φ st w φ st w':=by
 have aV:Ext φ st w φ st w':=⟨⟨fun _ _ h=>h,hg.size,fun cb hlt _=>hg.keep cb hlt,fun _ _ o=>o,hg.shape,Nat.le_refl _,hg.aux⟩,fun _ _=>rfl⟩
 have g:=aV.goes (F:=F)
 exact⟨⟨fun b ab cb co h1 h2=>(h.blk b ab cb co h1 h2).other g (fun _ _ h=>h) (hg.keep cb (h.lt b cb co h2).1) (fun _=>(h.lt b cb co h2).1),h.inj,
  fun b cb co hb=>⟨Nat.lt_of_lt_of_le (h.lt b cb co hb).1 hg.size,(h.lt b cb co hb).2⟩,fun gl cs hgl=>(h.glob gl cs hgl).mono g (fun _ _ h=>h),fun cb hf=>⟨Nat.lt_of_lt_of_le (h.fout cb hf).1 hg.size,(h.fout cb hf).2⟩⟩,aV⟩
theorem own_nil (φ:Phi) (cb:Nat):¬Own φ [] cb:=by
 rintro⟨b,ab,co,h,_⟩;simp at h
theorem Sess.inner (h:Sess E F φ st w):Sess E (Bd F φ st) phi0 [] w where
 blk:=fun b ab cb co hb=>by simp at hb
 inj:=fun b b' ab ab' cb co co' hb=>by simp at hb
 lt:=fun b cb co hb=>by simp[phi0] at hb
 glob:=fun g cs hg=>(h.glob g cs hg).mono ⟨fun cb _ hb=>⟨fun hb'=>hb'.elim hb (own_nil _ _),rfl⟩,Nat.le_refl _,fun cb cells t fz hc=>⟨cells,hc,rfl⟩⟩ (fun _ _ h=>h)
 fout:=fun cb hf=>⟨hf.elim (fun hf=>(h.fout cb hf).1) (fun⟨b,ab,co,h1,_,h3⟩=>(h.lt b cb co h3).1),own_nil _ _⟩
theorem goes_in:Goes (Bd F φ st) w (Bd (Bd F φ st) phi0 []) w:=
 ⟨fun _cb _ hb=>⟨fun hb'=>hb'.elim hb (own_nil _ _),rfl⟩,Nat.le_refl _,fun _cb cells _t _fz hc=>⟨cells,hc,rfl⟩⟩
def SealOk (E:Env) (f:FuncId) (args:List AV) (out:Out):Prop:=
 (∃fn c,bodyOf E f=some (fn,c))/\∀(F:Nat->Prop) (w:World) (us:Array Value) (cs:List Frame),Sess E F phi0 [] w->LRel (Bd F phi0 []) w phi0 args us.toList->
   ∃w',Grew w w'/\LeavOk E.P (lone (Frame.enter E.P f us .normal) cs w) cs F w' phi0 f out
theorem goes_out {φ':Phi} {st':St}:Goes (Bd F φ' st') w F w:=
 ⟨fun _cb _ hb=>⟨fun hf=>hb (.inl hf),rfl⟩,Nat.le_refl _,fun _cb cells _t _fz hc=>⟨cells,hc,rfl⟩⟩
theorem sealed_sound {R:Rn} (hR:RunOk E R) (hN:NoNum E.P) {f:FuncId} {args:List AV} {out:Out} (h:sealed E R f args=some out):SealOk E f args out:=by
 unfold sealed at h
 split at h
 ·rename_i o st1 hin
  refine⟨inline_body hin,fun F w us cs hS hA=>?_⟩
  obtain⟨φ1,w1,s1,s2,s3⟩:=inline_sound hR hN hin hS hA cs
  refine⟨w1,⟨s2.size,fun cb hlt=>s2.keep cb hlt (own_nil _ _),s2.aux⟩,?_⟩
  unfold frzOut at h
  split at h
  ·rename_i v
   simp only[Option.map_eq_some_iff] at h
   obtain⟨⟨v',st2⟩,hf,rfl⟩:=h
   obtain⟨u,fr,t1,t2,t3,t4⟩:=s3
   obtain⟨_,_,q⟩:=frzV_sound frzDepth _ _ _ _ _ hf s1 t1
   exact⟨u,fr,q.mono goes_out (fun _ _ h=>h),t2,t3,t4⟩
  ·split at h
   ·rename_i v
    simp only[Option.map_eq_some_iff] at h
    obtain⟨⟨v',st2⟩,hf,rfl⟩:=h
    obtain⟨chain,fr,t1,t2,t3,t4⟩:=s3
    cases t1 with
    | cons ha hb=>
     cases hb
     obtain⟨_,_,q⟩:=frzV_sound frzDepth _ _ _ _ _ hf s1 ha.1
     exact⟨_,fr,.cons ⟨q.mono goes_out (fun _ _ h=>h),ha.2⟩ .nil,t2,t3,t4⟩
   ·cases h
 ·cases h
def MemoOk (E:Env):Prop:=∀(f:FuncId) (args:List AV) (out:Out),E.memo f args=some out->SealOk E f args out
theorem SealOk.call {f:FuncId} {args:List AV} {out:Out} (h:SealOk E f args out) (hS:Sess E F φ st w) {us:Array Value} (hA:LRel (Bd F φ st) w phi0 args us.toList) (cs:List Frame):
  ∃w',Sess E F φ st w'/\Ext φ st w φ st w'/\LeavOk E.P (lone (Frame.enter E.P f us .normal) cs w) cs (Bd F φ st) w' φ f out:=by
 obtain⟨w',hg,hl⟩:=h.2 (Bd F φ st) w us cs hS.inner (hA.mono goes_in (fun _ _ h=>h))
 obtain⟨s1,s2⟩:=hS.grew hg
 refine⟨w',s1,s2,?_⟩
 have hφ:∀b x,phi0 b=some x->φ b=some x:=fun b x h=>by simp[phi0] at h
 have g:Goes (Bd F φ st) w' (Bd F φ st) w':=⟨fun cb _ hb=>⟨hb,rfl⟩,Nat.le_refl _,fun cb cells t fz hc=>⟨cells,hc,rfl⟩⟩
 cases out with
 | ret v=>obtain⟨u,fr,t1,t2,t3,t4⟩:=hl;exact⟨u,fr,t1.mono g hφ,t2,t3,t4⟩
 | pan ch=>obtain⟨chain,fr,t1,t2,t3,t4⟩:=hl;exact⟨chain,fr,t1.mono fun _ _ h=>h.mono g hφ,t2,t3,t4⟩
theorem callF_sound {R:Rn} (hR:RunOk E R) (hN:NoNum E.P) (hM:MemoOk E) {f:FuncId} {args:List AV} {out:Out} {st':St} (h:callF E R f args st=some (out,st')) (hS:Sess E F φ st w) {us:Array Value}
  (hA:LRel (Bd F φ st) w φ args us.toList):(∃fn c,bodyOf E f=some (fn,c))/\∀cs:List Frame,
  ∃φ' w',Sess E F φ' st' w'/\Ext φ st w φ' st' w'/\LeavOk E.P (lone (Frame.enter E.P f us .normal) cs w) cs (Bd F φ' st') w' φ' f out:=by
 unfold callF at h
 split at h
 ·split at h
  ·rename_i args' st1 hfr
   obtain⟨s1,s2,s3⟩:=frzL_sound (frzV_sound frzDepth) hfr hS hA
   have fin:SealOk E f args' out->st1=st'->(∃fn c,bodyOf E f=some (fn,c))/\∀cs:List Frame,
     ∃φ' w',Sess E F φ' st' w'/\Ext φ st w φ' st' w'/\LeavOk E.P (lone (Frame.enter E.P f us .normal) cs w) cs (Bd F φ' st') w' φ' f out:=by
    rintro hs rfl
    refine⟨hs.1,fun cs=>?_⟩
    obtain⟨w',t1,t2,t3⟩:=hs.call s1 s3 cs
    exact⟨φ,w',t1,s2.trans t2,t3⟩
   split at h
   ·rename_i o hm
    simp at h;obtain⟨rfl,rfl⟩:=h
    exact fin (hM _ _ _ hm) rfl
   ·split at h
    ·rename_i o hs
     simp at h;obtain⟨rfl,rfl⟩:=h
     exact fin (sealed_sound hR hN hs) rfl
    ·cases h
  ·exact⟨inline_body h,fun cs=>inline_sound hR hN h hS hA cs⟩
 ·exact⟨inline_body h,fun cs=>inline_sound hR hN h hS hA cs⟩
end
end Go.Proofs.YtnnhofmknilopaaGreatDoor.Gx
namespace Go.Proofs.YtnnhofmknilopaaGreatDoor.Gx
open Go
section
variable {P:Program} {fn:FuncId} {kd:CallKind} {ro:Option Nat} {tmps:Array Value} {df:List Deferred} {k:List Item} {cs:List Frame} {w w1:World}
theorem st_rangeFunc {f:Operand} {params:Array Tmp} {assign bd:Code} {l:Nat} {mark:List Deferred} {nx:Next} {fr0:Frame} (he:(Instr.enterLoop fn tmps params assign bd ro).run P w=.ok (l,mark) w1)
  (hc:(callSem (evalT tmps f) #[.func (.yield l) #[] #[]]).run P w1=.ok nx w1) (hn:nextFrame P nx=some fr0):
  step P (lone (mkF fn kd ro tmps df (.code (.rangeFunc f params assign bd)::k)) cs w)=.next (lone fr0 (mkF fn kd ro tmps (mark++df) (.inRangeFunc l::k)::cs) w1):=by
 have hev:=eval_mkF (fn:=fn) (kd:=kd) (ro:=ro) (tmps:=tmps) (df:=mark++df) (.inRangeFunc l::k)
 simp only[mkF] at hev
 have aQ:(do let d <-resolve (evalT tmps) { callee:=.value f,args:=#[.const (.func (.yield l) #[] #[])],argTypes:=#[] } 0;invoke d.target d.args:Sem Next).run P w1=.ok nx w1:=by
  have:(resolve (evalT tmps) { callee:=.value f,args:=#[.const (.func (.yield l) #[] #[])],argTypes:=#[] } 0)=Deferred.ofValue (evalT tmps f) #[.func (.yield l) #[] #[]]:=by
   simp[resolve,evalT]
  rw[this];exact hc
 refine step_lone_go ?_
 cases nx<;>simp[nextFrame] at hn<;>subst hn<;>simp[stepG,stepG.exec,stepG.apply,mkF,he,hev,aQ]
theorem st_endRange {l:Nat} {L:Loop} (hl:w.heap[l]?=some (.loop L)) (hb:L.state≠.busy):
  step P (lone (mkF fn kd ro tmps df (.endRangeFunc l::k)) cs w)=.next (lone (mkF fn kd ro tmps df ((L.pending.map Item.code).toList++k)) cs (setAt w l (.loop { L with state:=.exhausted }))):=by
 have aQ:(Instr.endLoop l).run P w=.ok L.pending (setAt w l (.loop { L with state:=.exhausted })):=by
  simp[Instr.endLoop,Instr.getLoop,getObj_run hl (by intro c t f;simp),setObj_run hl (by intro c t f;simp),hb]
 exact step_lone_go (by simp[stepG,stepG.exec,mkF,aQ])
theorem st_beginRound {l:Nat} {L:Loop} (hl:w.heap[l]?=some (.loop L)) (hb:L.state=.ready):
  step P (lone (mkF fn kd (some l) tmps df (.beginRound::k)) cs w)=.next (lone (mkF fn kd (some l) tmps df k) cs (setAt w l (.loop { L with state:=.busy }))):=by
 have aQ:(Instr.beginRound l).run P w=.ok () (setAt w l (.loop { L with state:=.busy })):=by
  simp[Instr.beginRound,Instr.getLoop,getObj_run hl (by intro c t f;simp),setObj_run hl (by intro c t f;simp),hb]
 exact step_lone_go (by simp[stepG,stepG.exec,stepG.apply,mkF,aQ,Frame.finish])
theorem endRound_run {l:Nat} {L:Loop} (hl:w.heap[l]?=some (.loop L)) (jump:Option Code):
  (Instr.endRound l jump).run P w=.ok (.bool jump.isNone) (setAt w l (.loop { L with state:=if jump.isNone then .ready else .done,pending:=jump })):=by
 simp[Instr.endRound,Instr.getLoop,getObj_run hl (by intro c t f;simp),setObj_run hl (by intro c t f;simp)]
theorem st_roundEnd {l:Nat} {L:Loop} {c:Frame} (hl:w.heap[l]?=some (.loop L)):
  step P (lone (mkF fn .normal (some l) tmps df []) (c::cs) w)=.next (lone (c.finish (.bool true)) cs (setAt w l (.loop { L with state:=.ready,pending:=none }))):=by
 have h:=endRound_run (P:=P) hl none
 exact step_lone_go (by simp[stepG,stepG.exec,mkF,h,doReturn])
theorem st_roundRet {l:Nat} {L:Loop} {c:Frame} (hl:w.heap[l]?=some (.loop L)):
  step P (lone (mkF fn .normal (some l) tmps df (.code .ret::k)) (c::cs) w)=.next (lone (c.finish (.bool false)) cs (setAt w l (.loop { L with state:=.done,pending:=some .ret }))):=by
 have h:=endRound_run (P:=P) hl (some .ret)
 exact step_lone_go (by simp[stepG,stepG.exec,mkF,h,doReturn])
theorem st_roundExit {l id:Nat} {L:Loop} {c:Frame} (hl:w.heap[l]?=some (.loop L)) (hx:exitTo id k=none):
  step P (lone (mkF fn .normal (some l) tmps df (.code (.exit id)::k)) (c::cs) w)=.next (lone (c.finish (.bool false)) cs (setAt w l (.loop { L with state:=.done,pending:=some (.exit id) }))):=by
 have h:=endRound_run (P:=P) hl (some (.exit id))
 exact step_lone_go (by simp[stepG,stepG.exec,mkF,h,doReturn,hx])
end
section
variable {E:Env} {F:Nat->Prop} {φ:Phi} {st:St} {w:World}
theorem loop_change (hS:Sess E F φ st w) {l cl y:Nat} {L:ALoop} (hl:st[l]?=some (.loop L)) (hp:φ l=some (cl,y)):
  ∃CL:Loop,w.heap[cl]?=some (.loop CL)/\CL.state=L.state/\CL.pending=L.pending/\CL.params.toList=L.params/\CL.assign=L.assign/\CL.body=L.body/\LRel (Bd F φ st) w φ L.tmps CL.tmps.toList/\(E.P.funcs[CL.fn]?).isSome=true/\
   ∀(s:LoopState) (p:Option Code),Sess E F φ (upd st l (.loop { L with state:=s,pending:=p })) (setAt w cl (.loop { CL with state:=s,pending:=p }))/\
    Ext φ st w φ (upd st l (.loop { L with state:=s,pending:=p })) (setAt w cl (.loop { CL with state:=s,pending:=p })):=by
 obtain⟨CL,h1,h2,h3,h4,h5,h6,h7,⟨y8,h8⟩,h9⟩:=hS.blk l _ cl y hl hp
 refine⟨CL,h1,h2,h3,h4,h5,h6,h7,h9,fun s p=>?_⟩
 rw[upd_eq]
 have az:Own φ st cl:=⟨l,_,y,hl,rfl,hp⟩
 have g:Goes (Bd F φ st) w (Bd F φ st) (setAt w cl (.loop { CL with state:=s,pending:=p })):=goes_setAt (.inr az) h1 (fun c t fz hc=>by cases hc)
 exact hS.change hl rfl rfl hp (fun c t fz hc=>by rw[h1] at hc;cases hc) ⟨_,setAt_same h1,rfl,rfl,h4,h5,h6,h7.mono g (fun _ _ h=>h),⟨y8,h8⟩,h9⟩
theorem setParams_sound {B:Nat->Prop}:∀{ps:List Tmp} {args tm:List AV} {us:List Value} {tmps:Array Value},args.length=ps.length->LRel B w φ args us->LRel B w φ tm tmps.toList->
  LRel B w φ (setParams ps args tm) ((ps.zip us).foldl (fun tmps (x:Tmp × Value)=>tmps.setIfInBounds x.1 x.2) tmps).toList
 | [],args,tm,us,tmps,hl,hA,hT=>by simpa [setParams] using hT
 | p::ps,args,tm,us,tmps,hl,hA,hT=>by
  cases args with
  | nil=>simp at hl
  | cons a args=>
   obtain⟨u,us',rfl,h1,h2⟩:=hA.inv_cons
   simp only[setParams,List.zip_cons_cons,List.foldl_cons]
   refine setParams_sound (by simpa using hl) h2 ?_
   rw[upd_eq,Array.toList_setIfInBounds]
   exact hT.set p h1
theorem round_sound {R:Rn} (hR:RunOk E R) {l:Nat} {args:List AV} {out:Out} {st':St} (h:round R l args st=some (out,st')) (hS:Sess E F φ st w) {cl y:Nat} (hp:φ l=some (cl,y)) {us:Array Value}
  (hA:LRel (Bd F φ st) w φ args us.toList):∃nx fr,(Instr.yield cl us).run E.P w=.ok nx w/\nextFrame E.P nx=some fr/\
    ∀(c:Frame) (cs:List Frame),∃φ' w',Sess E F φ' st' w'/\Ext φ st w φ' st' w'/\OutOk E.P (lone fr (c::cs) w) c cs (Bd F φ' st') w' φ' out:=by
 unfold round at h
 rw[get?_eq] at h
 split at h
 ·rename_i L hl
  split at h
  ·rename_i ae
   obtain⟨CL,c1,c2,c3,c4,c5,c6,c7,c8,c9⟩:=loop_change hS hl hp
   have hsz:us.size=CL.params.size:=by
    have h1:=hA.1;have h2:CL.params.size=L.params.length:=by rw[<-c4];simp
    simp at h1;omega
   have fu:(Instr.yield cl us).run E.P w=.ok (.round cl CL.fn ((CL.params.zip us).foldl (fun tmps (x:Tmp × Value)=>tmps.setIfInBounds x.1 x.2) CL.tmps) CL.assign CL.body) w:=by
    simp[Instr.yield,Instr.getLoop,getObj_run c1 (by intro c t f;simp),hsz]
   refine⟨_,_,fu,rfl,fun c cs=>?_⟩
   have hT:LRel (Bd F φ st) w φ (setParams L.params args L.tmps) ((CL.params.zip us).foldl (fun tmps (x:Tmp × Value)=>tmps.setIfInBounds x.1 x.2) CL.tmps).toList:=by
    have:=setParams_sound (ps:=L.params) ae hA c7
    rw[<-Array.foldl_toList,Array.toList_zip,c4]
    exact this
   have hF0:FRel (Bd F φ st) w φ ⟨setParams L.params args L.tmps,[],none,some l⟩ .normal (some cl) ((CL.params.zip us).foldl (fun tmps (x:Tmp × Value)=>tmps.setIfInBounds x.1 x.2) CL.tmps) [] (c::cs):=
    ⟨hT,.nil,rfl,cl,y,rfl,hp⟩
   split at h
   ·rename_i fr1 st1 hr1
    rw[<-c5] at hr1
    obtain⟨φ1,w1,tmps1,df1,cs1,s1,s2,s3,s4,s5⟩:=hR _ _ _ _ hr1 F φ w CL.fn .normal (some cl) _ _ (c::cs) [.beginRound,.code CL.body] c8 hS hF0
    have iw:cs1=c::cs:=by rcases s4 with h | ⟨h,_⟩;exact h;cases h
    subst iw
    simp only at s1 s2 s3
    have hp1:φ1 l=some (cl,y):=s2.phi _ _ hp
    rw[get?_eq] at h
    split at h
    ·rename_i L1 hl1
     split at h
     ·rename_i bw
      obtain⟨CL1,d1,d2,d3,d4,d5,d6,d7,d8,d9⟩:=loop_change s1 hl1 hp1
      obtain⟨e1,e2⟩:=d9 .busy L1.pending
      have hb1:=st_beginRound (P:=E.P) (fn:=CL.fn) (kd:=.normal) (tmps:=tmps1) (df:=df1) (k:=[.code CL.body]) (cs:=c::cs) d1 (by rw[d2,bw])
      have hW:({ CL1 with state:=.busy }:Loop)={ CL1 with state:=.busy,pending:=L1.pending }:=by rw[<-d3]
      rw[hW] at hb1
      have hF1:=s3.mono e2.goes e2.phi
      split at h
      ·rename_i ex tm2 rc2 ro2 st2 hr2
       rw[<-c6] at hr2
       obtain⟨φ2,w2,tmps2,df2,cs2,t1,t2,t3,t4,t5⟩:=hR _ _ _ _ hr2 F φ1 _ CL.fn .normal (some cl) _ _ (c::cs) [] c8 e1 hF1
       have ix:cs2=c::cs:=by rcases t4 with h | ⟨h,_⟩;exact h;cases h
       subst ix
       simp only at t1 t2 t3
       have iy:df2=[]:=by have:=t3.df;cases this;rfl
       subst iy
       have hp2:φ2 l=some (cl,y):=t2.phi _ _ hp1
       have eL:Steps E.P (lone (Frame.round cl CL.fn ((CL.params.zip us).foldl (fun tmps (x:Tmp × Value)=>tmps.setIfInBounds x.1 x.2) CL.tmps) CL.assign CL.body .normal) (c::cs) w)
        (lone (mkF CL.fn .normal (some cl) tmps1 df1 [.code CL.body]) (c::cs) (setAt w1 cl (.loop { CL1 with state:=.busy,pending:=L1.pending }))):=Steps.trans s5 (.one hb1)
       rw[get?_eq] at h
       split at h
       ·rename_i L2 hl2
        obtain⟨CL2,f1,f2,f3,f4,f5,f6,f7,f8,f9⟩:=loop_change t1 hl2 hp2
        have hE:Ext φ st w φ2 st2 w2:=s2.trans (e2.trans t2)
        unfold endRound at h
        cases ex with
        | normal=>
         simp at h;obtain⟨rfl,rfl⟩:=h
         obtain⟨g1,g2⟩:=f9 .ready none
         exact⟨φ2,_,g1,hE.trans g2,_,.bool true,eL.trans (Steps.trans t5 (.one (st_roundEnd f1)))⟩
        | ret=>
         simp at h;obtain⟨rfl,rfl⟩:=h
         obtain⟨g1,g2⟩:=f9 .done (some .ret)
         obtain⟨k0,t5⟩:=t5
         exact⟨φ2,_,g1,hE.trans g2,_,.bool false,eL.trans (Steps.trans t5 (.one (st_roundRet f1)))⟩
        | exit id=>
         simp at h;obtain⟨rfl,rfl⟩:=h
         obtain⟨g1,g2⟩:=f9 .done (some (.exit id))
         obtain⟨k0,hk0,t5⟩:=t5
         exact⟨φ2,_,g1,hE.trans g2,_,.bool false,eL.trans (Steps.trans t5 (.one (st_roundExit f1 (by rw[hk0];rfl))))⟩
        | pan ch=>
         simp at h;obtain⟨rfl,rfl⟩:=h
         obtain⟨chain,k0,hch,t5⟩:=t5
         obtain⟨fnc,iz⟩:=Option.isSome_iff_exists.1 c8
         exact⟨φ2,w2,t1,hE,chain,hch,eL.trans (Steps.trans t5 (.one (step_leave_panicked ⟨rfl,rfl,fnc,iz⟩)))⟩
       ·cases h
      ·cases h
     ·cases h
    ·cases h
   ·cases h
  ·cases h
 ·cases h
theorem callV_sound {R:Rn} (hR:RunOk E R) (hN:NoNum E.P) (hM:MemoOk E) (hX:ExtOk E):CalOk E (callV E R):=by
 refine⟨hX,?_⟩
 intro fv args st out st' h F φ w uf us hS hf hA
 cases hf with
 | func ha hc hav hcv=>
  rename_i f a c a' c'
  simp only[callV] at h
  have br:LRel (Bd F φ st) w φ (a++args++c) (a'++us++c').toList:=by
   simp only[Array.toList_append]
   exact(LRel.append ⟨by simpa using ha,fun j x v hx hv=>hav j x v hx (by simpa using hv)⟩ hA).append ⟨by simpa using hc,fun j x v hx hv=>hcv j x v hx (by simpa using hv)⟩
  obtain⟨⟨fn,cd,hb⟩,bi⟩:=callF_sound hR hN hM h hS br
  refine⟨.enter f (a'++us++c'),Frame.enter E.P f (a'++us++c') .normal,?_,rfl,fun c cs=>?_⟩
  ·simp only[callSem,Deferred.ofValue,pure_bind,invoke]
   exact callFunc_run hN hb _
  ·obtain⟨φ',w',s1,s2,s3⟩:=bi (c::cs)
   exact⟨φ',w',s1,s2,s3.out⟩
 | yld hp=>
  simp only[callV] at h
  obtain⟨nx,fr,h1,h2,h3⟩:=round_sound hR h hS hp hA
  refine⟨nx,fr,?_,h2,h3⟩
  simp only[callSem,Deferred.ofValue,pure_bind,invoke]
  simpa using h1
 | _=>simp[callV] at h
end
end Go.Proofs.YtnnhofmknilopaaGreatDoor.Gx
namespace Go.Proofs.YtnnhofmknilopaaGreatDoor.Gx
open Go
section
variable {E:Env} {F:Nat->Prop} {φ:Phi} {st:St} {w:World}
theorem enterL_sound (hS:Sess E F φ st w) {fr:Fr} {kd:CallKind} {ro:Option Nat} {tmps:Array Value} {df:List Deferred} {cs:List Frame} (hF:FRel (Bd F φ st) w φ fr kd ro tmps df cs)
  {dblk:Nat} {mark:List ADef} {st1:St} (h:enterL fr st=some (dblk,mark,st1)):
  ∃φ1 w1 cd y cmark,Sess E F φ1 st1 w1/\Ext φ st w φ1 st1 w1/\φ1 dblk=some (cd,y)/\All2 (DRel (Bd F φ1 st1) w1 φ1) mark cmark/\
   ∀(fn:FuncId) (tmps:Array Value) (params:Array Tmp) (assign bd:Code),(Instr.enterLoop fn tmps params assign bd ro).run E.P w=
    .ok (w1.heap.size,cmark) (pushed w1 (.loop { state:=.ready,pending:=none,fn,tmps,params,assign,body:=bd,defers:=cd })):=by
 unfold enterL at h
 have hro:=hF.ro
 split at h
 ·rename_i he
  simp at h;obtain⟨rfl,rfl,rfl⟩:=h
  rw[he] at hro
  subst hro
  obtain⟨s1,s2,s3⟩:=obj_new hS (ab:=.defd false) rfl (.deferred (some [])) (fun B' φ' _ _=>by simp only[ORel,Bool.false_eq_true,if_false];exact pushed_new w _)
  refine⟨_,_,w.heap.size,0,[{ target:=.collected w.heap.size,args:=#[] }],s1,s2,s3,.cons ⟨_,0,rfl,s3⟩ .nil,fun fn tmps params assign bd=>?_⟩
  simp[Instr.enterLoop,pushed]
  rfl
 ·rename_i l he
  rw[get?_eq] at h
  split at h
  ·rename_i L hl
   simp at h;obtain⟨rfl,rfl,rfl⟩:=h
   rw[he] at hro
   obtain⟨cl,y,rfl,hp⟩:=hro
   obtain⟨CL,h1,h2,h3,h4,h5,h6,h7,⟨y8,h8⟩,h9⟩:=hS.blk l _ cl y hl hp
   refine⟨φ,w,CL.defers,y8,[],hS,Ext.refl _ _ _,h8,.nil,fun fn tmps params assign bd=>?_⟩
   simp[Instr.enterLoop,Instr.getLoop,getObj_run h1 (by intro c t f;simp),pushed]
  ·cases h
theorem rangeF_sound {R:Rn} (aZ:CalOk E (callV E R)) (hS:Sess E F φ st w) {fn:FuncId} (hfn:(E.P.funcs[fn]?).isSome=true) {kd:CallKind} {ro:Option Nat} {tmps:Array Value} {df:List Deferred} {cs:List Frame} {fr:Fr}
  (hF:FRel (Bd F φ st) w φ fr kd ro tmps df cs) {f:Operand} {params:Array Tmp} {assign bd:Code} {r:Ex × Fr × St} (h:rangeF E R f params.toList assign bd fr st=some r) (k:List Item):
  ExOk E F φ st w fn kd ro cs (lone (mkF fn kd ro tmps df (.code (.rangeFunc f params assign bd)::k)) cs w) k r:=by
 unfold rangeF at h
 split at h
 ·rename_i fv dblk mark st1 hev hen
  obtain⟨φ1,w1,cd,y,cmark,s1,s2,s3,s4,s5⟩:=enterL_sound hS hF hen
  have hF1:=hF.mono s2.goes s2.phi
  obtain⟨t1,t2,t3⟩:=obj_new s1 (ab:=.loop ⟨.ready,none,fr.tm,params.toList,assign,bd,dblk⟩) rfl (.loop { state:=.ready,pending:=none,fn,tmps,params,assign,body:=bd,defers:=cd })
   (fun B' φ' hle g=>⟨_,pushed_new w1 _,rfl,rfl,rfl,rfl,rfl,hF1.tm.mono g hle,⟨y,hle _ _ s3⟩,hfn⟩)
  have hF2:=hF1.mono t2.goes t2.phi
  have hfv:=t2.val (s2.val (ev_sound hS hF.tm hev))
  cases hcv:callV E R fv [.yld st1.length] (st1++[AB.loop ⟨.ready,none,fr.tm,params.toList,assign,bd,dblk⟩]) with
  | none=>rw[hcv] at h;simp[endL] at h
  | some p=>
   obtain⟨out,st3⟩:=p
   rw[hcv] at h
   obtain⟨nx,fr0,aQ,hnf,bi⟩:=aZ.2 _ _ _ _ _ hcv F _ _ _ #[.func (.yield w1.heap.size) #[] #[]] t1 hfv (.cons (.yld t3) .nil)
   obtain⟨φ3,w3,q1,q2,q3⟩:=bi (mkF fn kd ro tmps (cmark++df) (.inRangeFunc w1.heap.size::k)) cs
   have aa:=st_rangeFunc (P:=E.P) (kd:=kd) (df:=df) (k:=k) (cs:=cs) (f:=f) (s5 fn tmps params assign bd) aQ hnf
   have hE:Ext φ st w φ3 st3 w3:=s2.trans (t2.trans q2)
   have hF3:FRel (Bd F φ3 st3) w3 φ3 { fr with df:=mark++fr.df } kd ro tmps (cmark++df) cs:=by
    have h3:=hF2.mono q2.goes q2.phi
    exact⟨h3.tm,(s4.mono fun _ _ h=>(h.mono t2.goes t2.phi).mono q2.goes q2.phi).append h3.df,h3.rc,h3.ro⟩
   have hp3:φ3 st1.length=some (w1.heap.size,0):=q2.phi _ _ t3
   cases out with
   | ret v=>
    obtain⟨u,_,hu⟩:=q3
    have aN:(mkF fn kd ro tmps (cmark++df) (.inRangeFunc w1.heap.size::k)).finish u=mkF fn kd ro tmps (cmark++df) (.endRangeFunc w1.heap.size::k):=rfl
    rw[aN] at hu
    simp only[endL] at h
    rw[get?_eq] at h
    split at h
    ·rename_i L hl
     split at h
     ·cases h
     ·rename_i hnb
      obtain⟨CL,c1,c2,c3,c4,c5,c6,c7,c8,c9⟩:=loop_change q1 hl hp3
      obtain⟨g1,g2⟩:=c9 .exhausted L.pending
      have dK:=st_endRange (P:=E.P) (fn:=fn) (kd:=kd) (ro:=ro) (tmps:=tmps) (df:=cmark++df) (k:=k) (cs:=cs) c1 (by rw[c2];exact hnb)
      have hW:({ CL with state:=.exhausted }:Loop)={ CL with state:=.exhausted,pending:=L.pending }:=by rw[<-c3]
      rw[hW,c3] at dK
      have hF4:=hF3.mono g2.goes g2.phi
      have hs:=Steps.head aa (hu.trans (.one dK))
      split at h
      ·rename_i hpd
       simp at h;subst h
       rw[hpd] at hs
       exact⟨φ3,_,tmps,_,cs,g1,hE.trans g2,hF4,.refl _ _,by simpa [Arr,hpd] using hs⟩
      ·rename_i hpd
       simp at h;subst h
       rw[hpd] at hs
       exact⟨φ3,_,tmps,_,cs,g1,hE.trans g2,hF4,.refl _ _,k,by simpa [hpd] using hs⟩
      ·rename_i id hpd
       simp at h;subst h
       rw[hpd] at hs
       exact⟨φ3,_,tmps,_,cs,g1,hE.trans g2,hF4,.refl _ _,k,rfl,by simpa [hpd] using hs⟩
      ·cases h
    ·cases h
   | pan ch=>
    simp[endL] at h;subst h
    obtain⟨chain,hch,hu⟩:=q3
    exact⟨φ3,w3,tmps,_,cs,q1,hE,hF3,.refl _ _,chain,_,hch,.head aa hu⟩
 ·cases h
theorem seq_sound {R:Rn} {b:Code} {fn:FuncId} {kd:CallKind} {ro:Option Nat} {cs:List Frame} {m:Machine} {k:List Item} {it:Item} {r0 r:Ex × Fr × St}
  (hb:∀(φ:Phi) (st:St) (w:World) (fr:Fr) (tmps:Array Value) (df:List Deferred) (cs:List Frame),R b fr st=some r->Sess E F φ st w->FRel (Bd F φ st) w φ fr kd ro tmps df cs->
    ExOk E F φ st w fn kd ro cs (lone (mkF fn kd ro tmps df (it::k)) cs w) k r)
  (hit:∀id,exitTo id (it::k)=exitTo id k) (h:runSeq R b (some r0)=some r) (h0:ExOk E F φ st w fn kd ro cs m (it::k) r0):ExOk E F φ st w fn kd ro cs m k r:=by
 obtain⟨ex,fr0,st0⟩:=r0
 obtain⟨φ1,w1,tmps1,df1,cs1,s1,s2,s3,s4,s5⟩:=h0
 cases ex with
 | normal=>
  simp only[runSeq] at h
  exact ExOk.of_steps s5 s2 s4 (hb φ1 st0 w1 fr0 tmps1 df1 cs1 h s1 s3)
 | exit id=>
  simp[runSeq] at h;subst h
  obtain⟨k0,e,hs⟩:=s5
  exact⟨φ1,w1,tmps1,df1,cs1,s1,s2,s3,s4,k0,e.trans (hit id),hs⟩
 | ret=>simp[runSeq] at h;subst h;exact⟨φ1,w1,tmps1,df1,cs1,s1,s2,s3,s4,s5⟩
 | pan ch=>simp[runSeq] at h;subst h;exact⟨φ1,w1,tmps1,df1,cs1,s1,s2,s3,s4,s5⟩
structure EnvOk (E:Env):Prop where
 noNum:NoNum E.P
 memo:MemoOk E
 mixed:E.P.follows .mixedOrders=true
 ext:ExtOk E
def LoopOk (E:Env) (R:Rn):Prop:=
 ∀(b:Code) (fr:Fr) (st:St) (r:Ex × Fr × St),R (.loop b) fr st=some r->∀(F:Nat->Prop) (φ:Phi) (w:World) (fn:FuncId) (kd:CallKind) (ro:Option Nat) (tmps:Array Value) (df:List Deferred) (cs:List Frame) (k:List Item),
  (E.P.funcs[fn]?).isSome=true->Sess E F φ st w->FRel (Bd F φ st) w φ fr kd ro tmps df cs->
  ExOk E F φ st w fn kd ro cs (lone (mkF fn kd ro tmps df (.inLoop b::k)) cs w) k r
theorem run_sound (hE:EnvOk E):∀n,RunOk E (run E n)/\LoopOk E (run E n)
 | 0=>⟨fun c fr st r h=>by simp[run] at h,fun c fr st r h=>by simp[run] at h⟩
 | n+1=>by
  obtain⟨ihR,ihL⟩:=run_sound hE n
  have aZ:=callV_sound ihR hE.noNum hE.memo hE.ext
  have loop:∀{b:Code} {fr:Fr} {st:St} {r:Ex × Fr × St},loopC b E (run E n) fr st=some r->∀{F:Nat->Prop} {φ:Phi} {w:World} {fn:FuncId} {kd:CallKind} {ro:Option Nat} {tmps:Array Value} {df:List Deferred} {cs:List Frame} {k:List Item},
    (E.P.funcs[fn]?).isSome=true->Sess E F φ st w->FRel (Bd F φ st) w φ fr kd ro tmps df cs->ExOk E F φ st w fn kd ro cs (lone (mkF fn kd ro tmps df (.code b::.inLoop b::k)) cs w) k r:=by
   intro b fr st r h F φ w fn kd ro tmps df cs k hfn hS hF
   simp only[loopC] at h
   cases h0:run E n b fr st with
   | none=>rw[h0] at h;simp[runSeq] at h
   | some r0=>
    rw[h0] at h
    exact seq_sound (fun φ st w fr tmps df cs hr hS hF=>ihL b fr st r hr F φ w fn kd ro tmps df cs k hfn hS hF) (fun id=>rfl) h (ihR _ _ _ _ h0 F φ w fn kd ro tmps df cs _ hfn hS hF)
  refine⟨fun c fr st r h F φ w fn kd ro tmps df cs k hfn hS hF=>?_,fun b fr st r h F φ w fn kd ro tmps df cs k hfn hS hF=>?_⟩
  ·simp only[run] at h
   cases c with
   | skip=>
    simp[codeC,skipC] at h;subst h
    exact⟨φ,w,tmps,df,cs,hS,Ext.refl _ _ _,hF,.refl _ _,.one st_skip⟩
   | region id ops draw=>exact region_sound aZ hE.mixed hS hF h k
   | seq a b=>
    simp only[codeC,seqC] at h
    cases h0:run E n a fr st with
    | none=>rw[h0] at h;simp[runSeq] at h
    | some r0=>
     rw[h0] at h
     refine ExOk.of_steps (.one st_seq) (Ext.refl _ _ _) (.refl _ _) ?_
     exact seq_sound (fun φ st w fr tmps df cs hr hS hF=>ihR b fr st r hr F φ w fn kd ro tmps df cs k hfn hS hF) (fun id=>rfl) h (ihR _ _ _ _ h0 F φ w fn kd ro tmps df cs _ hfn hS hF)
   | cond c a b=>
    simp only[codeC,condC] at h
    split at h
    ·rename_i hc
     have hv:=ev_sound hS hF.tm hc
     generalize hu:evalT tmps c=u at hv
     cases hv
     refine ExOk.of_steps (.one (st_cond hu)) (Ext.refl _ _ _) (.refl _ _) ?_
     exact ihR _ _ _ _ h F φ w fn kd ro tmps df cs k hfn hS hF
    ·rename_i hc
     have hv:=ev_sound hS hF.tm hc
     generalize hu:evalT tmps c=u at hv
     cases hv
     refine ExOk.of_steps (.one (st_cond hu)) (Ext.refl _ _ _) (.refl _ _) ?_
     exact ihR _ _ _ _ h F φ w fn kd ro tmps df cs k hfn hS hF
    ·cases h
   | block id b=>
    simp only[codeC,blockC] at h
    cases h0:run E n b fr st with
    | none=>rw[h0] at h;simp[runBlock] at h
    | some r0=>
     rw[h0] at h
     refine ExOk.of_steps (.one st_block) (Ext.refl _ _ _) (.refl _ _) ?_
     obtain⟨ex,fr0,st0⟩:=r0
     obtain⟨φ1,w1,tmps1,df1,cs1,s1,s2,s3,s4,s5⟩:=ihR _ _ _ _ h0 F φ w fn kd ro tmps df cs (.inBlock id::k) hfn hS hF
     cases ex with
     | normal=>
      simp[runBlock] at h;subst h
      exact⟨φ1,w1,tmps1,df1,cs1,s1,s2,s3,s4,Steps.trans s5 (.one st_inBlock)⟩
     | exit j=>
      simp only[runBlock] at h
      obtain⟨k0,e,hs⟩:=s5
      split at h
      ·rename_i hj
       simp at h;subst h;subst hj
       exact⟨φ1,w1,tmps1,df1,cs1,s1,s2,s3,s4,hs.trans (.one (st_exit (e.trans (by simp[exitTo]))))⟩
      ·rename_i hj
       simp at h;subst h
       exact⟨φ1,w1,tmps1,df1,cs1,s1,s2,s3,s4,k0,e.trans (by simp[exitTo,Ne.symm hj]),hs⟩
     | ret=>simp[runBlock] at h;subst h;exact⟨φ1,w1,tmps1,df1,cs1,s1,s2,s3,s4,s5⟩
     | pan ch=>simp[runBlock] at h;subst h;exact⟨φ1,w1,tmps1,df1,cs1,s1,s2,s3,s4,s5⟩
   | loop b=>exact ExOk.of_steps (.one st_loop) (Ext.refl _ _ _) (.refl _ _) (loop h hfn hS hF)
   | rangeFunc f params assign bd=>exact rangeF_sound aZ hS hfn hF h k
   | exit id=>
    simp[codeC,exitC] at h;subst h
    exact⟨φ,w,tmps,df,cs,hS,Ext.refl _ _ _,hF,.refl _ _,k,rfl,.refl _ _⟩
   | ret=>
    simp[codeC,retC] at h;subst h
    exact⟨φ,w,tmps,df,cs,hS,Ext.refl _ _ _,hF,.refl _ _,k,.refl _ _⟩
   | _=>simp[codeC,noneC] at h
  ·simp only[run] at h
   exact ExOk.of_steps (.one st_inLoop) (Ext.refl _ _ _) (.refl _ _) (loop h hfn hS hF)
theorem callS_sound (hE:EnvOk E) {n:Nat} {f:FuncId} {args:List AV} {out:Out} (h:sealed E (run E n) f args=some out):SealOk E f args out:=
 sealed_sound (run_sound hE n).1 hE.noNum h
theorem SealOk.calls {f:FuncId} {args:List AV} {v:AV} (h:SealOk E f args (.ret v)) {us:Array Value} (hS:Sess E F phi0 [] w) (hA:LRel (Bd F phi0 []) w phi0 args us.toList):
  Calls E.P f us w fun e w'=>(∃u,e=.returned u/\VRel F w' phi0 v u)/\Grew w w':=by
 intro cs
 obtain⟨w',hg,u,fr,h1,h2,h3,h4⟩:=h.2 F w us cs hS hA
 exact⟨.returned u,w',fr,⟨⟨u,rfl,h1⟩,hg⟩,h2,h3,h4⟩
end
end Go.Proofs.YtnnhofmknilopaaGreatDoor.Gx
namespace Go.Proofs.YtnnhofmknilopaaGreatDoor.Gx
open Go
abbrev Tab:=List (FuncId × List AV × AV)
def look:Tab->FuncId->List AV->Option Out
 | [],_,_=>none
 | (g,as,v)::t,f,args=>match Nat.beq g f with
  | true=>match avsEq as args with
   | true=>some (.ret v)
   | false=>look t f args
  | false=>look t f args
def tenv (P:Program) (G:Nat->Option (List AV)) (X:FuncId->Option Ent) (pol:FuncId->Bool) (t:Tab):Env:={ P,G,pol,memo:=look t,ext:=X }
def XOk (P:Program) (X:FuncId->Option Ent):Prop:=∀f k,X f=some k->∃fn,P.funcs[f]?=some fn/\(fn.name == "runtime.NumGoroutine")=false/\fn.body.isNone=true/\Extern.findNext fn=none/\Extern.find fn=some k.sem
def agrees:Option Out->AV->Bool
 | some (.ret u),v=>avEq u v
 | _,_=>false
def chkT (P:Program) (G:Nat->Option (List AV)) (X:FuncId->Option Ent) (pol:FuncId->Bool) (n:Nat) (t:Tab):Tab->Bool
 | []=>true
 | (f,as,v)::r=>match agrees (callS (tenv P G X pol t) n f as) v with
  | true=>chkT P G X pol n t r
  | false=>false
theorem SealOk.env {E E':Env} (hP:E'.P=E.P) (hG:E'.G=E.G) {f:FuncId} {args:List AV} {out:Out} (h:SealOk E f args out):SealOk E' f args out:=by
 obtain⟨P,G,pol,memo,ext⟩:=E
 obtain⟨P',G',pol',memo',ext'⟩:=E'
 simp only at hP hG
 subst hP;subst hG
 refine⟨h.1,fun F w us cs hS hA=>h.2 F w us cs ⟨hS.blk,hS.inj,hS.lt,hS.glob,hS.fout⟩ hA⟩
def TabOk (P:Program) (G:Nat->Option (List AV)) (t:Tab):Prop:=∀e∈t,SealOk (tenv P G (fun _=>none) (fun _=>true) []) e.1 e.2.1 (.ret e.2.2)
theorem look_some:∀{t:Tab} {f:FuncId} {args:List AV} {out:Out},look t f args=some out->∃v,out=.ret v/\(f,args,v)∈t
 | [],f,args,out,h=>by simp[look] at h
 | (g,as,v)::t,f,args,out,h=>by
  unfold look at h
  split at h
  ·rename_i hg
   split at h
   ·rename_i ha
    simp at h;subst h
    rw[Nat.eq_of_beq_eq_true hg,avsEq_eq _ _ ha]
    exact⟨v,rfl,by simp⟩
   ·obtain⟨u,h1,h2⟩:=look_some h;exact⟨u,h1,List.mem_cons_of_mem _ h2⟩
  ·obtain⟨u,h1,h2⟩:=look_some h;exact⟨u,h1,List.mem_cons_of_mem _ h2⟩
theorem TabOk.memo {P:Program} {G:Nat->Option (List AV)} {t:Tab} (h:TabOk P G t) (X:FuncId->Option Ent) (pol:FuncId->Bool):MemoOk (tenv P G X pol t):=by
 intro f args out hl
 obtain⟨v,rfl,hm⟩:=look_some hl
 exact SealOk.env (E:=tenv P G (fun _=>none) (fun _=>true) []) (E':=tenv P G X pol t) rfl rfl (h _ hm)
theorem TabOk.env {P:Program} {G:Nat->Option (List AV)} {t:Tab} (h:TabOk P G t) (hN:NoNum P) (hM:P.follows .mixedOrders=true) {X:FuncId->Option Ent} (pol:FuncId->Bool) (hX:XOk P X):EnvOk (tenv P G X pol t):=⟨hN,h.memo X pol,hM,hX⟩
theorem TabOk.nil (P:Program) (G:Nat->Option (List AV)):TabOk P G []:=fun e he=>by simp at he
theorem TabOk.chk {P:Program} {G:Nat->Option (List AV)} {t:Tab} (h:TabOk P G t) (hN:NoNum P) (hM:P.follows .mixedOrders=true) {X:FuncId->Option Ent} (hX:XOk P X) {pol:FuncId->Bool} {n:Nat}:∀{r:Tab},chkT P G X pol n t r=true->TabOk P G (r++t)
 | [],_=>h
 | (f,as,v)::r,hc=>by
  unfold chkT at hc
  split at hc
  ·rename_i ha
   have ih:=TabOk.chk h hN hM hX hc
   intro e he
   simp only[List.cons_append,List.mem_cons] at he
   rcases he with rfl | he
   ·cases hs:callS (tenv P G X pol t) n f as with
    | none=>rw[hs] at ha;simp[agrees] at ha
    | some o=>
     rw[hs] at ha
     cases o with
     | pan ch=>simp[agrees] at ha
     | ret u=>
      rw[<-avEq_eq _ _ ha]
      exact SealOk.env (E:=tenv P G X pol t) (E':=tenv P G (fun _=>none) (fun _=>true) []) rfl rfl (callS_sound (h.env hN hM pol hX) hs)
   ·exact ih e he
  ·cases hc
end Go.Proofs.YtnnhofmknilopaaGreatDoor.Gx
namespace Go.Proofs.YtnnhofmknilopaaGreatDoor.Gx
open Go Go.RowKit
theorem Grew.below {w w':World} (h:Grew w w'):Below w.heap.size w w':=⟨h.aux.2.1,h.aux.1,h.aux.2.2,h.size,h.keep⟩
theorem agrees_eq {o:Option Out} {v:AV} (h:agrees o v=true):o=some (.ret v):=by
 cases o with
 | none=>simp[agrees] at h
 | some o=>
  cases o with
  | pan c=>simp[agrees] at h
  | ret u=>rw[avEq_eq _ _ h]
theorem TabOk.at {P:Program} {G:Nat->Option (List AV)} {t:Tab} (h:TabOk P G t) {f:FuncId} {args:List AV} {v:AV} (hl:agrees (Gx.look t f args) v=true):SealOk (tenv P G (fun _=>none) (fun _=>true) []) f args (.ret v):=by
 obtain⟨u,h1,h2⟩:=look_some (agrees_eq hl)
 cases h1
 exact h _ h2
theorem TabOk.add {P:Program} {G:Nat->Option (List AV)} {t:Tab} (h:TabOk P G t) {f:FuncId} {args:List AV} {v:AV} (hs:SealOk (tenv P G (fun _=>none) (fun _=>true) []) f args (.ret v)):TabOk P G ((f,args,v)::t):=by
 intro e he
 rcases List.mem_cons.1 he with rfl | he
 ·exact hs
 ·exact h e he
section
variable {B:Nat->Prop} {w:World} {φ:Phi}
end
end Go.Proofs.YtnnhofmknilopaaGreatDoor.Gx
namespace Go.Proofs.YtnnhofmknilopaaGreatDoor.Gx
open Go
theorem sess0 {E:Env} {w:World} (hg:∀g cs,E.G g=some cs->VRel (fun _=>False) w phi0 (.iptr cs) (.pointer (some ⟨g,0,none⟩))):Sess E (fun _=>False) phi0 [] w where
 blk b ab cb co h _:=by simp at h
 inj b b' ab ab' cb co co' h:=by simp at h
 lt b cb co h:=by simp[phi0] at h
 glob g cs h:=by
  have:Bd (fun _=>False) phi0 ([]:St)=fun _=>False:=by
   funext cb;simp only[Bd,eq_iff_iff,false_or,iff_false];exact own_nil _ _
  rw[this];exact hg g cs h
 fout cb h:=h.elim
theorem bd0:Bd (fun _=>False) phi0 ([]:St)=fun _=>False:=by
 funext cb;simp only[Bd,eq_iff_iff,false_or,iff_false];exact own_nil _ _
theorem tab_rel {P:Program} {w:World} {name:String} {k:IntKind} {zs:List Int} {g:Nat} (h:Lib.TabIs P w name k zs) (hg:P.globalNamed name=some g) (hne:zs≠[]):
  VRel (fun _=>False) w phi0 (.iptr (zs.map fun z=>.int k z)) (.pointer (some ⟨g,0,none⟩)):=by
 have hc:∀i,i<zs.length->w.cell? ⟨g,i,none⟩=some (.int k (zs.getD i 0)):=fun i hi=>h.cell hg i hi
 have h0:0<zs.length:=List.length_pos_iff.2 hne
 refine .iptr (fun j=>.int k (zs.getD j 0)) (fun h=>h) (lt_of_cell? (hc 0 h0)) (fun j c hj=>?_) (fun j c hj=>?_)
 ·have:j<zs.length:=by
   rcases Nat.lt_or_ge j zs.length with hl | hl
   ·exact hl
   ·rw[List.getElem?_eq_none (by simpa using hl)] at hj;cases hj
  simpa using hc j this
 ·simp only[List.getElem?_map,Option.map_eq_some_iff] at hj
  obtain⟨z,hz,rfl⟩:=hj
  have:zs.getD j 0=z:=by simp[List.getD,hz]
  rw[this];exact .int k z
theorem SealOk.true_calls {E:Env} {f:FuncId} {args:List AV} (h:SealOk E f args (.ret (.bool true))) {w:World} {us:Array Value}
  (hg:∀g cs,E.G g=some cs->VRel (fun _=>False) w phi0 (.iptr cs) (.pointer (some ⟨g,0,none⟩))) (hA:LRel (fun _=>False) w phi0 args us.toList):
  Calls E.P f us w fun e w'=>e=.returned (.bool true)/\Grew w w':=by
 refine(h.calls (sess0 hg) (by rw[bd0];exact hA)).mono fun e w' ⟨⟨u,he,hu⟩,hgr⟩=>⟨?_,hgr⟩
 cases hu
 exact he
end Go.Proofs.YtnnhofmknilopaaGreatDoor.Gx
namespace Go.Proofs.YtnnhofmknilopaaGreatDoor.Gx
open Go Go.RowKit Go.ChangeShapes
theorem trodAll_below {H:Type} {enc:TypeId × Value->H} {P:Program} (hl:laidOutB P=true) {W W':World} (hb:Below W.heap.size W W'):
  ∀{ts:List TypeId} {vs:List Value} {ds:List (DataW H)} {ps:List MemPlace},(∀t∈ts,P.readableRec t=true/\t<P.types.size)->DataW.TrodAll enc P W 0 (fun _=>true) true ts vs ds ps->(∀x∈ps,x.block<W.heap.size)->
   DataW.TrodAll enc P W' 0 (fun b=>decide (b<W.heap.size)) true ts vs ds ps
 | [],vs,ds,ps,_,h,_=>by
  obtain⟨rfl,rfl,rfl⟩:=trodAll_nil h
  exact trodAll_mk0
 | t::ts,vs,ds,ps,hr,h,hlt=>by
  obtain⟨v,vs',d,ds',p,q,rfl,rfl,rfl,h1,h2⟩:=trodAll_cons h
  exact⟨p,q,Below.trod hl (hr t (by simp)).1 (hr t (by simp)).2 h1 hb (fun x hx=>hlt x (by simp[hx])),trodAll_below hl hb (fun t' ht'=>hr t' (by simp[ht'])) h2 (fun x hx=>hlt x (by simp[hx])),rfl⟩
theorem kept_below {W W':World} (hb:Below W.heap.size W W') (may:MemPlace->Prop):W.keptBut W' may:=by
 refine⟨hb.os,hb.output,fun i hi=>?_⟩
 rw[hb.block i hi]
 split
 ·rename_i c t fr c' t' fr' h1 h2
  rw[h1] at h2
  simp only[Option.some.injEq,Obj.cells.injEq] at h2
  obtain⟨rfl,rfl,rfl⟩:=h2
  exact⟨rfl,rfl,rfl,fun _ _=>rfl⟩
 ·rename_i es cl es' cl' h1 h2
  rw[h1] at h2
  simp only[Option.some.injEq,Obj.map.injEq] at h2
  exact .inr ⟨h2.1.symm,h2.2.symm⟩
 ·rfl
theorem post_true {H:Type} {enc:TypeId × Value->H} {P:Program} {f:Func} {s:ChangeSpec} {W W':World} {args:Array Value} {ds gs:List (DataW H)} {before:List MemPlace} {tb:TypeId}
  (hl:laidOutB P=true) (gD:∀t∈f.params.toList,P.readableRec t=true/\t<P.types.size) (gE:s.vars=[])
  (hfn:(s.fn H (ds++gs)).results=[.lit (.bool true)]/\(s.fn H (ds++gs)).args=ds/\(s.fn H (ds++gs)).vars=[]) (dh:f.resultTypes=#[tb]) (htb:P.underlying tb=some .bool)
  (hW:DataW.Whole enc P f.params.toList s.vars false W args.toList ds gs before) (hb:Below W.heap.size W W'):
  s.post enc P f false true false false W args (.bool true) W':=by
 have hlt:=hW.lt
 have hW':=hW
 obtain⟨p,q,hA,hV,rfl,_⟩:=hW
 have aF:∀x∈p,x.block<W.heap.size:=fun x hx=>by simpa using hlt x (by simp[hx])
 refine⟨ds,gs,p++q,[],p,[],hW',?_,?_,?_,kept_below hb _,fun h=>by cases h⟩
 ·rw[hfn.1,dh]
  exact⟨[],[],shut_bool htb true,trodAll_mk0,rfl⟩
 ·rw[hfn.2.1]
  exact trodAll_below hl hb gD hA aF
 ·rw[hfn.2.2,gE]
  rfl
end Go.Proofs.YtnnhofmknilopaaGreatDoor.Gx
namespace Go.Proofs.YtnnhofmknilopaaGreatDoor.Gx
open Go
def closM (P:Program):Nat->List FuncId->Nat->List FuncId->List FuncId
 | 0,_,_,seen=>seen.reverse
 | _,[],_,seen=>seen.reverse
 | n+1,f::todo,m,seen=>match Nat.testBit m f with
  | true=>closM P n todo m seen
  | false=>closM P n ((P.funcs[f]?).elim [] P.leadsTo++todo) (Nat.lor m (Nat.shiftLeft 1 f)) (f::seen)
theorem closM_eq (P:Program):∀(n:Nat) (todo:List FuncId) (m:Nat) (seen:List FuncId),(∀f,Nat.testBit m f=seen.contains f)->closM P n todo m seen=P.closureVia n todo seen
 | 0,todo,m,seen,h=>by cases todo<;>simp[closM,Program.closureVia]
 | n+1,[],m,seen,h=>by simp[closM,Program.closureVia]
 | n+1,f::todo,m,seen,h=>by
  have hf:=h f
  unfold closM Program.closureVia
  cases hc:seen.contains f with
  | true=>
   rw[hc] at hf
   simp only[hf,if_true]
   exact closM_eq P n todo m seen h
  | false=>
   rw[hc] at hf
   simp only[hf,Bool.false_eq_true,if_false]
   refine closM_eq P n _ _ _ fun g=>?_
   have:Nat.testBit (Nat.lor m (Nat.shiftLeft 1 f)) g=(Nat.testBit m g||Nat.testBit (1 <<< f) g):=Nat.testBit_or m (1 <<< f) g
   rw[this,h g,Nat.one_shiftLeft,Nat.testBit_two_pow]
   simp only[List.contains_cons]
   by_cases hg:f=g
   ·subst hg;simp
   ·have hg':¬g=f:=fun e=>hg e.symm
    simp[hg,hg']
theorem closure_eq {P:Program} {f:FuncId} {n:Nat} {L:List FuncId} (hn:(P.funcs.toList.map fun g=>(P.leadsTo g).length+1).sum=n) (h:closM P (1+n) [f] 0 []=L):P.closure f=L:=by
 unfold Program.closure
 rw[hn,<-closM_eq P (1+n) [f] 0 [] (by simp),h]
theorem goes_none {P:Program} (h:(P.funcs.toList.all fun fn=>!Func.goes fn)=true) (f:FuncId):P.goes f=false:=by
 have aB:∀fn∈P.funcs.toList,Func.goes fn=false:=fun fn hm=>by
  have:=List.all_eq_true.1 h fn hm
  simpa using this
 have h1:∀g:Nat,(P.funcs[g]?).any Func.goes=false:=by
  intro g
  cases hg:P.funcs[g]? with
  | none=>rfl
  | some fn=>
   have hm:fn∈P.funcs.toList:=by rw[Array.mem_toList_iff];exact Array.mem_of_getElem? hg
   simpa using aB fn hm
 have h2:P.funcs.any Func.goes=false:=by
  rw[<-Array.any_toList,List.any_eq_false]
  intro fn hm
  rw[aB fn hm];exact Bool.false_ne_true
 unfold Program.goes
 rw[h2,Bool.and_false,Bool.or_false,List.any_eq_false]
 intro g _
 rw[h1 g];exact Bool.false_ne_true
end Go.Proofs.YtnnhofmknilopaaGreatDoor.Gx
