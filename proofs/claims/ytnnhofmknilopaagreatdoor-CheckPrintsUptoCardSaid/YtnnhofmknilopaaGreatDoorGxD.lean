import Derived.Test.YtnnhofmknilopaaGreatDoorGxC
import Derived.Lib.Bytealg
import Derived.Orders
namespace Go.Proofs.YtnnhofmknilopaaGreatDoor.Gx
open Go
def mkF (fn:FuncId) (kd:CallKind) (ro:Option Nat) (tmps:Array Value) (df:List Deferred) (todo:List Item):Frame:=
 { fn,tmps,todo,defers:=df,mode:=.run,kind:=kd,roundOf:=ro }
def putT (tmps:Array Value) (dst:Option Tmp) (v:Value):Array Value:=
 match dst with
 | some d=>tmps.setIfInBounds d v
 | none=>tmps
section
variable {P:Program} {fn:FuncId} {kd:CallKind} {ro:Option Nat} {tmps:Array Value} {df:List Deferred} {k:List Item} {cs:List Frame} {w:World}
theorem eval_mkF (todo:List Item):(mkF fn kd ro tmps df todo).eval=evalT tmps:=by funext x;cases x<;>rfl
theorem st_skip:step P (lone (mkF fn kd ro tmps df (.code .skip::k)) cs w)=.next (lone (mkF fn kd ro tmps df k) cs w):=step_lone_go (by simp[stepG,stepG.exec,mkF])
theorem st_inBlock {id:Nat}:step P (lone (mkF fn kd ro tmps df (.inBlock id::k)) cs w)=.next (lone (mkF fn kd ro tmps df k) cs w):=step_lone_go (by simp[stepG,stepG.exec,mkF])
theorem st_seq {x y:Code}:step P (lone (mkF fn kd ro tmps df (.code (.seq x y)::k)) cs w)=.next (lone (mkF fn kd ro tmps df (.code x::.code y::k)) cs w):=step_lone_go (by simp[stepG,stepG.exec,mkF])
theorem st_block {id:Nat} {c:Code}:step P (lone (mkF fn kd ro tmps df (.code (.block id c)::k)) cs w)=.next (lone (mkF fn kd ro tmps df (.code c::.inBlock id::k)) cs w):=step_lone_go (by simp[stepG,stepG.exec,mkF])
theorem st_loop {c:Code}:step P (lone (mkF fn kd ro tmps df (.code (.loop c)::k)) cs w)=.next (lone (mkF fn kd ro tmps df (.code c::.inLoop c::k)) cs w):=step_lone_go (by simp[stepG,stepG.exec,mkF])
theorem st_inLoop {c:Code}:step P (lone (mkF fn kd ro tmps df (.inLoop c::k)) cs w)=.next (lone (mkF fn kd ro tmps df (.code c::.inLoop c::k)) cs w):=step_lone_go (by simp[stepG,stepG.exec,mkF])
theorem st_cond {c:Operand} {x y:Code} {t:Bool} (h:evalT tmps c=.bool t):
  step P (lone (mkF fn kd ro tmps df (.code (.cond c x y)::k)) cs w)=.next (lone (mkF fn kd ro tmps df (.code (if t then x else y)::k)) cs w):=
 step_lone_go (by
  have:=congrFun (eval_mkF (fn:=fn) (kd:=kd) (ro:=ro) (tmps:=tmps) (df:=df) (.code (.cond c x y)::k)) c
  simp only[mkF] at this
  simp[stepG,stepG.exec,mkF,this,h])
theorem st_exit {id:Nat} {k':List Item} (h:exitTo id k=some k'):step P (lone (mkF fn kd ro tmps df (.code (.exit id)::k)) cs w)=.next (lone (mkF fn kd ro tmps df k') cs w):=
 step_lone_go (by simp[stepG,stepG.exec,mkF,h])
theorem st_region {id:Nat} {ops:Array Oper}:step P (lone (mkF fn kd ro tmps df (.code (.region id ops false)::k)) cs w)=.next (lone (mkF fn kd ro tmps df (.inRegion ops (List.range ops.size)::k)) cs w):=
 step_lone_go (by simp[stepG,stepG.exec,mkF])
theorem st_region_draw {id:Nat} {ops:Array Oper}:step P (lone (mkF fn kd ro tmps df (.code (.region id ops true)::k)) cs w)=
  .next (lone (mkF fn kd ro tmps df (.inRegion ops (Region.schedule (P.follows .mixedOrders) ops (w.tape w.drawn (.order fn id)))::k)) cs { w with drawn:=w.drawn+1 }):=
 step_lone_go (by simp[stepG,stepG.exec,mkF,choose,Sem.run,Question.forced,Question.cut])
theorem st_region_end {ops:Array Oper}:step P (lone (mkF fn kd ro tmps df (.inRegion ops []::k)) cs w)=.next (lone (mkF fn kd ro tmps df k) cs w):=step_lone_go (by simp[stepG,stepG.exec,mkF])
theorem finish_mkF {ops:Array Oper} {i:Nat} {rest:List Nat} {o:Oper} (ho:ops[i]?=some o) (v:Value):
  (mkF fn kd ro tmps df (.inRegion ops (i::rest)::k)).finish v=mkF fn kd ro (putT tmps o.dst v) df (.inRegion ops rest::k):=by
 simp only[Frame.finish,mkF,ho,Option.bind_some,putT]
 cases o.dst<;>rfl
theorem st_op_skip {ops:Array Oper} {i:Nat} {rest:List Nat} {o:Oper} (ho:ops[i]?=some o) (hw:Region.wanted o (yielded ops tmps)=false):
  step P (lone (mkF fn kd ro tmps df (.inRegion ops (i::rest)::k)) cs w)=.next (lone (mkF fn kd ro (putT tmps o.dst undef) df (.inRegion ops rest::k)) cs w):=by
 rw[<-finish_mkF ho]
 exact step_lone_go (by simp[stepG,stepG.exec,mkF,ho,hw])
theorem stepG_oper {ops:Array Oper} {i:Nat} {rest:List Nat} {o:Oper} (ho:ops[i]?=some o) (hw:Region.wanted o (yielded ops tmps)=true) (hd:ro=none\/∀c,o.op≠.defer c):
  stepG P true { frame:=mkF fn kd ro tmps df (.inRegion ops (i::rest)::k),callers:=cs,status:=.running,dying:=none } w=
   stepG.apply P true (mkF fn kd ro tmps df (.inRegion ops (i::rest)::k)) cs none (execOp (evalT tmps) o) w:=by
 have he:=eval_mkF (fn:=fn) (kd:=kd) (ro:=ro) (tmps:=tmps) (df:=df) (.inRegion ops (i::rest)::k)
 simp only[mkF] at he
 cases ro with
 | none=>simp[stepG,stepG.exec,stepG.oper,Frame.oper?,mkF,ho,hw,he]
 | some l=>
  have hd:=hd.resolve_left (by simp)
  simp only[stepG,stepG.exec,stepG.oper,Frame.oper?,mkF,ho,hw,Option.map_some,Option.getD_some,if_true]
  cases hop:o.op<;>first | exact absurd hop (hd _) | simp[he]
theorem st_op_value {ops:Array Oper} {i:Nat} {rest:List Nat} {o:Oper} {v:Value} {w':World} (ho:ops[i]?=some o) (hw:Region.wanted o (yielded ops tmps)=true) (hd:ro=none\/∀c,o.op≠.defer c)
  (hr:(execOp (evalT tmps) o).run P w=.ok (.value v) w'):
  step P (lone (mkF fn kd ro tmps df (.inRegion ops (i::rest)::k)) cs w)=.next (lone (mkF fn kd ro (putT tmps o.dst v) df (.inRegion ops rest::k)) cs w'):=by
 rw[<-finish_mkF ho]
 exact step_lone_go (by rw[stepG_oper ho hw hd];simp[stepG.apply,hr])
theorem st_op_unit {ops:Array Oper} {i:Nat} {rest:List Nat} {o:Oper} {w':World} (ho:ops[i]?=some o) (hw:Region.wanted o (yielded ops tmps)=true) (hd:ro=none\/∀c,o.op≠.defer c)
  (hr:(execOp (evalT tmps) o).run P w=.ok .skip w'):
  step P (lone (mkF fn kd ro tmps df (.inRegion ops (i::rest)::k)) cs w)=.next (lone (mkF fn kd ro (putT tmps o.dst undef) df (.inRegion ops rest::k)) cs w'):=by
 rw[<-finish_mkF ho]
 exact step_lone_go (by rw[stepG_oper ho hw hd];simp[stepG.apply,hr])
theorem st_op_defer {ops:Array Oper} {i:Nat} {rest:List Nat} {o:Oper} {d:Deferred} {w':World} (ho:ops[i]?=some o) (hw:Region.wanted o (yielded ops tmps)=true)
  (hr:(execOp (evalT tmps) o).run P w=.ok (.defer d) w'):
  step P (lone (mkF fn kd none tmps df (.inRegion ops (i::rest)::k)) cs w)=.next (lone (mkF fn kd none (putT tmps o.dst undef) (d::df) (.inRegion ops rest::k)) cs w'):=by
 have:=finish_mkF (fn:=fn) (kd:=kd) (ro:=none) (tmps:=tmps) (df:=d::df) (k:=k) (rest:=rest) ho undef
 rw[<-this]
 exact step_lone_go (by rw[stepG_oper ho hw (.inl rfl)];simp[stepG.apply,hr,mkF])
theorem st_op_panic {ops:Array Oper} {i:Nat} {rest:List Nat} {o:Oper} {v:Value} {w':World} (ho:ops[i]?=some o) (hw:Region.wanted o (yielded ops tmps)=true) (hd:ro=none\/∀c,o.op≠.defer c)
  (hr:(execOp (evalT tmps) o).run P w=.halt (.panic v) w'):
  step P (lone (mkF fn kd ro tmps df (.inRegion ops (i::rest)::k)) cs w)=
   .next (lone { mkF fn kd ro tmps df (.inRegion ops (i::rest)::k) with mode:=.panicking [{ v,recovered:=false }] } cs w'):=
 step_lone_go (by rw[stepG_oper ho hw hd];simp[stepG.apply,hr,Frame.raise,mkF])
def nextFrame (P:Program):Next->Option Frame
 | .enter f args=>some (Frame.enter P f args .normal)
 | .round l f tmps assign body=>some (Frame.round l f tmps assign body .normal)
 | _=>none
theorem st_op_call {ops:Array Oper} {i:Nat} {rest:List Nat} {o:Oper} {nx:Next} {fr:Frame} {w':World} (ho:ops[i]?=some o) (hw:Region.wanted o (yielded ops tmps)=true) (hd:ro=none\/∀c,o.op≠.defer c)
  (hr:(execOp (evalT tmps) o).run P w=.ok nx w') (hn:nextFrame P nx=some fr):
  step P (lone (mkF fn kd ro tmps df (.inRegion ops (i::rest)::k)) cs w)=.next (lone fr (mkF fn kd ro tmps df (.inRegion ops (i::rest)::k)::cs) w'):=by
 refine step_lone_go ?_
 rw[stepG_oper ho hw hd]
 cases nx<;>simp[nextFrame] at hn<;>subst hn<;>simp[stepG.apply,hr,mkF]
end
inductive All2 {α β:Type} (R:α->β->Prop):List α->List β->Prop
 | nil:All2 R [] []
 | cons {a:α} {b:β} {l:List α} {m:List β}:R a b->All2 R l m->All2 R (a::l) (b::m)
theorem All2.mono {α β:Type} {R S:α->β->Prop} (h:∀a b,R a b->S a b) {l:List α} {m:List β} (hl:All2 R l m):All2 S l m:=by
 induction hl with
 | nil=>exact .nil
 | cons hab _ ih=>exact .cons (h _ _ hab) ih
theorem All2.append {α β:Type} {R:α->β->Prop} {l l':List α} {m m':List β} (h:All2 R l m) (h':All2 R l' m'):All2 R (l++l') (m++m'):=by
 induction h with
 | nil=>exact h'
 | cons hab _ ih=>exact .cons hab ih
def PRelC (B:Nat->Prop) (w:World) (φ:Phi) (a:APan) (e:PanicEntry):Prop:=VRel B w φ a.v e.v/\e.recovered=a.recovered/\e.goexit=false
def MRel (B:Nat->Prop) (w:World) (φ:Phi):AMode->FrameMode->Prop
 | .returning,m=>m=.returning
 | .panicking ch,m=>∃ch',m=.panicking ch'/\All2 (PRelC B w φ) ch ch'
def DRel (B:Nat->Prop) (w:World) (φ:Phi):ADef->Deferred->Prop
 | .call fv args,d=>∃g a c,fv=.func g a c/\∃(c' ar:Array Value),d={ target:=.fn (.func g) c',args:=ar }/\LRel B w φ c c'.toList/\LRel B w φ (a++args) ar.toList
 | .coll b,d=>∃cb y,d={ target:=.collected cb,args:=#[] }/\φ b=some (cb,y)
structure FRel (B:Nat->Prop) (w:World) (φ:Phi) (fr:Fr) (kd:CallKind) (ro:Option Nat) (tmps:Array Value) (df:List Deferred) (cs:List Frame):Prop where
 tm:LRel B w φ fr.tm tmps.toList
 df:All2 (DRel B w φ) fr.df df
 rc:match fr.rc with
  | none=>kd=.normal
  | some m=>kd=.deferred/\∃c rest,cs=c::rest/\MRel B w φ m c.mode
 ro:match fr.ro with
  | none=>ro=none
  | some l=>∃cl y,ro=some cl/\φ l=some (cl,y)
section
variable {B B':Nat->Prop} {w w':World} {φ φ':Phi}
theorem PRelC.mono (g:Goes B w B' w') (hp:∀b x,φ b=some x->φ' b=some x) {a:APan} {e:PanicEntry} (h:PRelC B w φ a e):PRelC B' w' φ' a e:=⟨h.1.mono g hp,h.2⟩
theorem MRel.mono (g:Goes B w B' w') (hp:∀b x,φ b=some x->φ' b=some x) {m:AMode} {u:FrameMode} (h:MRel B w φ m u):MRel B' w' φ' m u:=by
 cases m with
 | returning=>exact h
 | panicking ch=>obtain⟨ch',h1,h2⟩:=h;exact⟨ch',h1,h2.mono fun _ _=>PRelC.mono g hp⟩
theorem DRel.mono (g:Goes B w B' w') (hp:∀b x,φ b=some x->φ' b=some x) {a:ADef} {d:Deferred} (h:DRel B w φ a d):DRel B' w' φ' a d:=by
 cases a with
 | call fv args=>obtain⟨f,a,c,h1,c',ar,h2,h3,h4⟩:=h;exact⟨f,a,c,h1,c',ar,h2,h3.mono g hp,h4.mono g hp⟩
 | coll b=>obtain⟨cb,y,h1,h2⟩:=h;exact⟨cb,y,h1,hp _ _ h2⟩
theorem FRel.mono (g:Goes B w B' w') (hp:∀b x,φ b=some x->φ' b=some x) {fr:Fr} {kd:CallKind} {ro:Option Nat} {tmps:Array Value} {df:List Deferred} {cs:List Frame}
  (h:FRel B w φ fr kd ro tmps df cs):FRel B' w' φ' fr kd ro tmps df cs where
 tm:=h.tm.mono g hp
 df:=h.df.mono fun _ _=>DRel.mono g hp
 rc:=by
  have:=h.rc
  cases hr:fr.rc with
  | none=>rw[hr] at this;exact this
  | some m=>rw[hr] at this;obtain⟨h1,c,rest,h2,h3⟩:=this;exact⟨h1,c,rest,h2,h3.mono g hp⟩
 ro:=by
  have:=h.ro
  cases hr:fr.ro with
  | none=>rw[hr] at this;exact this
  | some l=>rw[hr] at this;obtain⟨cl,y,h1,h2⟩:=this;exact⟨cl,y,h1,hp _ _ h2⟩
theorem putT_list (tmps:Array Value) (dst:Option Tmp) (v:Value):(putT tmps dst v).toList=(match dst with | some d=>tmps.toList.set d v | none=>tmps.toList):=by
 cases dst<;>simp[putT]
theorem FRel.put {fr:Fr} {kd:CallKind} {ro:Option Nat} {tmps:Array Value} {df:List Deferred} {cs:List Frame} (h:FRel B w φ fr kd ro tmps df cs) (dst:Option Tmp) {v:AV} {u:Value} (hv:VRel B w φ v u):
  FRel B w φ (put fr dst v) kd ro (putT tmps dst u) df cs:=by
 obtain⟨tm,dfa,rc,roa⟩:=fr
 cases dst with
 | none=>exact h
 | some d=>
  refine⟨?_,h.df,h.rc,h.ro⟩
  rw[putT_list]
  simp only[Gx.put,upd_eq]
  exact h.tm.set d hv
theorem put_rest (fr:Fr) (dst:Option Tmp) (v:AV):(put fr dst v).df=fr.df/\(put fr dst v).rc=fr.rc/\(put fr dst v).ro=fr.ro:=by
 obtain⟨tm,df,rc,ro⟩:=fr
 cases dst<;>exact⟨rfl,rfl,rfl⟩
end
def CsLike (kd:CallKind) (cs cs':List Frame):Prop:=cs'=cs\/(kd=.deferred/\∃c rest u,cs=c::rest/\cs'={ c with mode:=u }::rest)
theorem CsLike.refl (kd:CallKind) (cs:List Frame):CsLike kd cs cs:=.inl rfl
theorem CsLike.trans {kd:CallKind} {a b c:List Frame} (h:CsLike kd a b) (h':CsLike kd b c):CsLike kd a c:=by
 rcases h with rfl | ⟨hk,x,rest,u,rfl,rfl⟩
 ·exact h'
 ·rcases h' with rfl | ⟨_,y,rest',u',h1,rfl⟩
  ·exact .inr ⟨hk,x,rest,u,rfl,rfl⟩
  ·simp at h1
   obtain⟨rfl,rfl⟩:=h1
   exact .inr ⟨hk,x,rest,u',rfl,rfl⟩
end Go.Proofs.YtnnhofmknilopaaGreatDoor.Gx
namespace Go.Proofs.YtnnhofmknilopaaGreatDoor.Gx
open Go
def Ent.sem:Ent->Array Value->Sem Value
 | .count=>Extern.BytealgCount.count
 | .indexByte=>Extern.BytealgIndexByte.indexByte
def ExtOk (E:Env):Prop:=∀f k,E.ext f=some k->∃fn,E.P.funcs[f]?=some fn/\(fn.name == "runtime.NumGoroutine")=false/\fn.body.isNone=true/\Extern.findNext fn=none/\Extern.find fn=some k.sem
theorem cntB_eq (c:UInt8):∀(l:List UInt8) (n:Nat),cntB c l n=n+Lib.countByte l c
 | [],n=>by simp[cntB,Lib.countByte]
 | x::l,n=>by
  unfold cntB
  cases h:x==c with
  | true=>simp only[cntB_eq c l];simp[Lib.countByte,List.count_cons,h];omega
  | false=>simp only[cntB_eq c l];simp[Lib.countByte,List.count_cons,h]
theorem idxB_eq (c:UInt8):∀(l:List UInt8) (n:Nat),idxB c l n=if Lib.indexByte l c==-1 then -1 else Lib.indexByte l c+n
 | [],n=>by simp[idxB,Lib.indexByte]
 | x::l,n=>by
  unfold idxB Lib.indexByte
  cases h:x==c with
  | true=>simp
  | false=>
   simp only[idxB_eq c l]
   have:=Lib.indexByte_ge l c
   by_cases hi:Lib.indexByte l c=-1
   ·simp[hi]
   ·have h2:¬(Lib.indexByte l c+1=-1):=by omega
    simp[hi,h2];omega
def OutOk (P:Program) (m:Machine) (c:Frame) (cs:List Frame) (B:Nat->Prop) (w:World) (φ:Phi):Out->Prop
 | .ret v=>∃u,VRel B w φ v u/\Steps P m (lone (c.finish u) cs w)
 | .pan ch=>∃chain,All2 (PRelC B w φ) ch chain/\Steps P m (lone (c.raise chain) cs w)
def callSem (f:Value) (args:Array Value):Sem Next:=do let d <-Deferred.ofValue f args;invoke d.target d.args
theorem extV_sound {E:Env} (hE:ExtOk E) {B:Nat->Prop} {w:World} {φ:Phi} {fv v:AV} {args:List AV} {uf:Value} {us:Array Value} (h:extV E fv args=some v) (hf:VRel B w φ fv uf) (hA:LRel B w φ args us.toList):
  ∃u,(callSem uf us).run E.P w=.ok (.value u) w/\VRel B w φ v u:=by
 unfold extV at h
 split at h
 ·rename_i f
  split at h
  ·rename_i k hk
   obtain⟨fn,h1,h2,h3,h4,h5⟩:=hE f k hk
   cases hf with
   | func ha hc hav hcv=>
    rename_i a' c'
    have ea:a'=#[]:=by apply Array.eq_empty_of_size_eq_zero;simpa using ha.symm
    have ec:c'=#[]:=by apply Array.eq_empty_of_size_eq_zero;simpa using hc.symm
    subst ea;subst ec
    have ai:∀us:Array Value,(callSem (.func (.func f) #[] #[]) us).run E.P w=((k.sem us).run E.P w).andThen fun v w'=>.ok (.value v) w':=by
     intro us
     have:=run_callFunc_extern h1 h2 h3 h4 h5 us w
     simp only[callSem,Deferred.ofValue,pure_bind,invoke]
     simpa using this
    have two:∀{x y:AV},args=[x,y]->∃ux uy,us=#[ux,uy]/\VRel B w φ x ux/\VRel B w φ y uy:=by
     rintro x y rfl
     obtain⟨ux,l1,e1,hx,r1⟩:=hA.inv_cons
     obtain⟨uy,l2,e2,hy,r2⟩:=r1.inv_cons
     have e3:=r2.inv_nil
     subst e3;subst e2
     exact⟨ux,uy,by apply Array.ext';simpa using e1,hx,hy⟩
    unfold extA at h
    split at h
    ·rename_i s c
     obtain⟨ux,uy,rfl,hx,hy⟩:=two rfl
     cases hx;cases hy
     simp only[Option.some.injEq] at h;subst h
     refine⟨_,by rw[ai];simp only[Ent.sem,Lib.run_countString,Result.andThen];rfl,?_⟩
     rw[cntB_eq]
     simp only[Nat.zero_add]
     exact .int _ _
    ·rename_i s c
     obtain⟨ux,uy,rfl,hx,hy⟩:=two rfl
     cases hx;cases hy
     simp only[Option.some.injEq] at h;subst h
     refine⟨_,by rw[ai];simp only[Ent.sem,Lib.run_indexByteString,Result.andThen];rfl,?_⟩
     rw[idxB_eq]
     have hn:(if Lib.indexByte s (UInt8.ofNat c.toNat)==-1 then -1 else Lib.indexByte s (UInt8.ofNat c.toNat)+((0:Nat):Int))=Lib.indexByte s (UInt8.ofNat c.toNat):=by
      by_cases hi:Lib.indexByte s (UInt8.ofNat c.toNat)=-1
      ·simp[hi]
      ·simp[hi]
     rw[hn]
     exact .int _ _
    ·cases h
  ·cases h
 ·cases h
def CalOk (E:Env) (cal:Cal):Prop:=
 ExtOk E/\∀(fv:AV) (args:List AV) (st:St) (out:Out) (st':St),cal fv args st=some (out,st')->∀(F:Nat->Prop) (φ:Phi) (w:World) (uf:Value) (us:Array Value),Sess E F φ st w->
  VRel (Bd F φ st) w φ fv uf->LRel (Bd F φ st) w φ args us.toList->
  ∃nx fr,(callSem uf us).run E.P w=.ok nx w/\nextFrame E.P nx=some fr/\
   ∀(c:Frame) (cs:List Frame),∃φ' w',Sess E F φ' st' w'/\Ext φ st w φ' st' w'/\OutOk E.P (lone fr (c::cs) w) c cs (Bd F φ' st') w' φ' out
section
variable {E:Env} {F:Nat->Prop} {φ:Phi} {st:St} {w:World}
def EffOk (E:Env) (F:Nat->Prop) (φ:Phi) (st:St) (w:World) (tmps:Array Value) (o:Oper):EO->Prop
 | .val v st'=>∀(fn:FuncId) (kd:CallKind) (ro:Option Nat) (df:List Deferred) (k:List Item) (cs:List Frame) (ops:Array Oper) (i:Nat) (rest:List Nat),ops[i]?=some o->
  Region.wanted o (yielded ops tmps)=true->∃φ' w' u,Sess E F φ' st' w'/\Ext φ st w φ' st' w'/\VRel (Bd F φ' st') w' φ' v u/\
   Steps E.P (lone (mkF fn kd ro tmps df (.inRegion ops (i::rest)::k)) cs w) (lone (mkF fn kd ro (putT tmps o.dst u) df (.inRegion ops rest::k)) cs w')
 | .pan ch st'=>∀(fn:FuncId) (kd:CallKind) (ro:Option Nat) (df:List Deferred) (k:List Item) (cs:List Frame) (ops:Array Oper) (i:Nat) (rest:List Nat),ops[i]?=some o->
  Region.wanted o (yielded ops tmps)=true->∃φ' w' chain,Sess E F φ' st' w'/\Ext φ st w φ' st' w'/\All2 (PRelC (Bd F φ' st') w' φ') ch chain/\
   Steps E.P (lone (mkF fn kd ro tmps df (.inRegion ops (i::rest)::k)) cs w) (lone { mkF fn kd ro tmps df (.inRegion ops (i::rest)::k) with mode:=.panicking chain } cs w')
 | .recov=>(execOp (evalT tmps) o).run E.P w=.ok .recover w/\∀c,o.op≠.defer c
 | .dfr d=>∃cd,(execOp (evalT tmps) o).run E.P w=.ok (.defer cd) w/\DRel (Bd F φ st) w φ d cd
theorem eff_value {tmps:Array Value} {o:Oper} {v:AV} {st':St} {φ':Phi} {w':World} {u:Value} (hd:∀c,o.op≠.defer c) (hr:(execOp (evalT tmps) o).run E.P w=.ok (.value u) w')
  (hS:Sess E F φ' st' w') (hE:Ext φ st w φ' st' w') (hv:VRel (Bd F φ' st') w' φ' v u):EffOk E F φ st w tmps o (.val v st'):=
 fun _ _ _ _ _ _ _ _ _ ho hw=>⟨φ',w',u,hS,hE,hv,.one (st_op_value ho hw (.inr hd) hr)⟩
theorem eff_unit {tmps:Array Value} {o:Oper} {st':St} {w':World} {φ':Phi} (hd:∀c,o.op≠.defer c) (hr:(execOp (evalT tmps) o).run E.P w=.ok .skip w')
  (hS:Sess E F φ' st' w') (hE:Ext φ st w φ' st' w'):EffOk E F φ st w tmps o (.val (.tup []) st'):=
 fun _ _ _ _ _ _ _ _ _ ho hw=>⟨φ',w',undef,hS,hE,VRel.undef,.one (st_op_unit ho hw (.inr hd) hr)⟩
theorem eff_panic {tmps:Array Value} {o:Oper} {t:TypeId} {v:AV} {u:Value} (hS:Sess E F φ st w) (hd:∀c,o.op≠.defer c) (hr:(execOp (evalT tmps) o).run E.P w=.halt (.panic (.iface t u)) w)
  (hv:VRel (Bd F φ st) w φ (.iface t v) (.iface t u)):EffOk E F φ st w tmps o (.pan [⟨.iface t v,false⟩] st):=
 fun _ _ _ _ _ _ _ _ _ ho hw=>⟨φ,w,_,hS,Ext.refl _ _ _,.cons ⟨hv,rfl,rfl⟩ .nil,.one (st_op_panic ho hw (.inr hd) hr)⟩
theorem comes1_eff {tmps:Array Value} {o:Oper} {s:Sem Value} {v:AV} {st':St} (hd:∀c,o.op≠.defer c) (he:execOp (evalT tmps) o=(do pure (.value (<-s)):Sem Next)) (h:Comes1 E F φ st w s v st'):
  EffOk E F φ st w tmps o (.val v st'):=by
 obtain⟨u,φ',w',h1,h2,h3,h4⟩:=h
 exact eff_value hd (by rw[he];simp[h1]) h2 h3 h4
theorem finish_raise {fn:FuncId} {kd:CallKind} {ro:Option Nat} {tmps:Array Value} {df:List Deferred} {todo:List Item} (chain:List PanicEntry):
 (mkF fn kd ro tmps df todo).raise chain={ mkF fn kd ro tmps df todo with mode:=.panicking chain }:=rfl
theorem callEff_sound {cal:Cal} (aZ:CalOk E cal) (hS:Sess E F φ st w) {fr:Fr} {tmps:Array Value} (hT:LRel (Bd F φ st) w φ fr.tm tmps.toList) {dst:Option Tmp} {c:Call} {ty:TypeId} {pos:String} {after:Array Edge}
  {guard:Option (Nat × Bool)} {eo:EO} (h:callEff c E cal fr st=some eo):EffOk E F φ st w tmps ⟨dst,.call c,ty,pos,after,guard⟩ eo:=by
 obtain⟨callee,args,argTypes⟩:=c
 have hd:∀c',(Op.call ⟨callee,args,argTypes⟩)≠.defer c':=by intro c' e;cases e
 have br:∀{vs:List AV},evs E fr args.toList=some vs->LRel (Bd F φ st) w φ vs (args.map (evalT tmps)).toList:=by
  intro vs hvs
  have:=evs_sound hS hT hvs
  simpa using this
 have two:∀{x y:AV},evs E fr args.toList=some [x,y]->∃ux uy,args.map (evalT tmps)=#[ux,uy]/\VRel (Bd F φ st) w φ x ux/\VRel (Bd F φ st) w φ y uy:=by
  intro x y hxy
  obtain⟨ux,l1,e1,hx,r1⟩:=(br hxy).inv_cons
  obtain⟨uy,l2,e2,hy,r2⟩:=r1.inv_cons
  have e3:=r2.inv_nil
  subst e3;subst e2
  exact⟨ux,uy,by apply Array.ext';simpa using e1,hx,hy⟩
 unfold callEff at h
 cases callee with
 | value f=>
  simp only[callVF] at h
  split at h
  ·rename_i fv vs hf hvs
   have hfv:=ev_sound hS hT hf
   have hav:=br hvs
   split at h
   ·rename_i v aV
    simp only[Option.some.injEq] at h;subst h
    obtain⟨u,hr,hu⟩:=extV_sound aZ.1 aV hfv hav
    exact eff_value hd (by simp only[execOp,resolve];exact hr) hS (Ext.refl _ _ _) hu
   unfold valO at h
   split at h
   ·rename_i v st' hc
    simp at h;subst h
    obtain⟨nx,frame,aQ,hnf,bi⟩:=aZ.2 _ _ _ _ _ hc F φ w _ _ hS hfv hav
    intro fn kd ro df k cs ops i rest ho hw
    obtain⟨φ',w',s1,s2,u,s3,s4⟩:=bi (mkF fn kd ro tmps df (.inRegion ops (i::rest)::k)) cs
    refine⟨φ',w',u,s1,s2,s3,.head (st_op_call ho hw (.inr hd) (nx:=nx) (by simp only[execOp,resolve];exact aQ) hnf) ?_⟩
    rw[finish_mkF ho] at s4
    exact s4
   ·rename_i ch st' hc
    simp at h;subst h
    obtain⟨nx,frame,aQ,hnf,bi⟩:=aZ.2 _ _ _ _ _ hc F φ w _ _ hS hfv hav
    intro fn kd ro df k cs ops i rest ho hw
    obtain⟨φ',w',s1,s2,chain,s3,s4⟩:=bi (mkF fn kd ro tmps df (.inRegion ops (i::rest)::k)) cs
    refine⟨φ',w',chain,s1,s2,s3,.head (st_op_call ho hw (.inr hd) (nx:=nx) (by simp only[execOp,resolve];exact aQ) hnf) ?_⟩
    rw[finish_raise] at s4
    exact s4
   ·cases h
  ·cases h
 | invoke r m=>simp[noneE] at h
 | builtin b=>
  simp only at h
  cases b<;>simp only[builtinEff,noneE] at h<;>first | (cases h;done) | skip
  ·
   unfold appF at h
   split at h
   ·rename_i x y t hxy ht
    unfold valV at h
    split at h
    ·rename_i v st' ha
     simp at h;subst h
     obtain⟨ux,uy,e,hx,hy⟩:=two hxy
     obtain⟨u,φ',w',h1,h2,h3,h4⟩:=appendE_sound hS (ty:=ty) ha ht hx hy
     exact eff_value hd (by simp only[execOp,resolve,e,pure_bind,invoke,builtin];simp[h1]) h2 h3 h4
    ·cases h
   ·cases h
  ·
   unfold copyF at h
   split at h
   ·rename_i x y t hxy ht
    unfold valV at h
    split at h
    ·rename_i v st' ha
     simp at h;subst h
     obtain⟨ux,uy,e,hx,hy⟩:=two hxy
     obtain⟨u,φ',w',h1,h2,h3,h4⟩:=copyE_sound hS (ty:=ty) ha ht hx hy
     exact eff_value hd (by simp only[execOp,resolve,e,pure_bind,invoke,builtin];simp[h1]) h2 h3 h4
    ·cases h
   ·cases h
  ·
   unfold panF at h
   split at h
   ·rename_i x hx
    split at h
    ·rename_i t v hv
     simp at h;subst h
     have hr:=ev_sound hS hT hv
     generalize hu:evalT tmps x=u at hr
     cases hr with
     | iface hr'=>
      rename_i u'
      refine eff_panic hS hd ?_ (.iface hr')
      have e0:(args.map (evalT tmps))[0]?=some (.iface t u'):=by simp[hx,hu]
      simp[execOp,resolve,invoke,builtin,Array.getD_eq_getD_getElem?,e0,Instr.panic]
    ·cases h
   ·cases h
  ·
   simp only[recF,Option.some.injEq] at h;subst h
   exact⟨by simp[execOp,resolve,invoke,builtin],hd⟩
theorem effOp_sound {cal:Cal} (aZ:CalOk E cal) (hS:Sess E F φ st w) {fr:Fr} {tmps:Array Value} (hT:LRel (Bd F φ st) w φ fr.tm tmps.toList) {o:Oper} {eo:EO} (h:effOp o.op E cal fr st=some eo):
  EffOk E F φ st w tmps o eo:=by
 obtain⟨dst,op,ty,pos,after,guard⟩:=o
 simp only at h
 cases op<;>simp only[effOp,noneE] at h<;>first | (cases h;done) | skip
 case store t a v=>
  unfold storeF at h
  split at h
  ·rename_i a' v' ha hv
   unfold valU at h
   split at h
   ·rename_i st' hs
    simp at h;subst h
    obtain⟨w',h1,h2,h3⟩:=storeE_sound hS hs (ev_sound hS hT ha) (ev_sound hS hT hv)
    exact eff_unit (by intro c e;cases e) (by simp[execOp,h1]) h2 h3
   ·cases h
  ·cases h
 case call c=>exact callEff_sound aZ hS hT h
 case panic x=>
  unfold panF at h
  simp only at h
  split at h
  ·rename_i t v hv
   simp at h;subst h
   have hr:=ev_sound hS hT hv
   generalize hu:evalT tmps x=u at hr
   cases hr with
   | iface hr'=>exact eff_panic hS (by intro c e;cases e) (by simp[execOp,hu,Instr.panic]) (.iface hr')
  ·cases h
 case mapUpdate t m k v=>
  unfold mapUpF at h
  split at h
  ·rename_i m' k' v' hm hk hv
   unfold valU at h
   split at h
   ·rename_i st' hs
    simp at h;subst h
    obtain⟨w',h1,h2,h3⟩:=mapUpdateE_sound hS hs (ev_sound hS hT hm) (ev_sound hS hT hk) (ev_sound hS hT hv)
    exact eff_unit (by intro c e;cases e) (by simp[execOp,h1]) h2 h3
   ·cases h
  ·cases h
 case insert t m k v=>
  unfold mapUpF at h
  split at h
  ·rename_i m' k' v' hm hk hv
   unfold valU at h
   split at h
   ·rename_i st' hs
    simp at h;subst h
    obtain⟨w',h1,h2,h3⟩:=mapUpdateE_sound hS hs (ev_sound hS hT hm) (ev_sound hS hT hk) (ev_sound hS hT hv)
    exact eff_unit (by intro c e;cases e) (by simp[execOp,h1]) h2 h3
   ·cases h
  ·cases h
 case range t x=>
  unfold rangeOpF at h
  split at h
  ·rename_i x' hx
   unfold valV at h
   split at h
   ·rename_i v st' hs
    simp at h;subst h
    exact comes1_eff (by intro c e;cases e) rfl (rangeE_sound hS hs (ev_sound hS hT hx))
   ·cases h
  ·cases h
 case next x s=>
  unfold nextF at h
  split at h
  ·rename_i x' hx
   unfold valV at h
   split at h
   ·rename_i v st' hs
    simp at h;subst h
    exact comes1_eff (by intro c e;cases e) rfl (nextE_sound hS hs (ev_sound hS hT hx))
   ·cases h
  ·cases h
 case entry x=>
  unfold entryF at h
  split at h
  ·rename_i x' hx
   split at h
   ·rename_i v hs
    simp at h;subst h
    obtain⟨u,h1,h2⟩:=entryE_sound hS hs (ev_sound hS hT hx)
    exact comes1_eff (by intro c e;cases e) rfl ⟨u,φ,w,h1,hS,Ext.refl _ _ _,h2⟩
   ·cases h
  ·cases h
 case defer c=>
  unfold deferF at h
  obtain⟨callee,args,argTypes⟩:=c
  cases callee with
  | value f=>
   simp only at h
   split at h
   ·rename_i g a cc vs hf hvs
    simp at h;subst h
    have hfv:=ev_sound hS hT hf
    have hav:=evs_sound hS hT hvs
    generalize hu:evalT tmps f=u at hfv
    cases hfv with
    | func ha hc iq hcv=>
     rename_i a' c'
     refine⟨{ target:=.fn (.func g) c',args:=a'++args.map (evalT tmps) },by simp[execOp,resolve,hu,Deferred.ofValue],g,a,cc,rfl,c',_,rfl,⟨by simpa using hc,fun j x v hx hv=>hcv j x v hx (by simpa using hv)⟩,?_⟩
     rw[Array.toList_append]
     refine LRel.append ⟨by simpa using ha,fun j x v hx hv=>iq j x v hx (by simpa using hv)⟩ (by simpa using hav)
   ·cases h
  | _=>cases h
end
end Go.Proofs.YtnnhofmknilopaaGreatDoor.Gx
namespace Go.Proofs.YtnnhofmknilopaaGreatDoor.Gx
open Go
section
variable {E:Env} {F:Nat->Prop} {φ:Phi} {st:St} {w:World}
theorem wants_sound {B:Nat->Prop} {ops:List Oper} {opsA:Array Oper} (ha:opsA.toList=ops) {tm:List AV} {tmps:Array Value} (hT:LRel B w φ tm tmps.toList) {o:Oper} {b:Bool} (h:wants ops tm o=some b):
  Region.wanted o (yielded opsA tmps)=b:=by
 unfold wants at h
 unfold Region.wanted
 split at h
 ·rename_i hg;simp at h;subst h;simp[hg]
 ·rename_i j want hg
  simp only[hg]
  have aW:opsA[j]?=get? ops j:=by rw[get?_eq,<-ha];simp
  split at h
  ·rename_i d hd
   have hy:yielded opsA tmps j=(match tmps[d]? with | some (.bool b)=>some b | _=>none):=by
    unfold yielded;rw[aW,hd];rfl
   have hn:=nth_sound (w:=w) (φ:=φ) hT d
   split at h
   ·rename_i b' hb'
    simp at h;subst h
    rw[hb'] at hn
    have hd':tmps[d]?=some (.bool b'):=by
     generalize hu:tmps.getD d undef=u at hn
     cases hn
     rcases Nat.lt_or_ge d tmps.size with hl | hl
     ·simp[Array.getD,hl] at hu;simp[hl,hu]
     ·simp[Array.getD,Nat.not_lt.2 hl,undef] at hu
    rw[hy,hd']
    cases b'<;>cases want<;>rfl
   ·rename_i hb'
    simp at h;subst h
    rw[hb'] at hn
    generalize hu:tmps.getD d undef=u at hn
    obtain⟨us,rfl,hl⟩:=tup_list hn
    rw[hy]
    rcases Nat.lt_or_ge d tmps.size with hl | hl
    ·simp[Array.getD,hl] at hu;simp[hl,hu]
    ·simp[Array.getElem?_eq_none hl]
   ·cases h
  ·cases h
def OpOk (E:Env) (F:Nat->Prop) (φ:Phi) (st:St) (w:World) (fn:FuncId) (kd:CallKind) (ro:Option Nat) (_tmps:Array Value) (_df:List Deferred) (cs:List Frame) (m:Machine) (todo:List Item):OpOut->Prop
 | .ok fr' st'=>∃φ' w' tmps' df' cs',Sess E F φ' st' w'/\Ext φ st w φ' st' w'/\FRel (Bd F φ' st') w' φ' fr' kd ro tmps' df' cs'/\CsLike kd cs cs'/\Steps E.P m (lone (mkF fn kd ro tmps' df' todo) cs' w')
 | .pan ch fr' st'=>∃φ' w' tmps' df' cs' chain todo',Sess E F φ' st' w'/\Ext φ st w φ' st' w'/\FRel (Bd F φ' st') w' φ' fr' kd ro tmps' df' cs'/\CsLike kd cs cs'/\
  All2 (PRelC (Bd F φ' st') w' φ') ch chain/\Steps E.P m (lone { mkF fn kd ro tmps' df' todo' with mode:=.panicking chain } cs' w')
theorem st_op_recover {fn:FuncId} {kd:CallKind} {tmps:Array Value} {df:List Deferred} {k:List Item} {cs:List Frame} {ops:Array Oper} {i:Nat} {rest:List Nat} {o:Oper} (ho:ops[i]?=some o)
  (hw:Region.wanted o (yielded ops tmps)=true) (hr:(execOp (evalT tmps) o).run E.P w=.ok .recover w):
  step E.P (lone (mkF fn kd none tmps df (.inRegion ops (i::rest)::k)) cs w)=
   (match tryRecover (mkF fn kd none tmps df (.inRegion ops (i::rest)::k)) cs with
    | some (v,cs')=>.next (lone (mkF fn kd none (putT tmps o.dst v) df (.inRegion ops rest::k)) cs' w)
    | none=>.next (lone (mkF fn kd none (putT tmps o.dst .nilIface) df (.inRegion ops rest::k)) cs w)):=by
 cases ht:tryRecover (mkF fn kd none tmps df (.inRegion ops (i::rest)::k)) cs with
 | none=>
  rw[<-finish_mkF ho]
  refine step_lone_go ?_
  rw[stepG_oper ho hw (.inl rfl)]
  simp only[mkF] at ht ⊢
  simp[stepG.apply,hr,ht]
 | some p=>
  obtain⟨v,cs'⟩:=p
  simp only
  rw[<-finish_mkF ho]
  refine step_lone_go ?_
  rw[stepG_oper ho hw (.inl rfl)]
  simp only[mkF] at ht ⊢
  simp[stepG.apply,hr,ht]
theorem evalOp_sound {cal:Cal} (aZ:CalOk E cal) (hS:Sess E F φ st w) {fn:FuncId} {kd:CallKind} {ro:Option Nat} {fr:Fr} {tmps:Array Value} {df:List Deferred} {cs:List Frame}
  (hF:FRel (Bd F φ st) w φ fr kd ro tmps df cs) {o:Oper} {out:OpOut} (h:evalOp E cal o fr st=some out) {ops:Array Oper} {i:Nat} (ho:ops[i]?=some o) (hw:Region.wanted o (yielded ops tmps)=true)
  (rest:List Nat) (k:List Item):
  OpOk E F φ st w fn kd ro tmps df cs (lone (mkF fn kd ro tmps df (.inRegion ops (i::rest)::k)) cs w) (.inRegion ops rest::k) out:=by
 unfold evalOp at h
 split at h
 rotate_left
 ·rename_i hke
  obtain⟨dst,op,ty,pos,after,guard⟩:=o
  simp only at h
  unfold doConv at h
  split at h
  ·rename_i s d x _ _ _ _
   split at h
   ·rename_i v st' hv
    simp only[Option.some.injEq] at h;subst h
    obtain⟨u,φ',w',h1,h2,h3,h4⟩:=convX_sound hS hF.tm hv
    exact⟨φ',w',_,df,cs,h2,h3,(hF.mono h3.goes h3.phi).put dst h4,.refl _ _,.one (st_op_value ho hw (.inr (by intro c e;cases e)) (by simp only[execOp];simp[h1]))⟩
   ·cases h
  ·cases h
 rename_i r hke
 simp only[Option.some.injEq] at h
 subst h
 have h:=hke
 clear hke
 cases hk:kindOf o.op with
 | pure=>
  have hnd:∀c,o.op≠.defer c:=by intro c e;rw[e] at hk;simp[kindOf] at hk
  simp only[hk,kindEval,doPure] at h
  split at h
  ·rename_i v hv
   simp at h;subst h
   obtain⟨u,h1,h2⟩:=pureOp_sound hS hF.tm hv
   exact⟨φ,w,_,df,cs,hS,Ext.refl _ _ _,hF.put o.dst h2,.refl _ _,.one (st_op_value ho hw (.inr hnd) h1)⟩
  ·cases h
 | alloc=>
  have hnd:∀c,o.op≠.defer c:=by intro c e;rw[e] at hk;simp[kindOf] at hk
  simp only[hk,kindEval,doAlloc] at h
  split at h
  ·rename_i ab mk hv
   simp at h;subst h
   obtain⟨hl,obj,u,h1,h2⟩:=allocOp_sound hS hF.tm hv
   obtain⟨g1,g2⟩:=hS.ghost ab
   have hf:=hS.fresh (Nat.le_refl st.length)
   have hB:Bd F φ (st++[ab])=Bd F φ st:=funext fun cb=>by simp only[Bd,own_ghost hf]
   obtain⟨r1,r2⟩:=g1.realize (b:=st.length) (ab:=ab) (by simp) hl hf obj (fun B' g=>(h2 st.length _ B' (phiSet_le hf) (by simp[phiSet]) (by rw[hB] at g;exact g)).1)
   have aV:Ext φ st w (phiSet φ st.length w.heap.size 0) (st++[ab]) (pushed w obj):=ghost_real g2 r2 rfl
   have hv2:=(h2 st.length (phiSet φ st.length w.heap.size 0) _ (phiSet_le hf) (by simp[phiSet]) (aV.goes (F:=F))).2
   exact⟨_,_,_,df,cs,r1,aV,(hF.mono aV.goes aV.phi).put o.dst hv2,.refl _ _,.one (st_op_value ho hw (.inr hnd) h1)⟩
  ·cases h
 | eff=>
  simp only[hk,kindEval] at h
  unfold doEff at h
  split at h
  ·rename_i v st' he
   simp at h;subst h
   obtain⟨φ',w',u,s1,s2,s3,s4⟩:=effOp_sound aZ hS hF.tm he fn kd ro df k cs ops i rest ho hw
   exact⟨φ',w',_,df,cs,s1,s2,(hF.mono s2.goes s2.phi).put o.dst s3,.refl _ _,s4⟩
  ·rename_i ch st' he
   simp at h;subst h
   obtain⟨φ',w',chain,s1,s2,s3,s4⟩:=effOp_sound aZ hS hF.tm he fn kd ro df k cs ops i rest ho hw
   exact⟨φ',w',_,df,cs,chain,_,s1,s2,hF.mono s2.goes s2.phi,.refl _ _,s3,s4⟩
  ·rename_i he
   obtain⟨hr,hnd⟩:=effOp_sound aZ hS hF.tm he
   split at h
   ·rename_i v fr' dc
    simp at h;subst h
    obtain⟨tm,dfa,rc,roa⟩:=fr
    have hro:=hF.ro
    have hrc:=hF.rc
    simp only[doRecover] at dc
    split at dc
    ·cases dc
    ·rename_i v0 older
     simp only at hro hrc
     subst hro
     simp at dc;obtain⟨rfl,rfl⟩:=dc
     obtain⟨rfl,c,rest',rfl,ch',hm,hch⟩:=hrc
     cases hch with
     | cons hp bi=>
      rename_i e older'
      obtain⟨ev,er,eg⟩:=e
      obtain⟨p1,p2,p3⟩:=hp
      simp only at p1 p2 p3
      subst p2;subst p3
      have ht:tryRecover (mkF fn .deferred none tmps df (.inRegion ops (i::rest)::k)) (c::rest')=some (ev,{ c with mode:=.panicking ({ v:=ev,recovered:=true }::older') }::rest'):=by
       simp[tryRecover,mkF,hm]
      have hst:=st_op_recover (E:=E) (fn:=fn) (kd:=.deferred) (df:=df) (k:=k) (cs:=c::rest') (rest:=rest) ho hw hr
      rw[ht] at hst
      refine⟨φ,w,_,df,_,hS,Ext.refl _ _ _,?_,.inr ⟨rfl,c,rest',_,rfl,rfl⟩,.one hst⟩
      have hF':FRel (Bd F φ st) w φ ⟨tm,dfa,some (.panicking (⟨v0,true⟩::older)),none⟩ .deferred none tmps df ({ c with mode:=.panicking ({ v:=ev,recovered:=true }::older') }::rest'):=
       ⟨hF.tm,hF.df,⟨rfl,_,_,rfl,_,rfl,.cons ⟨p1,rfl,rfl⟩ bi⟩,rfl⟩
      exact hF'.put o.dst p1
    ·rename_i rc' hno
     simp only at hro hrc
     subst hro
     simp at dc;obtain⟨rfl,rfl⟩:=dc
     have ht:tryRecover (mkF fn kd none tmps df (.inRegion ops (i::rest)::k)) cs=none:=by
      cases rc with
      | none=>simp only at hrc;subst hrc;cases cs<;>simp[tryRecover,mkF]
      | some m=>
       obtain⟨rfl,c,rest',rfl,hm⟩:=hrc
       cases m with
       | returning=>simp only[MRel] at hm;simp[tryRecover,mkF,hm]
       | panicking ch=>
        obtain⟨ch',hm1,hch⟩:=hm
        cases hch with
        | nil=>simp[tryRecover,mkF,hm1]
        | cons hp bi=>
         rename_i a e l m
         obtain⟨av,ar⟩:=a
         cases ar with
         | false=>exact(hno av l rfl).elim
         | true=>
          obtain⟨ev,er,eg⟩:=e
          obtain⟨p1,p2,p3⟩:=hp
          simp only at p2 p3
          subst p2;subst p3
          simp[tryRecover,mkF,hm1]
     have hst:=st_op_recover (E:=E) (fn:=fn) (kd:=kd) (df:=df) (k:=k) (cs:=cs) (rest:=rest) ho hw hr
     rw[ht] at hst
     exact⟨φ,w,_,df,cs,hS,Ext.refl _ _ _,hF.put o.dst .nilif,.refl _ _,.one hst⟩
   ·cases h
  ·rename_i d he
   obtain⟨cd,hr,hd⟩:=effOp_sound aZ hS hF.tm he
   split at h
   ·rename_i gw
    simp at h;subst h
    obtain⟨tm,dfa,rc,roa⟩:=fr
    simp only at gw
    subst gw
    have hro:=hF.ro
    simp only at hro
    subst hro
    refine⟨φ,w,_,_,cs,hS,Ext.refl _ _ _,?_,.refl _ _,.one (st_op_defer ho hw hr)⟩
    have hF':FRel (Bd F φ st) w φ (pushDef ⟨tm,dfa,rc,none⟩ d) kd none tmps (cd::df) cs:=⟨hF.tm,.cons hd hF.df,hF.rc,hF.ro⟩
    exact hF'.put o.dst VRel.undef
   ·cases h
  ·cases h
theorem OpOk.of_steps {fn:FuncId} {kd:CallKind} {ro:Option Nat} {tmps tmps':Array Value} {df df':List Deferred} {cs cs':List Frame} {m m':Machine} {todo:List Item} {out:OpOut} {φ':Phi} {st':St} {w':World}
  (hs:Steps E.P m m') (he:Ext φ st w φ' st' w') (hc:CsLike kd cs cs') (h:OpOk E F φ' st' w' fn kd ro tmps' df' cs' m' todo out):OpOk E F φ st w fn kd ro tmps df cs m todo out:=by
 cases out with
 | ok fr st2=>obtain⟨a,b,c,d,e,h1,h2,h3,h4,h5⟩:=h;exact⟨a,b,c,d,e,h1,he.trans h2,h3,hc.trans h4,hs.trans h5⟩
 | pan ch fr st2=>obtain⟨a,b,c,d,e,f,g,h1,h2,h3,h4,h5,h6⟩:=h;exact⟨a,b,c,d,e,f,g,h1,he.trans h2,h3,hc.trans h4,h5,hs.trans h6⟩
theorem evalOps_sound {cal:Cal} (aZ:CalOk E cal) {ops:List Oper} {opsA:Array Oper} (ha:opsA.toList=ops) {fn:FuncId} {kd:CallKind} {ro:Option Nat} (k:List Item):
  ∀(todo:List Oper) (i:Nat),todo=ops.drop i->∀{φ:Phi} {st:St} {w:World} {fr:Fr} {tmps:Array Value} {df:List Deferred} {cs:List Frame} {out:OpOut},Sess E F φ st w->
   FRel (Bd F φ st) w φ fr kd ro tmps df cs->evalOps E cal ops todo fr st=some out->
   OpOk E F φ st w fn kd ro tmps df cs (lone (mkF fn kd ro tmps df (.inRegion opsA (List.range' i todo.length)::k)) cs w) k out
 | [],i,dF,φ,st,w,fr,tmps,df,cs,out,hS,hF,h=>by
  simp[evalOps] at h;subst h
  exact⟨φ,w,tmps,df,cs,hS,Ext.refl _ _ _,hF,.refl _ _,.one st_region_end⟩
 | o::todo,i,dF,φ,st,w,fr,tmps,df,cs,out,hS,hF,h=>by
  have ho:opsA[i]?=some o:=by
   have:ops[i]?=some o:=by
    have:=congrArg (fun l=>l[0]?) dF
    simpa using this.symm
   rw[<-ha] at this;simpa using this
  have dG:todo=ops.drop (i+1):=by
   have:=congrArg List.tail dF
   simpa [List.tail_drop] using this
  simp only[List.length_cons,List.range'_succ]
  unfold evalOps at h
  split at h
  ·rename_i hw
   have hw':=wants_sound ha hF.tm hw
   split at h
   ·rename_i fr' st' he
    have:=evalOp_sound (fn:=fn) aZ hS hF he ho hw' (List.range' (i+1) todo.length) k
    obtain⟨φ',w',tmps',df',cs',s1,s2,s3,s4,s5⟩:=this
    exact OpOk.of_steps s5 s2 s4 (evalOps_sound aZ ha k todo (i+1) dG s1 s3 h)
   ·rename_i r hne
    cases he:evalOp E cal o fr st with
    | none=>rw[he] at h;cases h
    | some r'=>
     rw[he] at h
     cases r' with
     | ok fr' st'=>exact absurd he (hne _ _)
     | pan ch fr' st'=>
      simp at h;subst h
      have:=evalOp_sound (fn:=fn) aZ hS hF he ho hw' (List.range' (i+1) todo.length) k
      exact this
  ·rename_i hw
   have hw':=wants_sound ha hF.tm hw
   exact OpOk.of_steps (.one (st_op_skip ho hw')) (Ext.refl _ _ _) (.refl _ _) (evalOps_sound aZ ha k todo (i+1) dG hS (hF.put o.dst VRel.undef) h)
  ·cases h
end
end Go.Proofs.YtnnhofmknilopaaGreatDoor.Gx
namespace Go.Proofs.YtnnhofmknilopaaGreatDoor.Gx
open Go
theorem capEq_eq {a b:Cap} (h:capEq a b=true):a=b:=by
 cases a<;>cases b<;>simp[capEq] at h<;>simp[h]
mutual
theorem avEq_eq:∀(a b:AV),avEq a b=true->a=b
 | .bool a,b,h=>by cases b<;>simp[avEq] at h;simp[h]
 | .int j a,b,h=>by cases b<;>simp[avEq] at h;simp[h]
 | .str a,b,h=>by cases b<;>simp[avEq] at h;simp[h]
 | .nilptr,b,h=>by cases b<;>simp[avEq] at h;rfl
 | .ptr a o,b,h=>by cases b<;>simp[avEq] at h;simp[h]
 | .iptr a,b,h=>by cases b<;>simp[avEq] at h;rw[avsEq_eq a _ h]
 | .nilsl,b,h=>by cases b<;>simp[avEq] at h;rfl
 | .sl a o l c,b,h=>by
  cases b<;>simp[avEq] at h
  obtain⟨⟨⟨rfl,rfl⟩,rfl⟩,hc⟩:=h
  rw[capEq_eq hc]
 | .isl l a c,b,h=>by
  cases b<;>simp[avEq] at h
  obtain⟨⟨rfl,rfl⟩,ha⟩:=h
  rw[avsEq_eq a _ ha]
 | .nilmap,b,h=>by cases b<;>simp[avEq] at h;rfl
 | .map a,b,h=>by cases b<;>simp[avEq] at h;simp[h]
 | .func f a c,b,h=>by
  cases b<;>simp[avEq] at h
  obtain⟨⟨rfl,ha⟩,hc⟩:=h
  rw[avsEq_eq a _ ha,avsEq_eq c _ hc]
 | .yld a,b,h=>by cases b<;>simp[avEq] at h;simp[h]
 | .nilfn,b,h=>by cases b<;>simp[avEq] at h;rfl
 | .iface t a,b,h=>by
  cases b<;>simp[avEq] at h
  obtain⟨rfl,ha⟩:=h
  rw[avEq_eq a _ ha]
 | .nilif,b,h=>by cases b<;>simp[avEq] at h;rfl
 | .agg a,b,h=>by cases b<;>simp[avEq] at h;rw[avsEq_eq a _ h]
 | .tup a,b,h=>by cases b<;>simp[avEq] at h;rw[avsEq_eq a _ h]
 | .unk,b,h=>by cases b<;>simp[avEq] at h;rfl
 | .oint k lo hi,b,h=>by cases b<;>simp[avEq] at h;obtain⟨⟨rfl,rfl⟩,rfl⟩:=h;rfl
 | .ostr a,b,h=>by cases b<;>simp[avEq] at h;rw[h]
theorem avsEq_eq:∀(a b:List AV),avsEq a b=true->a=b
 | [],b,h=>by cases b<;>simp[avsEq] at h;rfl
 | x::l,b,h=>by
  cases b<;>simp[avsEq] at h
  rw[avEq_eq x _ h.1,avsEq_eq l _ h.2]
end
theorem abSame_eq {a b:AB} (h:abSame a b=true):a=b:=by
 unfold abSame at h
 split at h
 ·rw[avsEq_eq _ _ h]
 ·rfl
 ·cases h
def Agr (fr fr':Fr) (x:Operand):Prop:=∀t,x=.tmp t->nth fr.tm t=nth fr'.tm t
section
variable {E:Env} {fr fr':Fr}
theorem ev_congr {x:Operand} (h:Agr fr fr' x):ev E fr x=ev E fr' x:=by
 cases x with
 | tmp t=>simp[ev,h t rfl]
 | _=>rfl
theorem evs_congr:∀{xs:List Operand},(∀x∈xs,Agr fr fr' x)->evs E fr xs=evs E fr' xs
 | [],_=>rfl
 | x::xs,h=>by unfold evs;rw[ev_congr (h x (by simp)),evs_congr (fun y hy=>h y (by simp[hy]))]
theorem evo_congr {x:Option Operand} (h:∀y∈x,Agr fr fr' y):evo E fr x=evo E fr' x:=by
 cases x with
 | none=>rfl
 | some x=>simp[evo,ev_congr (h x rfl)]
theorem evp_congr:∀{xs:List (Nat × Operand)},(∀p∈xs,Agr fr fr' p.2)->evp E fr xs=evp E fr' xs
 | [],_=>rfl
 | (i,x)::xs,h=>by unfold evp;rw[ev_congr (h (i,x) (by simp)),evp_congr (fun y hy=>h y (by simp[hy]))]
theorem callPure_congr {c:Call} {st:St} (h:∀x∈(Op.call c).operands,Agr fr fr' x):callPure c E fr st=callPure c E fr' st:=by
 obtain⟨callee,args,ts⟩:=c
 have ha:∀x∈args.toList,Agr fr fr' x:=fun x hx=>h x (by simp[Op.operands,Call.operands];right;simpa using hx)
 unfold callPure
 cases callee with
 | builtin b=>cases b<;>simp only[builtinPure,lenF,capF,minF,maxF,noneF,evs_congr ha]
 | _=>rfl
theorem pureOp_congr {op:Op} {st:St} (h:∀x∈op.operands,Agr fr fr' x):pureOp op E fr st=pureOp op E fr' st:=by
 cases op<;>simp only[pureOp,noneF]
 case move x=>exact ev_congr (h x (by simp[Op.operands]))
 case assign x=>exact ev_congr (h x (by simp[Op.operands]))
 case pick c a b=>simp only[pickF,ev_congr (h c (by simp[Op.operands])),ev_congr (h a (by simp[Op.operands])),ev_congr (h b (by simp[Op.operands]))]
 case build t parts=>
  have hp:∀p∈parts.toList,Agr fr fr' p.2:=fun p hp=>h p.2 (by simp[Op.operands];exact⟨p.1,by simpa using hp⟩)
  simp only[buildF,evp_congr hp]
 case load t a=>simp only[loadF,ev_congr (h a (by simp[Op.operands]))]
 case nilCheck x=>simp only[nilF,ev_congr (h x (by simp[Op.operands]))]
 case binOp op t x y yt=>simp only[binF,ev_congr (h x (by simp[Op.operands])),ev_congr (h y (by simp[Op.operands]))]
 case unOp op t x=>simp only[unF,ev_congr (h x (by simp[Op.operands]))]
 case convert s d x=>simp only[convF,ev_congr (h x (by simp[Op.operands]))]
 case makeInterface t x=>simp only[mkifF,ev_congr (h x (by simp[Op.operands]))]
 case makeFunc fn a c=>
  have ha:∀x∈a.toList,Agr fr fr' x:=fun x hx=>h x (by simp[Op.operands];left;simpa using hx)
  have hc:∀x∈c.toList,Agr fr fr' x:=fun x hx=>h x (by simp[Op.operands];right;simpa using hx)
  simp only[mkfnF,evs_congr ha,evs_congr hc]
 case slice t x lo hi mx=>
  have h1:∀y∈lo,Agr fr fr' y:=fun y hy=>h y (by simp[Op.operands];simp at hy;simp[hy])
  have h2:∀y∈hi,Agr fr fr' y:=fun y hy=>h y (by simp[Op.operands];simp at hy;simp[hy])
  have h3:∀y∈mx,Agr fr fr' y:=fun y hy=>h y (by simp[Op.operands];simp at hy;simp[hy])
  simp only[sliceF,ev_congr (h x (by simp[Op.operands])),evo_congr h1,evo_congr h2,evo_congr h3]
 case fieldAddr t x f=>simp only[faddrF,ev_congr (h x (by simp[Op.operands]))]
 case field t x f=>simp only[fieldF,ev_congr (h x (by simp[Op.operands]))]
 case indexAddr t x i=>simp only[iaddrF,ev_congr (h x (by simp[Op.operands])),ev_congr (h i (by simp[Op.operands]))]
 case index t x i=>simp only[indexF,ev_congr (h x (by simp[Op.operands])),ev_congr (h i (by simp[Op.operands]))]
 case lookup t x i ok=>simp only[lookupF,ev_congr (h x (by simp[Op.operands])),ev_congr (h i (by simp[Op.operands]))]
 case extract t i=>simp only[extractF,ev_congr (h t (by simp[Op.operands]))]
 case typeAssert x xT aT ok=>simp only[assertF,ev_congr (h x (by simp[Op.operands]))]
 case call c=>exact callPure_congr h
theorem allocOp_congr {op:Op} (h:∀x∈op.operands,Agr fr fr' x):allocOp op E fr=allocOp op E fr':=by
 cases op<;>simp only[allocOp,noneA]
 case alloc t=>rfl
 case box t x=>simp only[boxF,ev_congr (h x (by simp[Op.operands]))]
 case buildSlice t len parts=>
  have hp:∀p∈parts.toList,Agr fr fr' p.2:=fun p hp=>h p.2 (by simp[Op.operands];exact⟨p.1,by simpa using hp⟩)
  simp only[bslF,evp_congr hp]
 case makeSlice t l c=>simp only[mslF,ev_congr (h l (by simp[Op.operands])),ev_congr (h c (by simp[Op.operands]))]
 case makeMap t r=>rfl
theorem effOp_congr {op:Op} {cal:Cal} {st:St} (h:∀x∈op.operands,Agr fr fr' x):effOp op E cal fr st=effOp op E cal fr' st:=by
 cases op<;>simp only[effOp,noneE]
 case store t a v=>simp only[storeF,ev_congr (h a (by simp[Op.operands])),ev_congr (h v (by simp[Op.operands]))]
 case call c=>
  obtain⟨callee,args,ts⟩:=c
  have ha:∀x∈args.toList,Agr fr fr' x:=fun x hx=>h x (by simp[Op.operands,Call.operands];right;simpa using hx)
  unfold callEff
  cases callee with
  | value f=>simp only[callVF,ev_congr (h f (by simp[Op.operands,Call.operands])),evs_congr ha]
  | invoke r m=>rfl
  | builtin b=>
   have h0:∀x,args[0]?=some x->Agr fr fr' x:=fun x hx=>ha x (by have:=Array.mem_of_getElem? hx;simpa using this)
   cases b<;>simp only[builtinEff,appF,copyF,recF,noneE,evs_congr ha]
   unfold panF
   cases hx:args[0]? with
   | none=>rfl
   | some x=>simp only[ev_congr (h0 x hx)]
 case panic x=>simp only[panF,ev_congr (h x (by simp[Op.operands]))]
 case mapUpdate t m k v=>simp only[mapUpF,ev_congr (h m (by simp[Op.operands])),ev_congr (h k (by simp[Op.operands])),ev_congr (h v (by simp[Op.operands]))]
 case insert t m k v=>simp only[mapUpF,ev_congr (h m (by simp[Op.operands])),ev_congr (h k (by simp[Op.operands])),ev_congr (h v (by simp[Op.operands]))]
 case range t x=>simp only[rangeOpF,ev_congr (h x (by simp[Op.operands]))]
 case next x s=>simp only[nextF,ev_congr (h x (by simp[Op.operands]))]
 case entry x=>simp only[entryF,ev_congr (h x (by simp[Op.operands]))]
 case defer c=>
  obtain⟨callee,args,ts⟩:=c
  have ha:∀x∈args.toList,Agr fr fr' x:=fun x hx=>h x (by simp[Op.operands,Call.operands];right;simpa using hx)
  unfold deferF
  cases callee with
  | value f=>simp only[ev_congr (h f (by simp[Op.operands,Call.operands])),evs_congr ha]
  | _=>rfl
theorem pendOf_congr {i:Nat} {op:Op} {v:AV} (h:∀x∈op.operands,Agr fr fr' x):pendOf i op E fr v=pendOf i op E fr' v:=by
 cases op<;>simp only[pendOf]
 case load t a=>simp only[ev_congr (h a (by simp[Op.operands]))]
 case call c=>
  obtain⟨callee,args,ts⟩:=c
  have ha:∀x∈args.toList,Agr fr fr' x:=fun x hx=>h x (by simp[Op.operands,Call.operands];right;simpa using hx)
  simp only[pendCall,evs_congr ha]
theorem get?_append {α:Type} {st:List α} {x y:α} {b:Nat} (h:get? st b=some x):get? (st++[y]) b=some x:=by
 rw[get?_eq] at h ⊢
 rw[List.getElem?_append_left (lt_of_get h)];exact h
theorem cellsAt_append {st:St} {ab:AB} {a:AV} {cs:List AV} (h:cellsAt st a=some cs):cellsAt (st++[ab]) a=some cs:=by
 cases a<;>simp only[cellsAt] at h ⊢<;>try (exact h)
 split at h
 ·rename_i cs0 hb;rw[get?_append hb];exact h
 ·rename_i cs0 hb;rw[get?_append hb];exact h
 ·cases h
theorem loadE_append {P:Program} {st:St} {ab:AB} {t:TypeId} {a v:AV} (h:loadE P st t a=some v):loadE P (st++[ab]) t a=some v:=by
 unfold loadE at h ⊢
 cases hc:cellsAt st a with
 | none=>simp[hc] at h
 | some cs=>rw[hc] at h;rw[cellsAt_append hc];exact h
theorem pureOp_append {op:Op} {st:St} {ab:AB} {v:AV} (h:pureOp op E fr st=some v):pureOp op E fr (st++[ab])=some v:=by
 cases op<;>simp only[pureOp] at h ⊢<;>first | exact h | skip
 case load t a=>
  unfold loadF at h ⊢
  split at h
  ·exact loadE_append h
  ·cases h
 case lookup t x i ok=>
  unfold lookupF at h ⊢
  split at h
  ·rename_i x' i' hx hi
   unfold lookupE at h ⊢
   split at h
   ·rename_i kT eT hu
    simp only at h ⊢
    cases x'<;>try (exact h)
    rename_i b
    simp only at h ⊢
    cases hb:get? st b with
    | none=>rw[hb] at h;simp at h
    | some x=>rw[hb] at h;rw[get?_append hb];exact h
   ·cases h
  ·cases h
 case call c=>
  unfold callPure at h ⊢
  obtain⟨callee,args,ts⟩:=c
  cases callee with
  | builtin b=>
   cases b<;>simp only[builtinPure] at h ⊢<;>try (exact h)
   unfold lenF at h ⊢
   split at h
   ·rename_i x xs t hx ht
    unfold lenE at h ⊢
    split at h<;>try (exact h)
    rename_i k e b hu
    cases hb:get? st b with
    | none=>rw[hb] at h;simp at h
    | some x=>rw[hb] at h;rw[get?_append hb];exact h
   ·cases h
  | _=>exact h
theorem pureOp_any {i:Nat} {op:Op} {st st':St} {v:AV} (h:pureOp op E fr st=some v) (hp:pendOf i op E fr v=some []):pureOp op E fr st'=some v:=by
 cases op<;>simp only[pureOp] at h ⊢<;>first | exact h | skip
 case load t a=>simp only[pendOf] at hp;split at hp<;>simp at hp
 case lookup t x i ok=>simp[pendOf] at hp
 case call c=>
  unfold callPure at h ⊢
  obtain⟨callee,args,ts⟩:=c
  cases callee with
  | builtin b=>
   cases b<;>simp only[builtinPure] at h ⊢<;>try (exact h)
   unfold lenF at h ⊢
   split at h
   ·rename_i x xs t hx ht
    simp only[pendOf,pendCall] at hp
    rw[hx] at hp
    unfold lenE at h ⊢
    split at h<;>try (exact h)
    simp at hp
   ·cases h
  | _=>exact h
end
end Go.Proofs.YtnnhofmknilopaaGreatDoor.Gx
namespace Go.Proofs.YtnnhofmknilopaaGreatDoor.Gx
open Go
theorem waitsOn_iff {o:Oper} {q:Nat}:waitsOn o q=true↔∃e∈o.after,Region.binds .any e=true/\e.on=q:=by
 simp only[waitsOn,List.any_eq_true,Bool.and_eq_true,Array.mem_toList_iff]
 constructor
 ·rintro⟨e,h1,h2,h3⟩;exact⟨e,h1,h2,Nat.eq_of_beq_eq_true h3⟩
 ·rintro⟨e,h1,h2,rfl⟩;exact⟨e,h1,h2,Nat.beq_refl _⟩
theorem readyB_iff {o:Oper} {l:List Bool}:readyB o l=true↔∀q,waitsOn o q=true->bit l q=true:=by
 simp only[readyB,List.all_eq_true,Bool.or_eq_true,Bool.not_eq_true']
 constructor
 ·intro h q hq
  obtain⟨e,he,hb,rfl⟩:=waitsOn_iff.1 hq
  rcases h e (by simpa using he) with h1 | h1
  ·rw[hb] at h1;cases h1
  ·exact h1
 ·intro h e he
  cases hb:Region.binds .any e with
  | false=>exact .inl rfl
  | true=>exact .inr (h e.on (waitsOn_iff.2 ⟨e,by simpa using he,hb,rfl⟩))
theorem bit_eq:∀(l:List Bool) (i:Nat),bit l i=(l[i]?).getD false
 | [],_=>by simp[bit]
 | b::l,0=>by simp[bit]
 | b::l,n+1=>by simp[bit,bit_eq l n]
theorem mem_readyL {listed:List Bool}:∀{ops:List Oper} {bs:List Bool} {k i:Nat},ops.length=bs.length->(i∈readyL listed ops bs k↔k<=i/\∃o,ops[i - k]?=some o/\bit bs (i - k)=false/\readyB o listed=true)
 | [],bs,k,i,_=>by simp[readyL]
 | o::ops,[],k,i,h=>by simp at h
 | o::ops,b::bs,k,i,h=>by
  have ih:=mem_readyL (listed:=listed) (ops:=ops) (bs:=bs) (k:=k+1) (i:=i) (by simpa using h)
  unfold readyL
  have key:i∈readyL listed ops bs (k+1)↔k<i/\∃o',(o::ops)[i - k]?=some o'/\bit (b::bs) (i - k)=false/\readyB o' listed=true:=by
   rw[ih]
   constructor
   ·rintro⟨h1,o',h2,h3,h4⟩
    have e:i - k=(i - (k+1))+1:=by omega
    exact⟨by omega,o',by rw[e];simpa using h2,by rw[e];simpa [bit] using h3,h4⟩
   ·rintro⟨h1,o',h2,h3,h4⟩
    have e:i - k=(i - (k+1))+1:=by omega
    rw[e] at h2 h3
    exact⟨by omega,o',by simpa using h2,by simpa [bit] using h3,h4⟩
  split
  ·rename_i hc
   simp only[Bool.and_eq_true,Bool.not_eq_true'] at hc
   rw[List.mem_cons,key]
   constructor
   ·rintro(rfl | ⟨h1,h2⟩)
    ·exact⟨Nat.le_refl _,o,by simp,by simp[bit,hc.1],hc.2⟩
    ·exact⟨by omega,h2⟩
   ·rintro⟨h1,o',h2,h3,h4⟩
    by_cases e:i=k
    ·exact .inl e
    ·exact .inr ⟨by omega,o',h2,h3,h4⟩
  ·rename_i hc
   rw[key]
   constructor
   ·rintro⟨h1,h2⟩;exact⟨by omega,h2⟩
   ·rintro⟨h1,o',h2,h3,h4⟩
    by_cases e:i=k
    ·subst e
     simp at h2;subst h2
     simp[bit] at h3
     simp[h3,h4] at hc
    ·exact⟨by omega,o',h2,h3,h4⟩
theorem firstQ_some {ops:List Oper}:∀{is:List Nat} {i:Nat} {o:Oper},firstQ ops is=some (i,o)->i∈is/\ops[i]?=some o/\kindOf o.op≠.eff
 | [],i,o,h=>by simp[firstQ] at h
 | j::is,i,o,h=>by
  unfold firstQ at h
  rw[get?_eq] at h
  split at h
  ·rename_i o' ho
   split at h
   ·obtain⟨h1,h2,h3⟩:=firstQ_some h
    exact⟨by simp[h1],h2,h3⟩
   ·rename_i hk
    simp at h;obtain⟨rfl,rfl⟩:=h
    exact⟨by simp,ho,hk⟩
  ·cases h
structure Ssa (ops:List Oper):Prop where
 reads:∀(p q:Nat) op oq d,ops[p]?=some op->ops[q]?=some oq->oq.dst=some d->d∈looks ops op->waitsOn op q=true
 once:∀(p q:Nat) op oq d,ops[p]?=some op->ops[q]?=some oq->op.dst=some d->oq.dst=some d->p=q
 edge:∀(i:Nat) o q,ops[i]?=some o->waitsOn o q=true->q<i
theorem readsOk_spec {ts:List Tmp} {o:Oper}:∀{qs:List Oper} {k:Nat},readsOk ts o qs k=true->∀(q:Nat) oq d,qs[q]?=some oq->oq.dst=some d->d∈ts->waitsOn o (k+q)=true
 | [],k,h,q,oq,d,hq,_,_=>by simp at hq
 | x::qs,k,h,q,oq,d,hq,hd,hm=>by
  unfold readsOk at h
  simp only[Bool.and_eq_true] at h
  cases q with
  | zero=>
   simp at hq;subst hq
   rw[hd] at h
   simp only[Bool.or_eq_true,Bool.not_eq_true'] at h
   rcases h.1 with h1 | h1
   ·simp[hm] at h1
   ·simpa using h1
  | succ q=>
   have:=readsOk_spec h.2 q oq d (by simpa using hq) hd hm
   rwa [show k+(q+1)=k+1+q by omega]
theorem onceOk_spec:∀{qs:List Oper},onceOk qs=true->∀(p q:Nat) op oq d,qs[p]?=some op->qs[q]?=some oq->op.dst=some d->oq.dst=some d->p=q
 | [],h,p,q,op,oq,d,hp,_,_,_=>by simp at hp
 | x::qs,h,p,q,op,oq,d,hp,hq,hdp,hdq=>by
  unfold onceOk at h
  simp only[Bool.and_eq_true] at h
  have no:∀(r:Nat) or,qs[r]?=some or->or.dst=some d->x.dst=some d->False:=by
   intro r or hr hdr hdx
   rw[hdx] at h
   have:=List.all_eq_true.1 h.1 or (List.mem_of_getElem? hr)
   rw[hdr] at this
   simp at this
  cases p with
  | zero=>
   cases q with
   | zero=>rfl
   | succ q=>simp at hp;subst hp;exact(no q oq (by simpa using hq) hdq hdp).elim
  | succ p=>
   cases q with
   | zero=>simp at hq;subst hq;exact(no p op (by simpa using hp) hdp hdq).elim
   | succ q=>rw[onceOk_spec h.2 p q op oq d (by simpa using hp) (by simpa using hq) hdp hdq]
theorem edgesOk_spec:∀{os:List Oper} {k:Nat},edgesOk os k=true->∀(i:Nat) o q,os[i]?=some o->waitsOn o q=true->q<k+i
 | [],k,h,i,o,q,ho,_=>by simp at ho
 | x::os,k,h,i,o,q,ho,hw=>by
  unfold edgesOk at h
  simp only[Bool.and_eq_true] at h
  cases i with
  | zero=>
   simp at ho;subst ho
   obtain⟨e,he,hb,rfl⟩:=waitsOn_iff.1 hw
   have:=List.all_eq_true.1 h.1 e (by simpa using he)
   rw[hb] at this
   simp[Nat.blt_eq] at this
   omega
  | succ i=>
   have:=edgesOk_spec h.2 i o q (by simpa using ho) hw
   omega
theorem ssa_spec {ops:List Oper} (h:ssa ops=true):Ssa ops:=by
 unfold ssa at h
 simp only[Bool.and_eq_true] at h
 refine⟨fun p q op oq d hp hq hd hm=>?_,onceOk_spec h.1.2,fun i o q ho hw=>?_⟩
 ·have:=readsOk_spec (List.all_eq_true.1 h.1.1 op (List.mem_of_getElem? hp)) q oq d hq hd hm
  simpa using this
 ·have:=edgesOk_spec h.2 i o q ho hw
  omega
theorem mem_looks {ops:List Oper} {o:Oper} {t:Tmp} (h:.tmp t∈o.op.operands):t∈looks ops o:=by
 unfold looks
 rw[List.mem_append]
 left
 rw[List.mem_filterMap]
 exact⟨.tmp t,by simpa using h,rfl⟩
theorem guard_looks {ops:List Oper} {o:Oper} {j:Nat} {w:Bool} {d:Tmp} (hg:o.guard=some (j,w)) (hd:(get? ops j).bind (·.dst)=some d):d∈looks ops o:=by
 unfold looks
 rw[List.mem_append]
 right
 simp[hg,hd]
theorem wants_congr {ops:List Oper} {tm tm':List AV} {o:Oper} (h:∀t∈looks ops o,nth tm t=nth tm' t):wants ops tm o=wants ops tm' o:=by
 unfold wants
 split
 ·rfl
 ·rename_i j w hg
  split
  ·rename_i d hd;rw[h d (guard_looks hg hd)]
  ·rfl
theorem nth_upd_ne {tm:List AV} {d t:Nat} {v:AV} (h:d≠t):nth (upd tm d v) t=nth tm t:=by
 rw[nth_eq,nth_eq,upd_eq,List.getElem?_set_ne h]
theorem nth_upd_self {tm:List AV} {d:Nat} {v:AV} (h:d<tm.length):nth (upd tm d v) d=v:=by
 rw[nth_eq,upd_eq];simp[h]
theorem put_tm {fr:Fr} {dst:Option Tmp} {v:AV}:(put fr dst v).tm=(match dst with | some d=>upd fr.tm d v | none=>fr.tm):=by
 obtain⟨tm,df,rc,ro⟩:=fr
 cases dst<;>rfl
theorem put_tm_ne {fr:Fr} {dst:Option Tmp} {v:AV} {t:Nat} (h:dst≠some t):nth (put fr dst v).tm t=nth fr.tm t:=by
 rw[put_tm]
 cases dst with
 | none=>rfl
 | some d=>exact nth_upd_ne (fun e=>h (by rw[e]))
theorem put_len {fr:Fr} {dst:Option Tmp} {v:AV}:(put fr dst v).tm.length=fr.tm.length:=by
 rw[put_tm];cases dst<;>simp[upd_eq]
def todoL (ops:Array Oper) (f t:Nat) (D:Array Bool):List Nat:=Region.linearise.go .any ops f t D []
theorem todoL_cases (ops:Array Oper) (f t:Nat) (D:Array Bool):
  (todoL ops f t D=[]/\(f=0\/Region.ready .any ops D=[]))\/∃f' t' i,f=f'+1/\i∈Region.ready .any ops D/\todoL ops f t D=i::todoL ops f' t' (D.setIfInBounds i true):=by
 cases f with
 | zero=>exact .inl ⟨rfl,.inl rfl⟩
 | succ f=>
  have eK:todoL ops (f+1) t D=(match (Region.ready .any ops D)[t % (Region.ready .any ops D).length]? with
   | some i=>Region.linearise.go .any ops f (t / (Region.ready .any ops D).length) (D.setIfInBounds i true) [i]
   | none=>[]):=rfl
  cases hi:(Region.ready .any ops D)[t % (Region.ready .any ops D).length]? with
  | none=>
   left
   rw[eK,hi]
   refine⟨rfl,.inr ?_⟩
   cases hr:Region.ready .any ops D with
   | nil=>rfl
   | cons x xs=>
    rw[hr] at hi
    have hlt:t % (x::xs).length<(x::xs).length:=Nat.mod_lt _ (by simp)
    rw[List.getElem?_eq_getElem hlt] at hi
    cases hi
  | some i=>
   right
   refine⟨f,t / (Region.ready .any ops D).length,i,rfl,List.mem_of_getElem? hi,?_⟩
   rw[eK,hi]
   simp only
   rw[linearise_go_acc]
   rfl
theorem ready_spec {ops:Array Oper} {D:Array Bool} {i:Nat} (h:i∈Region.ready .any ops D):∃o,ops[i]?=some o/\i<D.size/\D.getD i false=false/\∀q,waitsOn o q=true->D.getD q false=true:=by
 unfold Region.ready at h
 rw[List.mem_filter] at h
 obtain⟨h1,h2⟩:=h
 simp only[Bool.and_eq_true,Bool.not_eq_true'] at h2
 obtain⟨h3,h4⟩:=h2
 cases ho:ops[i]? with
 | none=>rw[ho] at h4;simp at h4
 | some o=>
  rw[ho] at h4
  have hlt:i<D.size:=by
   rcases Nat.lt_or_ge i D.size with hl | hl
   ·exact hl
   ·simp[Array.getD,Nat.not_lt.2 hl] at h3
  refine⟨o,rfl,hlt,by simpa [Array.getD,hlt] using h3,fun q hq=>?_⟩
  obtain⟨e,he,hb,rfl⟩:=waitsOn_iff.1 hq
  simp only[Option.map_some,Option.getD_some] at h4
  have:=(Array.all_eq_true_iff_forall_mem.1 h4) e he
  rw[hb] at this
  simpa using this
theorem ready_ex {ops:Array Oper} {D:Array Bool} (aX:Ssa ops.toList) (hsz:D.size=ops.size) {i:Nat} (hi:i<D.size) (hf:D.getD i false=false):Region.ready .any ops D≠[]:=by
 induction i using Nat.strongRecOn with
 | _ i ih=>
  have ho:ops[i]?=some (ops[i]'(by omega)):=Array.getElem?_eq_getElem (by omega)
  by_cases aB:∀q,waitsOn (ops[i]'(by omega)) q=true->D.getD q false=true
  ·intro he
   have hm:i∈Region.ready .any ops D:=by
    unfold Region.ready
    rw[List.mem_filter]
    refine⟨by simp;omega,?_⟩
    simp only[Bool.and_eq_true,Bool.not_eq_true']
    refine⟨by simpa [Array.getD,hi] using hf,?_⟩
    rw[ho]
    simp only[Option.map_some,Option.getD_some]
    rw[Array.all_eq_true_iff_forall_mem]
    intro e hme
    cases hb:Region.binds .any e with
    | false=>rfl
    | true=>rw[aB e.on (waitsOn_iff.2 ⟨e,hme,hb,rfl⟩)];rfl
   rw[he] at hm
   simp at hm
  ·simp only[Classical.not_forall] at aB
   obtain⟨q,hq,dH⟩:=aB
   have hlt:=aX.edge i _ q (by simp) hq
   exact ih q hlt (by omega) (by simpa using dH)
def PQ (E:Env) (ops:List Oper) (n0:Nat) (frA:Fr) (stA:St) (φ:Phi) (ps:List Pend) (i:Nat) (o:Oper):Prop:=
 ∃r,(∀d,o.dst=some d->d<frA.tm.length->nth frA.tm d=r)/\
  ((wants ops frA.tm o=some false/\r=.tup [])\/
   (wants ops frA.tm o=some true/\kindOf o.op=.pure/\pureOp o.op E frA stA=some r/\∃p,pendOf i o.op E frA r=some p/\∀x∈p,x∈ps)\/
   (wants ops frA.tm o=some true/\kindOf o.op=.alloc/\∃ab mk b,allocOp o.op E frA=some (ab,mk)/\r=mk b/\stA[b]?=some ab/\φ b=none/\n0<=b/\Pend.blk i b ab∈ps))
structure DInv (E:Env) (F:Nat->Prop) (ops:List Oper) (φ0:Phi) (st0:St) (w0:World) (kd:CallKind) (ro:Option Nat) (df:List Deferred) (cs:List Frame)
  (lA:List Bool) (ps:List Pend) (frA:Fr) (stA:St) (D:Array Bool) (φ:Phi) (w:World) (tmps:Array Value) (frD:Fr):Prop where
 lenA:lA.length=ops.length
 lenD:D.size=ops.length
 sub:∀i,D.getD i false=true->bit lA i=true
 clA:∀(i:Nat) o,bit lA i=true->ops[i]?=some o->∀q,waitsOn o q=true->bit lA q=true
 sess:Sess E F φ stA w
 ext:Ext0 φ0 st0 w0 φ stA w
 old:∀b,b<st0.length->φ b=φ0 b
 fr:FRel (Bd F φ stA) w φ frD kd ro tmps df cs
 df:frD.df=frA.df
 rc:frD.rc=frA.rc
 ro:frD.ro=frA.ro
 len:frD.tm.length=frA.tm.length
 tm:∀t,(∃(i:Nat) (o:Oper),ops[i]?=some o/\o.dst=some t/\bit lA i=true/\D.getD i false=false)\/nth frD.tm t=nth frA.tm t
 pend:∀(i:Nat) o,ops[i]?=some o->bit lA i=true->D.getD i false=false->PQ E ops st0.length frA stA φ ps i o
 psb:∀i b ab,Pend.blk i b ab∈ps->b<stA.length
 psi:∀i j b ab ab',Pend.blk i b ab∈ps->Pend.blk j b ab'∈ps->i=j
section
variable {E:Env} {F:Nat->Prop} {ops:List Oper} {φ0:Phi} {st0:St} {w0:World} {kd:CallKind} {ro:Option Nat} {df:List Deferred} {cs:List Frame}
 {lA:List Bool} {ps:List Pend} {frA:Fr} {stA:St} {D:Array Bool} {φ:Phi} {w:World} {tmps:Array Value} {frD:Fr}
theorem bit_upd_self {l:List Bool} {i:Nat} (h:i<l.length):bit (upd l i true) i=true:=by
 rw[bit_eq,upd_eq];simp[h]
theorem bit_upd_ne {l:List Bool} {i j:Nat} (h:i≠j):bit (upd l i true) j=bit l j:=by
 rw[bit_eq,bit_eq,upd_eq,List.getElem?_set_ne h]
theorem bit_upd_mono {l:List Bool} {i j:Nat} (h:bit l j=true):bit (upd l i true) j=true:=by
 by_cases e:i=j
 ·subst e
  have:i<l.length:=by
   rcases Nat.lt_or_ge i l.length with hl | hl
   ·exact hl
   ·rw[bit_eq,List.getElem?_eq_none hl] at h;simp at h
  exact bit_upd_self this
 ·rw[bit_upd_ne e];exact h
theorem DInv.agree (hI:DInv E F ops φ0 st0 w0 kd ro df cs lA ps frA stA D φ w tmps frD) (aX:Ssa ops) {i:Nat} {o:Oper} (ho:ops[i]?=some o) (hr:∀q,waitsOn o q=true->D.getD q false=true):
  ∀t∈looks ops o,nth frD.tm t=nth frA.tm t:=by
 intro t ht
 rcases hI.tm t with⟨j,oj,hj,hd,_,hD⟩ | h
 ·have:=hr j (aX.reads i j o oj t ho hj hd ht)
  rw[hD] at this;cases this
 ·exact h
theorem PQ.other {n0:Nat} {i j:Nat} {o oj:Oper} {v:AV} {stA':St} {ps':List Pend} {φ':Phi} (aX:Ssa ops) (hj:ops[j]?=some oj) (ho:ops[i]?=some o) (hne:j≠i) (dB:∀d,o.dst=some d->d∉looks ops oj)
  (h:PQ E ops n0 frA stA φ ps j oj)
  (gy:∀r,kindOf oj.op=.pure->pureOp oj.op E frA stA=some r->(∃p,pendOf j oj.op E frA r=some p/\∀x∈p,x∈ps)->pureOp oj.op E frA stA'=some r/\(∃p,pendOf j oj.op E frA r=some p/\∀x∈p,x∈ps'))
  (fm:∀b ab,stA[b]?=some ab->φ b=none->n0<=b->Pend.blk j b ab∈ps->stA'[b]?=some ab/\φ' b=none/\Pend.blk j b ab∈ps'):
  PQ E ops n0 (put frA o.dst v) stA' φ' ps' j oj:=by
 obtain⟨r,h1,h2⟩:=h
 have hag:∀x∈oj.op.operands,Agr frA (put frA o.dst v) x:=by
  intro x hx t e
  subst e
  exact(put_tm_ne (fun e=>dB t e (mem_looks hx))).symm
 have hw:wants ops (put frA o.dst v).tm oj=wants ops frA.tm oj:=wants_congr (fun t ht=>put_tm_ne (fun e=>dB t e ht))
 refine⟨r,fun d hd hlt=>?_,?_⟩
 ·rw[put_len] at hlt
  rw[put_tm_ne (fun e=>hne (aX.once j i oj o d hj ho hd e))]
  exact h1 d hd hlt
 ·rw[hw]
  rcases h2 with h2 | ⟨h3,h4,h5,h6⟩ | ⟨h3,h4,ab,mk,b,h5,h6,h7,h8,h9,h10⟩
  ·exact .inl h2
  ·obtain⟨q1,p,q2,q3⟩:=gy r h4 h5 h6
   exact .inr (.inl ⟨h3,h4,by rw[<-pureOp_congr hag];exact q1,p,by rw[<-pendOf_congr hag];exact q2,q3⟩)
  ·obtain⟨q1,q2,q3⟩:=fm b ab h7 h8 h9 h10
   exact .inr (.inr ⟨h3,h4,ab,mk,b,by rw[<-allocOp_congr hag];exact h5,h6,q1,q2,h9,q3⟩)
theorem DInv.take (hI:DInv E F ops φ0 st0 w0 kd ro df cs lA ps frA stA D φ w tmps frD) (aX:Ssa ops) {i:Nat} {o:Oper} (ho:ops[i]?=some o) (hb:bit lA i=false) (hr:∀q,waitsOn o q=true->bit lA q=true)
  {v:AV} {p:List Pend} {stA':St} (hst:stA'=stA\/∃ab,stA'=stA++[ab]) (gz:Sess E F φ stA' w) (aV:Ext0 φ stA w φ stA' w)
  (hpq:PQ E ops st0.length (put frA o.dst v) stA' φ (p++ps) i o) (hp:∀j b ab,Pend.blk j b ab∈p->j=i/\b=stA.length/\stA.length<stA'.length):
  DInv E F ops φ0 st0 w0 kd ro df cs (upd lA i true) (p++ps) (put frA o.dst v) stA' D φ w tmps frD:=by
 have dI:i<lA.length:=by rw[hI.lenA];exact lt_of_get ho
 have hDi:D.getD i false=false:=by
  cases hd:D.getD i false with
  | false=>rfl
  | true=>rw[hI.sub i hd] at hb;cases hb
 have dB:∀(j:Nat) oj,ops[j]?=some oj->bit lA j=true->∀d,o.dst=some d->d∉looks ops oj:=by
  intro j oj hj hbj d hd hm
  rw[hI.clA j oj hbj hj i (aX.reads j i oj o d hj ho hd hm)] at hb
  cases hb
 have g:=aV.goes (F:=F)
 refine⟨by rw[upd_eq];simpa using hI.lenA,hI.lenD,fun j hj=>bit_upd_mono (hI.sub j hj),?_,gz,hI.ext.trans aV,hI.old,hI.fr.mono g (fun _ _ h=>h),by rw[(put_rest frA o.dst v).1];exact hI.df,
  by rw[(put_rest frA o.dst v).2.1];exact hI.rc,by rw[(put_rest frA o.dst v).2.2];exact hI.ro,by rw[put_len];exact hI.len,?_,?_,?_,?_⟩
 ·intro j oj hj hoj q hq
  by_cases e:i=j
  ·subst e
   rw[ho] at hoj;cases hoj
   exact bit_upd_mono (hr q hq)
  ·rw[bit_upd_ne e] at hj
   exact bit_upd_mono (hI.clA j oj hj hoj q hq)
 ·intro t
  by_cases e:o.dst=some t
  ·exact .inl ⟨i,o,ho,e,bit_upd_self dI,hDi⟩
  ·rw[put_tm_ne e]
   rcases hI.tm t with⟨j,oj,h1,h2,h3,h4⟩ | h
   ·exact .inl ⟨j,oj,h1,h2,bit_upd_mono h3,h4⟩
   ·exact .inr h
 ·intro j oj hj hbj hDj
  by_cases e:i=j
  ·subst e
   rw[ho] at hj;cases hj
   exact hpq
  ·rw[bit_upd_ne e] at hbj
   refine PQ.other aX hj ho (fun e'=>e e'.symm) (dB j oj hj hbj) (hI.pend j oj hj hbj hDj) (fun r _ hp1 ⟨q,hq1,hq2⟩=>⟨?_,q,hq1,fun x hx=>List.mem_append.2 (.inr (hq2 x hx))⟩)
    (fun b ab hb1 hb2 _ hb3=>⟨?_,hb2,List.mem_append.2 (.inr hb3)⟩)
   ·rcases hst with rfl | ⟨ab,rfl⟩
    ·exact hp1
    ·exact pureOp_append hp1
   ·rcases hst with rfl | ⟨ab',rfl⟩
    ·exact hb1
    ·rw[List.getElem?_append_left (lt_of_get hb1)];exact hb1
 ·intro j b ab hm
  rcases List.mem_append.1 hm with h | h
  ·obtain⟨_,rfl,h2⟩:=hp j b ab h;exact h2
  ·have:=hI.psb j b ab h
   have:=aV.len
   omega
 ·intro j j' b ab ab' h1 h2
  rcases List.mem_append.1 h1 with h1 | h1
  ·obtain⟨rfl,rfl,_⟩:=hp j b ab h1
   rcases List.mem_append.1 h2 with h2 | h2
   ·exact(hp j' _ ab' h2).1.symm
   ·have:=hI.psb j' _ ab' h2;omega
  ·rcases List.mem_append.1 h2 with h2 | h2
   ·obtain⟨rfl,rfl,_⟩:=hp j' b ab' h2
    have:=hI.psb j _ ab h1;omega
   ·exact hI.psi j j' b ab ab' h1 h2
theorem nth_put_dst {frD frA:Fr} {dst:Option Tmp} {r:AV} {t:Nat} (ae:frD.tm.length=frA.tm.length) (hd:dst=some t) (hr:∀d,dst=some d->d<frA.tm.length->nth frA.tm d=r):
  nth (put frD dst r).tm t=nth frA.tm t:=by
 subst hd
 rw[put_tm]
 simp only
 rcases Nat.lt_or_ge t frA.tm.length with hl | hl
 ·rw[nth_upd_self (by omega),hr t rfl hl]
 ·rw[nth_eq,nth_eq,upd_eq,List.getElem?_eq_none (by simp;omega),List.getElem?_eq_none hl]
theorem DInv.run (hI:DInv E F ops φ0 st0 w0 kd ro df cs lA ps frA stA D φ w tmps frD) (aX:Ssa ops) {opsA:Array Oper} (hA:opsA.toList=ops) {i:Nat} (hi:i∈Region.ready .any opsA D) (hb:bit lA i=true)
  (fn:FuncId) (rest:List Nat) (k:List Item):
  ∃φ' w' tmps' frD',DInv E F ops φ0 st0 w0 kd ro df cs lA ps frA stA (D.setIfInBounds i true) φ' w' tmps' frD'/\
   Steps E.P (lone (mkF fn kd ro tmps df (.inRegion opsA (i::rest)::k)) cs w) (lone (mkF fn kd ro tmps' df (.inRegion opsA rest::k)) cs w'):=by
 obtain⟨o,hoA,dI,hDi,hr⟩:=ready_spec hi
 have ho:ops[i]?=some o:=by rw[<-hA];simpa using hoA
 obtain⟨r,hr1,hr2⟩:=hI.pend i o ho hb hDi
 have hag:=hI.agree aX ho hr
 have hop:∀x∈o.op.operands,Agr frD frA x:=by
  intro x hx t e;subst e;exact hag t (mem_looks hx)
 have hw:=wants_congr (ops:=ops) (o:=o) hag
 have close:∀(φ':Phi) (w':World) (u:Value),Sess E F φ' stA w'->Ext0 φ stA w φ' stA w'->(∀b,b<st0.length->φ' b=φ b)->VRel (Bd F φ' stA) w' φ' r u->
   (∀(j:Nat) oj b ab,j≠i->ops[j]?=some oj->φ b=none->Pend.blk j b ab∈ps->φ' b=none)->
   DInv E F ops φ0 st0 w0 kd ro df cs lA ps frA stA (D.setIfInBounds i true) φ' w' (putT tmps o.dst u) (put frD o.dst r):=by
  intro φ' w' u hS hX hold hv gA
  have g:=hX.goes (F:=F)
  refine⟨hI.lenA,by simpa using hI.lenD,fun j hj=>?_,hI.clA,hS,hI.ext.trans hX,fun b hb'=>by rw[hold b hb',hI.old b hb'],(hI.fr.mono g hX.phi).put o.dst hv,
   by rw[(put_rest frD o.dst r).1];exact hI.df,by rw[(put_rest frD o.dst r).2.1];exact hI.rc,by rw[(put_rest frD o.dst r).2.2];exact hI.ro,by rw[put_len];exact hI.len,fun t=>?_,fun j oj hj hbj hDj=>?_,hI.psb,hI.psi⟩
  ·by_cases e:i=j
   ·subst e;exact hb
   ·rw[getD_set_ne false e] at hj;exact hI.sub j hj
  ·by_cases e:o.dst=some t
   ·exact .inr (nth_put_dst hI.len e hr1)
   ·rw[put_tm_ne e]
    rcases hI.tm t with⟨j,oj,h1,h2,h3,h4⟩ | h
    ·refine .inl ⟨j,oj,h1,h2,h3,?_⟩
     have hne:i≠j:=fun e'=>by subst e';rw[ho] at h1;cases h1;exact e h2
     rw[getD_set_ne false hne];exact h4
    ·exact .inr h
  ·have hne:i≠j:=fun e=>by
    subst e
    have:(D.setIfInBounds i true).getD i false=true:=by simp[dI]
    rw[this] at hDj;cases hDj
   rw[getD_set_ne false hne] at hDj
   obtain⟨r',q1,q2⟩:=hI.pend j oj hj hbj hDj
   refine⟨r',q1,?_⟩
   rcases q2 with q2 | q2 | ⟨h3,h4,ab,mk,b,h5,h6,h7,h8,h9,h10⟩
   ·exact .inl q2
   ·exact .inr (.inl q2)
   ·exact .inr (.inr ⟨h3,h4,ab,mk,b,h5,h6,h7,gA j oj b ab (fun e=>hne e.symm) hj h8 h10,h9,h10⟩)
 rcases hr2 with⟨hwf,rfl⟩ | ⟨hwt,hk,hp,_⟩ | ⟨hwt,hk,ab,mk,b,h5,h6,h7,h8,h9,h10⟩
 ·
  have hw':=wants_sound hA hI.fr.tm (by rw[hw];exact hwf)
  exact⟨φ,w,_,_,close φ w undef hI.sess (Ext0.refl _ _ _) (fun _ _=>rfl) VRel.undef (fun _ _ _ _ _ _ h _=>h),.one (st_op_skip hoA hw')⟩
 ·have hnd:∀c,o.op≠.defer c:=by intro c e;rw[e] at hk;simp[kindOf] at hk
  have hw':=wants_sound hA hI.fr.tm (by rw[hw];exact hwt)
  obtain⟨u,h1,h2⟩:=pureOp_sound hI.sess hI.fr.tm (show pureOp o.op E frD stA=some r by rw[pureOp_congr hop];exact hp)
  exact⟨φ,w,_,_,close φ w u hI.sess (Ext0.refl _ _ _) (fun _ _=>rfl) h2 (fun _ _ _ _ _ _ h _=>h),.one (st_op_value hoA hw' (.inr hnd) h1)⟩
 ·have hnd:∀c,o.op≠.defer c:=by intro c e;rw[e] at hk;simp[kindOf] at hk
  have hw':=wants_sound hA hI.fr.tm (by rw[hw];exact hwt)
  obtain⟨hl,obj,u,h1,h2⟩:=allocOp_sound hI.sess hI.fr.tm (show allocOp o.op E frD=some (ab,mk) by rw[allocOp_congr hop];exact h5)
  obtain⟨s1,s2⟩:=hI.sess.realize h7 hl h8 obj (fun B' g=>(h2 b _ B' (phiSet_le h8) (by simp[phiSet]) g).1)
  have hv:=(h2 b (phiSet φ b w.heap.size 0) _ (phiSet_le h8) (by simp[phiSet]) (s2.goes (F:=F))).2
  rw[<-h6] at hv
  refine⟨_,_,_,_,close _ _ u s1 s2 (fun x hx=>by simp[phiSet];omega) hv (fun j oj b' ab' hne hj hb' hm=>?_),.one (st_op_value hoA hw' (.inr hnd) h1)⟩
  have:b'≠b:=fun e=>by subst e;exact hne (hI.psi j i b' ab' ab hm h10)
  simp[phiSet,this,hb']
end
end Go.Proofs.YtnnhofmknilopaaGreatDoor.Gx
namespace Go.Proofs.YtnnhofmknilopaaGreatDoor.Gx
open Go
theorem stable_spec {E:Env} {o:Oper} {st:St}:∀{ps ps':List Pend},stable E o st ps=some ps'->(∀x∈ps',x∈ps)/\∀x∈ps,waitsOn o x.num=true\/(still E st x=true/\x∈ps')
 | [],ps',h=>by simp[stable] at h;subst h;exact⟨fun x hx=>by simp at hx,fun x hx=>by simp at hx⟩
 | p::ps,ps',h=>by
  unfold stable at h
  split at h
  ·cases h
  ·rename_i ps1 h1
   obtain⟨i1,i2⟩:=stable_spec h1
   split at h
   ·rename_i hw
    simp at h;subst h
    refine⟨fun x hx=>by simp[i1 x hx],fun x hx=>?_⟩
    rcases List.mem_cons.1 hx with rfl | hx
    ·exact .inl hw
    ·exact i2 x hx
   ·split at h
    ·rename_i hw hs
     simp at h;subst h
     refine⟨fun x hx=>?_,fun x hx=>?_⟩
     ·rcases List.mem_cons.1 hx with rfl | hx
      ·simp
      ·simp[i1 x hx]
     ·rcases List.mem_cons.1 hx with rfl | hx
      ·exact .inr ⟨hs,by simp⟩
      ·exact(i2 x hx).imp id (fun⟨a,b⟩=>⟨a,by simp[b]⟩)
    ·cases h
theorem forget_len:∀(ops:List Oper) (tm:List AV),(forget ops tm).length=tm.length
 | [],tm=>rfl
 | o::ops,tm=>by
  unfold forget
  split
  ·rw[forget_len ops,upd_eq];simp
  ·exact forget_len ops tm
theorem forget_nth:∀(ops:List Oper) (tm:List AV) (t:Nat),t<tm.length->(nth (forget ops tm) t=.unk)\/(nth (forget ops tm) t=nth tm t/\∀o∈ops,o.dst≠some t)
 | [],tm,t,_=>.inr ⟨rfl,fun o ho=>by simp at ho⟩
 | o::ops,tm,t,ht=>by
  unfold forget
  cases hd:o.dst with
  | none=>
   rcases forget_nth ops tm t ht with h | ⟨h1,h2⟩
   ·exact .inl h
   ·refine .inr ⟨h1,fun x hx=>?_⟩
    rcases List.mem_cons.1 hx with rfl | hx
    ·rw[hd];simp
    ·exact h2 x hx
  | some d=>
   simp only
   rcases forget_nth ops (upd tm d .unk) t (by rw[upd_eq];simpa using ht) with h | ⟨h1,h2⟩
   ·exact .inl h
   ·by_cases e:d=t
    ·subst e
     rw[nth_upd_self ht] at h1
     exact .inl h1
    ·rw[nth_upd_ne e] at h1
     refine .inr ⟨h1,fun x hx=>?_⟩
     rcases List.mem_cons.1 hx with rfl | hx
     ·rw[hd];simp[e]
     ·exact h2 x hx
theorem nth_get {tm:List AV} {t:Nat} {x:AV} (h:tm[t]?=some x):nth tm t=x:=by rw[nth_eq,h];rfl
theorem list_ext_nth {a b:List AV} (hl:a.length=b.length) (h:∀t,nth a t=nth b t):a=b:=by
 apply List.ext_getElem?
 intro i
 rcases Nat.lt_or_ge i a.length with hlt | hge
 ·have h1:=nth_get (List.getElem?_eq_getElem hlt)
  have h2:=nth_get (List.getElem?_eq_getElem (show i<b.length by omega))
  rw[List.getElem?_eq_getElem hlt,List.getElem?_eq_getElem (show i<b.length by omega),<-h1,<-h2,h i]
 ·rw[List.getElem?_eq_none hge,List.getElem?_eq_none (by omega)]
section
variable {E:Env} {F:Nat->Prop} {ops:List Oper} {φ0:Phi} {st0:St} {w0:World} {kd:CallKind} {ro:Option Nat} {df:List Deferred} {cs:List Frame}
 {lA:List Bool} {ps:List Pend} {frA:Fr} {stA:St} {D:Array Bool} {φ:Phi} {w:World} {tmps:Array Value} {frD:Fr}
theorem count_set {D:Array Bool} {i:Nat} (hlt:i<D.size) (hf:D.getD i false=false):(D.setIfInBounds i true).toList.count true=D.toList.count true+1:=by
 have key:∀(l:List Bool) (i:Nat),l[i]?=some false->(l.set i true).count true=l.count true+1:=by
  intro l
  induction l with
  | nil=>intro i h;simp at h
  | cons b l ih=>
   intro i h
   cases i with
   | zero=>simp at h;subst h;simp
   | succ i=>
    simp at h
    simp only[List.set_cons_succ,List.count_cons,ih i h]
    omega
 rw[Array.toList_setIfInBounds]
 refine key _ _ ?_
 simp[Array.getD,hlt] at hf
 simp[hlt,hf]
theorem all_of_count {D:Array Bool} (h:D.toList.count true=D.size) (i:Nat) (hi:i<D.size):D.getD i false=true:=by
 have:∀b∈D.toList,true=b:=List.count_eq_length.1 (by simpa using h)
 have hm:=this D[i] (by simp)
 simp[Array.getD,hi,<-hm]
theorem DInv.done (hI:DInv E F ops φ0 st0 w0 kd ro df cs lA ps frA stA D φ w tmps frD) (aB:∀i,i<D.size->D.getD i false=true):FRel (Bd F φ stA) w φ frA kd ro tmps df cs:=by
 have htm:frD.tm=frA.tm:=list_ext_nth hI.len (fun t=>by
  rcases hI.tm t with⟨i,o,h1,_,_,h4⟩ | h
  ·rw[aB i (by rw[hI.lenD];exact lt_of_get h1)] at h4;cases h4
  ·exact h)
 have:frD=frA:=by
  obtain⟨a,b,c,d⟩:=frD
  obtain⟨a',b',c',d'⟩:=frA
  have h1:=hI.df;have h2:=hI.rc;have h3:=hI.ro
  simp only at htm h1 h2 h3
  subst htm;subst h1;subst h2;subst h3;rfl
 rw[<-this];exact hI.fr
theorem drawn_sound {cal:Cal} (aZ:CalOk E cal) (aX:Ssa ops) {opsA:Array Oper} (hA:opsA.toList=ops) {fn:FuncId} (k:List Item) (tmps0:Array Value):
  ∀(m:Nat) (lA:List Bool) (ps:List Pend) (frA:Fr) (stA:St) (out:OpOut),drawn E cal ops m lA ps frA stA=some out->
  ∀(f t:Nat) (D:Array Bool) (φ:Phi) (w:World) (tmps:Array Value) (frD:Fr),DInv E F ops φ0 st0 w0 kd ro df cs lA ps frA stA D φ w tmps frD->f+D.toList.count true=ops.length->
   OpOk E F φ0 st0 w0 fn kd ro tmps0 df cs (lone (mkF fn kd ro tmps df (.inRegion opsA (todoL opsA f t D)::k)) cs w) k out
 | 0,_,_,_,_,_,h=>by simp[drawn] at h
 | m+1,lA,ps,frA,stA,out,h=>by
  have ih:=drawn_sound (fn:=fn) aZ aX hA k tmps0 m
  unfold drawn at h
  have bw:∀i,lA.length=ops.length->(i∈readyL lA ops lA 0↔∃o,ops[i]?=some o/\bit lA i=false/\∀q,waitsOn o q=true->bit lA q=true):=by
   intro i hl
   rw[mem_readyL hl.symm]
   simp only[Nat.zero_le,true_and,Nat.sub_zero,readyB_iff]
  have skip:∀(i:Nat) (o:Oper),ops[i]?=some o->wants ops frA.tm o=some false->i∈readyL lA ops lA 0->drawn E cal ops m (upd lA i true) ps (put frA o.dst (.tup [])) stA=some out->
    ∀(f t:Nat) (D:Array Bool) (φ:Phi) (w:World) (tmps:Array Value) (frD:Fr),DInv E F ops φ0 st0 w0 kd ro df cs lA ps frA stA D φ w tmps frD->f+D.toList.count true=ops.length->
     OpOk E F φ0 st0 w0 fn kd ro tmps0 df cs (lone (mkF fn kd ro tmps df (.inRegion opsA (todoL opsA f t D)::k)) cs w) k out:=by
   intro i o ho hw hi h f t D φ w tmps frD hI hf
   obtain⟨o',ho',hb,hr⟩:=(bw i hI.lenA).1 hi
   rw[ho] at ho';cases ho'
   have hlk:∀t∈looks ops o,nth (put frA o.dst (.tup [])).tm t=nth frA.tm t:=by
    intro t ht
    refine put_tm_ne (fun e=>?_)
    have:=aX.edge i o i ho (aX.reads i i o o t ho ho e ht)
    omega
   have hI':=hI.take aX ho hb hr (v:=.tup []) (p:=[]) (.inl rfl) hI.sess (Ext0.refl _ _ _)
    ⟨.tup [],fun d hd hlt=>by rw[put_len] at hlt;rw[put_tm,hd];exact nth_upd_self hlt,.inl ⟨by rw[wants_congr hlk];exact hw,rfl⟩⟩ (fun j b ab hm=>by simp at hm)
   exact ih _ _ _ _ _ h f t D φ w tmps frD hI' hf
  split at h
  ·
   rename_i i o hq
   obtain⟨hi,ho,hk⟩:=firstQ_some hq
   split at h
   ·rename_i hw
    exact skip i o ho hw hi h
   ·rename_i hw
    split at h
    ·rename_i v p st' hqo
     intro f t D φ w tmps frD hI hf
     obtain⟨o',ho',hb,hr⟩:=(bw i hI.lenA).1 hi
     rw[ho] at ho';cases ho'
     have hlk:∀t∈looks ops o,nth (put frA o.dst v).tm t=nth frA.tm t:=by
      intro t ht
      refine put_tm_ne (fun e=>?_)
      have:=aX.edge i o i ho (aX.reads i i o o t ho ho e ht)
      omega
     have hag:∀x∈o.op.operands,Agr frA (put frA o.dst v) x:=by
      intro x hx t e;subst e;exact(hlk t (mem_looks hx)).symm
     have cM:∀d,o.dst=some d->d<(put frA o.dst v).tm.length->nth (put frA o.dst v).tm d=v:=by
      intro d hd hlt;rw[put_len] at hlt;rw[put_tm,hd];exact nth_upd_self hlt
     unfold quietOp at hqo
     split at hqo
     ·rename_i hkp
      split at hqo
      ·rename_i v' hv
       split at hqo
       ·rename_i p' hp
        simp at hqo;obtain⟨rfl,rfl,rfl⟩:=hqo
        have hI':=hI.take aX ho hb hr (v:=v') (p:=p') (.inl rfl) hI.sess (Ext0.refl _ _ _)
         ⟨v',cM,.inr (.inl ⟨by rw[wants_congr hlk];exact hw,hkp,by rw[<-pureOp_congr hag];exact hv,p',by rw[<-pendOf_congr hag];exact hp,fun x hx=>List.mem_append.2 (.inl hx)⟩)⟩
         (fun j b ab hm=>by
           exfalso
           cases hop:o.op<;>rw[hop] at hp<;>simp only[pendOf] at hp<;>first
            | (simp at hp;subst hp;simp at hm;done)
            | (split at hp<;>simp at hp<;>subst hp<;>simp at hm;done)
            | skip
           all_goals (simp only[pendCall] at hp;split at hp<;>simp at hp<;>subst hp<;>simp at hm))
        exact ih _ _ _ _ _ h f t D φ w tmps frD hI' hf
       ·cases hqo
      ·cases hqo
     ·rename_i hka
      split at hqo
      ·rename_i ab mk hal
       simp at hqo;obtain⟨rfl,rfl,rfl⟩:=hqo
       obtain⟨g1,g2⟩:=hI.sess.ghost ab
       have hI':=hI.take aX ho hb hr (v:=mk stA.length) (p:=[.blk i stA.length ab]) (.inr ⟨ab,rfl⟩) g1 g2.toExt0
        ⟨mk stA.length,cM,.inr (.inr ⟨by rw[wants_congr hlk];exact hw,hka,ab,mk,stA.length,by rw[<-allocOp_congr hag];exact hal,rfl,by simp,hI.sess.fresh (Nat.le_refl _),hI.ext.len,by simp⟩)⟩
        (fun j b ab' hm=>by simp at hm;exact⟨hm.1,hm.2.1,by simp⟩)
       exact ih _ _ _ _ _ h f t D φ w tmps frD hI' hf
      ·cases hqo
     ·cases hqo
    ·cases h
   ·cases h
  ·rename_i hq
   split at h
   ·
    rename_i hr0
    split at h
    ·simp at h;subst h
     intro f
     induction f with
     | zero=>
      intro t D φ w tmps frD hI hf
      have aB:=all_of_count (D:=D) (by have:=hI.lenD;omega)
      refine⟨φ,w,tmps,df,cs,hI.sess,⟨hI.ext,hI.old⟩,hI.done aB,.refl _ _,.one ?_⟩
      exact st_region_end
     | succ f ihf=>
      intro t D φ w tmps frD hI hf
      rcases todoL_cases opsA (f+1) t D with⟨h1,h2⟩ | ⟨f',t',i,h1,h2,h3⟩
      ·have aB:∀i,i<D.size->D.getD i false=true:=by
        intro i hi
        cases hd:D.getD i false with
        | true=>rfl
        | false=>
         rcases h2 with h2 | h2
         ·omega
         ·exact absurd h2 (ready_ex (by rw[hA];exact aX) (by rw[hI.lenD,<-hA];simp) hi hd)
       rw[h1]
       exact⟨φ,w,tmps,df,cs,hI.sess,⟨hI.ext,hI.old⟩,hI.done aB,.refl _ _,.one st_region_end⟩
      ·obtain rfl:f'=f:=by omega
       obtain⟨o,hoA,dI,hDi,hr⟩:=ready_spec h2
       have ho:ops[i]?=some o:=by rw[<-hA];simpa using hoA
       have hb:bit lA i=true:=by
        cases hb:bit lA i with
        | true=>rfl
        | false=>
         have:=(bw i hI.lenA).2 ⟨o,ho,hb,fun q hq=>hI.sub q (hr q hq)⟩
         rw[hr0] at this;simp at this
       obtain⟨φ',w',tmps',frD',hI',hs⟩:=hI.run aX hA h2 hb fn (todoL opsA f' t' (D.setIfInBounds i true)) k
       rw[h3]
       have:=ihf t' _ φ' w' tmps' frD' hI' (by rw[count_set dI hDi];omega)
       exact OpOk.of_steps hs (Ext.refl _ _ _) (.refl _ _) this
    ·cases h
   ·
    rename_i i hr1
    rw[get?_eq] at h
    split at h
    ·cases h
    ·rename_i o ho
     split at h
     ·rename_i hw
      exact skip i o ho hw (by rw[hr1];simp) h
     ·rename_i hw
      intro f
      induction f with
      | zero=>
       intro t D φ w tmps frD hI hf
       have aB:=all_of_count (D:=D) (by have:=hI.lenD;omega)
       obtain⟨o',ho',hb,_⟩:=(bw i hI.lenA).1 (by rw[hr1];simp)
       have:=hI.sub i (aB i (by rw[hI.lenD];exact lt_of_get ho))
       rw[hb] at this;cases this
      | succ f ihf=>
       intro t D φ w tmps frD hI hf
       obtain⟨o',ho',hbi,_⟩:=(bw i hI.lenA).1 (by rw[hr1];simp)
       rw[ho] at ho';cases ho'
       have ir:D.getD i false=false:=by
        cases hd:D.getD i false with
        | false=>rfl
        | true=>rw[hI.sub i hd] at hbi;cases hbi
       rcases todoL_cases opsA (f+1) t D with⟨h1,h2⟩ | ⟨f',t',j,h1,h2,h3⟩
       ·rcases h2 with h2 | h2
        ·omega
        ·exact absurd h2 (ready_ex (by rw[hA];exact aX) (by rw[hI.lenD,<-hA];simp) (by rw[hI.lenD];exact lt_of_get ho) ir)
       ·obtain rfl:f'=f:=by omega
        obtain⟨oj,fo,fp,hDj,hrj⟩:=ready_spec h2
        have hoj:ops[j]?=some oj:=by rw[<-hA];simpa using fo
        cases hbj:bit lA j with
        | true=>
         obtain⟨φ',w',tmps',frD',hI',hs⟩:=hI.run aX hA h2 hbj fn (todoL opsA f' t' (D.setIfInBounds j true)) k
         rw[h3]
         have:=ihf t' _ φ' w' tmps' frD' hI' (by rw[count_set fp hDj];omega)
         exact OpOk.of_steps hs (Ext.refl _ _ _) (.refl _ _) this
        | false=>
         have hij:j=i:=by
          have:=(bw j hI.lenA).2 ⟨oj,hoj,hbj,fun q hq=>hI.sub q (hrj q hq)⟩
          rw[hr1] at this;simpa using this
         subst hij
         rw[ho] at hoj;cases hoj
         have hag:=hI.agree aX ho hrj
         have hop:∀x∈o.op.operands,Agr frD frA x:=by
          intro x hx t e;subst e;exact hag t (mem_looks hx)
         have hwA:=wants_sound hA hI.fr.tm (show wants ops frD.tm o=some true by rw[wants_congr hag];exact hw)
         rw[h3]
         split at h
         ·rename_i v st' he
          split at h
          ·rename_i ps' gB
           have he':effOp o.op E cal frD stA=some (.val v st'):=by rw[effOp_congr hop];exact he
           obtain⟨φ',w',u,s1,s2,s3,s4⟩:=effOp_sound aZ hI.sess hI.fr.tm he' fn kd ro df k cs opsA j (todoL opsA f' t' (D.setIfInBounds j true)) fo hwA
           obtain⟨p1,p2⟩:=stable_spec gB
           have g:=s2.toExt0.goes (F:=F)
           have hjl:j<lA.length:=by rw[hI.lenA];exact lt_of_get ho
           have hI':DInv E F ops φ0 st0 w0 kd ro df cs (upd lA j true) ps' (put frA o.dst v) st' (D.setIfInBounds j true) φ' w' (putT tmps o.dst u) (put frD o.dst v):=by
            refine⟨by rw[upd_eq];simpa using hI.lenA,by simpa using hI.lenD,fun x hx=>?_,fun x ox hx hox q hq=>?_,s1,hI.ext.trans s2.toExt0,
             fun b hb=>by rw[s2.old b (Nat.lt_of_lt_of_le hb hI.ext.len),hI.old b hb],(hI.fr.mono g s2.phi).put o.dst s3,
             by rw[(put_rest frD o.dst v).1,(put_rest frA o.dst v).1];exact hI.df,by rw[(put_rest frD o.dst v).2.1,(put_rest frA o.dst v).2.1];exact hI.rc,
             by rw[(put_rest frD o.dst v).2.2,(put_rest frA o.dst v).2.2];exact hI.ro,by rw[put_len,put_len];exact hI.len,fun t=>?_,fun x ox hox hbx hDx=>?_,
             fun a b ab hm=>Nat.lt_of_lt_of_le (hI.psb a b ab (p1 _ hm)) s2.len,fun a a' b ab ab' h1 h2=>hI.psi a a' b ab ab' (p1 _ h1) (p1 _ h2)⟩
            ·by_cases e:j=x
             ·subst e;exact bit_upd_self hjl
             ·rw[getD_set_ne false e] at hx;exact bit_upd_mono (hI.sub x hx)
            ·by_cases e:j=x
             ·subst e
              rw[ho] at hox;cases hox
              exact bit_upd_mono (hI.sub q (hrj q hq))
             ·rw[bit_upd_ne e] at hx
              exact bit_upd_mono (hI.clA x ox hx hox q hq)
            ·by_cases e:o.dst=some t
             ·right
              rw[put_tm,put_tm,e]
              simp only
              rcases Nat.lt_or_ge t frA.tm.length with hl | hl
              ·rw[nth_upd_self hl,nth_upd_self (by rw[hI.len];exact hl)]
              ·rw[nth_eq,nth_eq,upd_eq,upd_eq,List.getElem?_eq_none (by rw[List.length_set,hI.len];exact hl),List.getElem?_eq_none (by rw[List.length_set];exact hl)]
             ·rw[put_tm_ne e,put_tm_ne e]
              rcases hI.tm t with⟨x,ox,h1,h2,h3,h4⟩ | h
              ·have hne:j≠x:=fun e'=>by subst e';rw[hbj] at h3;cases h3
               exact .inl ⟨x,ox,h1,h2,bit_upd_mono h3,by rw[getD_set_ne false hne];exact h4⟩
              ·exact .inr h
            ·have hne:j≠x:=fun e=>by
              subst e
              have:(D.setIfInBounds j true).getD j false=true:=by simp[fp]
              rw[this] at hDx;cases hDx
             rw[bit_upd_ne hne] at hbx
             rw[getD_set_ne false hne] at hDx
             have hnw:waitsOn o x=false:=by
              cases hwx:waitsOn o x with
              | false=>rfl
              | true=>rw[hrj x hwx] at hDx;cases hDx
             refine PQ.other aX hox ho (fun e=>hne e.symm) (fun d hd hm=>?_) (hI.pend x ox hox hbx hDx) (fun r hk hp1 ⟨p,hp2,hp3⟩=>?_) (fun b ab hb1 hb2 hb3 hm=>?_)
             ·have:=hI.clA x ox hbx hox j (aX.reads x j ox o d hox ho hd hm)
              rw[hbj] at this;cases this
             ·
              have shape:p=[]\/(∃t a av,ox.op=.load t a/\ev E frA a=some av/\p=[.load x t av r])\/p=[.busy x]:=by
               cases iu:ox.op<;>rw[iu] at hp2<;>simp only[pendOf] at hp2<;>first
                | (simp at hp2;exact .inl hp2)
                | skip
               ·rename_i t a
                split at hp2
                ·rename_i av hav
                 simp at hp2
                 exact .inr (.inl ⟨t,a,av,rfl,hav,hp2.symm⟩)
                ·cases hp2
               ·simp at hp2;exact .inr (.inr hp2.symm)
               ·simp only[pendCall] at hp2
                split at hp2
                ·simp at hp2;exact .inr (.inr hp2.symm)
                ·simp at hp2;exact .inl hp2
                ·cases hp2
              rcases shape with rfl | ⟨t,a,av,e1,e2,rfl⟩ | rfl
              ·exact⟨pureOp_any hp1 hp2,[],hp2,fun y hy=>by simp at hy⟩
              ·have cN:=hp3 _ (List.mem_singleton.2 rfl)
               rcases p2 _ cN with hh | ⟨hh,hh2⟩
               ·simp only[Pend.num] at hh;rw[hnw] at hh;cases hh
               ·simp only[still] at hh
                split at hh
                ·rename_i u' hu'
                 have:=avEq_eq _ _ hh
                 subst this
                 refine⟨?_,_,hp2,fun y hy=>by simp at hy;subst hy;exact hh2⟩
                 rw[e1]
                 simp only[pureOp,loadF,e2]
                 exact hu'
                ·cases hh
              ·have cN:=hp3 _ (List.mem_singleton.2 rfl)
               rcases p2 _ cN with hh | ⟨hh,_⟩
               ·simp only[Pend.num] at hh;rw[hnw] at hh;cases hh
               ·simp[still] at hh
             ·
              rcases p2 _ hm with hh | ⟨hh,hh2⟩
              ·simp only[Pend.num] at hh;rw[hnw] at hh;cases hh
              ·simp only[still,get?_eq] at hh
               split at hh
               ·rename_i ab' hab
                have:=abSame_eq hh
                subst this
                exact⟨hab,by rw[s2.old b (lt_of_get hb1)];exact hb2,hh2⟩
               ·cases hh
           have:=ih _ _ _ _ _ h f' t' _ φ' w' _ _ hI' (by rw[count_set fp hDj];omega)
           exact OpOk.of_steps s4 (Ext.refl _ _ _) (.refl _ _) this
          ·cases h
         ·rename_i ch st' he
          simp at h;subst h
          have he':effOp o.op E cal frD stA=some (.pan ch st'):=by rw[effOp_congr hop];exact he
          obtain⟨φ',w',chain,s1,s2,s3,s4⟩:=effOp_sound aZ hI.sess hI.fr.tm he' fn kd ro df k cs opsA j (todoL opsA f' t' (D.setIfInBounds j true)) fo hwA
          refine⟨φ',w',tmps,df,cs,chain,_,s1,⟨hI.ext.trans s2.toExt0,fun b hb=>by rw[s2.old b (Nat.lt_of_lt_of_le hb hI.ext.len),hI.old b hb]⟩,?_,.refl _ _,s3,s4⟩
          have hF':=hI.fr.mono s2.toExt0.goes s2.phi
          obtain⟨tmA,dfA,rcA,roA⟩:=frA
          obtain⟨tmD,dfD,rcD,roD⟩:=frD
          have e1:=hI.df;have e2:=hI.rc;have e3:=hI.ro
          simp only at e1 e2 e3
          subst e1;subst e2;subst e3
          refine⟨⟨?_,fun x y u' hy hu'=>?_⟩,hF'.df,hF'.rc,hF'.ro⟩
          ·simp only[forgetF];rw[forget_len];have h1:=hF'.tm.1;have h2:=hI.len;simp only at h1 h2;omega
          ·simp only[forgetF] at hy
           have hlt:x<tmA.length:=by have:=lt_of_get hy;rwa [forget_len] at this
           rcases forget_nth ops tmA x hlt with hf1 | ⟨hf1,hf2⟩
           ·rw[nth_get hy] at hf1;subst hf1;exact .unk _
           ·rw[nth_get hy] at hf1
            have hD:nth tmD x=nth tmA x:=by
             rcases hI.tm x with⟨z,oz,h1,h2,_,_⟩ | h
             ·exact absurd h2 (hf2 oz (List.mem_of_getElem? h1))
             ·exact h
            have gC:x<tmD.length:=by have:=hI.len;simp only at this;omega
            have:=hF'.tm.2 x _ u' (List.getElem?_eq_getElem gC) hu'
            rw[<-nth_get (List.getElem?_eq_getElem gC),hD,<-hf1] at this
            exact this
         ·cases h
     ·cases h
   ·cases h
end
end Go.Proofs.YtnnhofmknilopaaGreatDoor.Gx
namespace Go.Proofs.YtnnhofmknilopaaGreatDoor.Gx
open Go
def Arr (P:Program) (m:Machine) (fn:FuncId) (kd:CallKind) (ro:Option Nat) (tmps:Array Value) (df:List Deferred) (cs:List Frame) (B:Nat->Prop) (w:World) (φ:Phi) (k:List Item):Ex->Prop
 | .normal=>Steps P m (lone (mkF fn kd ro tmps df k) cs w)
 | .exit id=>∃k0,exitTo id k0=exitTo id k/\Steps P m (lone (mkF fn kd ro tmps df (.code (.exit id)::k0)) cs w)
 | .ret=>∃k0,Steps P m (lone (mkF fn kd ro tmps df (.code .ret::k0)) cs w)
 | .pan ch=>∃chain k0,All2 (PRelC B w φ) ch chain/\Steps P m (lone { mkF fn kd ro tmps df k0 with mode:=.panicking chain } cs w)
def ExOk (E:Env) (F:Nat->Prop) (φ:Phi) (st:St) (w:World) (fn:FuncId) (kd:CallKind) (ro:Option Nat) (cs:List Frame) (m:Machine) (k:List Item) (r:Ex × Fr × St):Prop:=
 ∃φ' w' tmps' df' cs',Sess E F φ' r.2.2 w'/\Ext φ st w φ' r.2.2 w'/\FRel (Bd F φ' r.2.2) w' φ' r.2.1 kd ro tmps' df' cs'/\CsLike kd cs cs'/\
  Arr E.P m fn kd ro tmps' df' cs' (Bd F φ' r.2.2) w' φ' k r.1
section
variable {E:Env} {F:Nat->Prop} {φ:Phi} {st:St} {w:World}
theorem OpOk.ex {fn:FuncId} {kd:CallKind} {ro:Option Nat} {tmps:Array Value} {df:List Deferred} {cs:List Frame} {m:Machine} {k:List Item} {out:Option OpOut} {r:Ex × Fr × St} (hr:outEx out=some r)
  (h:∀o,out=some o->OpOk E F φ st w fn kd ro tmps df cs m k o):ExOk E F φ st w fn kd ro cs m k r:=by
 cases out with
 | none=>simp[outEx] at hr
 | some o=>
  have h:=h o rfl
  cases o with
  | ok fr' st'=>
   simp[outEx] at hr;subst hr
   obtain⟨φ',w',tmps',df',cs',h1,h2,h3,h4,h5⟩:=h
   exact⟨φ',w',tmps',df',cs',h1,h2,h3,h4,h5⟩
  | pan ch fr' st'=>
   simp[outEx] at hr;subst hr
   obtain⟨φ',w',tmps',df',cs',chain,todo',h1,h2,h3,h4,h5,h6⟩:=h
   exact⟨φ',w',tmps',df',cs',h1,h2,h3,h4,chain,todo',h5,h6⟩
theorem ExOk.of_steps {fn:FuncId} {kd:CallKind} {ro:Option Nat} {cs cs':List Frame} {m m':Machine} {k:List Item} {φ':Phi} {st':St} {w':World} {r:Ex × Fr × St}
  (hs:Steps E.P m m') (he:Ext φ st w φ' st' w') (hc:CsLike kd cs cs') (h:ExOk E F φ' st' w' fn kd ro cs' m' k r):ExOk E F φ st w fn kd ro cs m k r:=by
 obtain⟨φ2,w2,tmps2,df2,cs2,h1,h2,h3,h4,h5⟩:=h
 refine⟨φ2,w2,tmps2,df2,cs2,h1,he.trans h2,h3,hc.trans h4,?_⟩
 obtain⟨ex,fr,st2⟩:=r
 cases ex with
 | normal=>exact hs.trans h5
 | exit id=>obtain⟨k0,e,h⟩:=h5;exact⟨k0,e,hs.trans h⟩
 | ret=>obtain⟨k0,h⟩:=h5;exact⟨k0,hs.trans h⟩
 | pan ch=>obtain⟨chain,k0,e,h⟩:=h5;exact⟨chain,k0,e,hs.trans h⟩
theorem bit_replicate:∀(n i:Nat),bit (List.replicate n false) i=false
 | 0,_i=>rfl
 | _n+1,0=>rfl
 | n+1,i+1=>bit_replicate n i
theorem DInv.start (hS:Sess E F φ st w) {ops:List Oper} {kd:CallKind} {ro:Option Nat} {tmps:Array Value} {df:List Deferred} {cs:List Frame} {fr:Fr} (hF:FRel (Bd F φ st) w φ fr kd ro tmps df cs):
  DInv E F ops φ st w kd ro df cs (List.replicate ops.length false) [] fr st (Array.replicate ops.length false) φ w tmps fr where
 lenA:=by simp
 lenD:=by simp
 sub:=fun i h=>by
  rcases Nat.lt_or_ge i ops.length with hl | hl<;>simp[Array.getD,hl] at h
 clA:=fun i o h=>by rw[bit_replicate] at h;cases h
 sess:=hS
 ext:=Ext0.refl _ _ _
 old:=fun _ _=>rfl
 fr:=hF
 df:=rfl
 rc:=rfl
 ro:=rfl
 len:=rfl
 tm:=fun _=>.inr rfl
 pend:=fun i o _ h=>by rw[bit_replicate] at h;cases h
 psb:=fun i b ab h=>by simp at h
 psi:=fun i j b ab ab' h=>by simp at h
theorem region_sound {R:Rn} (aZ:CalOk E (callV E R)) (iv:E.P.follows .mixedOrders=true) (hS:Sess E F φ st w) {fn:FuncId} {kd:CallKind} {ro:Option Nat} {tmps:Array Value} {df:List Deferred} {cs:List Frame} {fr:Fr}
  (hF:FRel (Bd F φ st) w φ fr kd ro tmps df cs) {id:Nat} {ops:Array Oper} {draw:Bool} {r:Ex × Fr × St} (h:region E R ops.toList draw fr st=some r) (k:List Item):
  ExOk E F φ st w fn kd ro cs (lone (mkF fn kd ro tmps df (.code (.region id ops draw)::k)) cs w) k r:=by
 unfold region at h
 cases draw with
 | false=>
  simp only[Bool.false_eq_true,if_false] at h
  refine ExOk.of_steps (.one st_region) (Ext.refl _ _ _) (.refl _ _) (OpOk.ex (tmps:=tmps) (df:=df) h fun o ho=>?_)
  have:=evalOps_sound aZ (fn:=fn) (opsA:=ops) rfl k ops.toList 0 (by simp) hS hF ho
  rw[List.range_eq_range']
  simpa using this
 | true=>
  simp only[if_true] at h
  split at h
  ·rename_i aX
   obtain⟨hS',hE'⟩:=hS.same_heap (w':={ w with drawn:=w.drawn+1 }) rfl ⟨rfl,rfl,rfl⟩
   refine ExOk.of_steps (.one st_region_draw) hE' (.refl _ _) (OpOk.ex (tmps:=tmps) (df:=df) h fun o ho=>?_)
   have hF':=hF.mono (hE'.goes (F:=F)) hE'.phi
   have:=drawn_sound (fn:=fn) aZ (ssa_spec aX) (opsA:=ops) rfl k tmps _ _ _ _ _ _ ho ops.size (w.tape w.drawn (.order fn id)) _ _ _ _ _ (DInv.start hS' hF') (by simp[List.count_replicate])
   have he:Region.schedule (E.P.follows .mixedOrders) ops (w.tape w.drawn (.order fn id))=todoL ops ops.size (w.tape w.drawn (.order fn id)) (Array.replicate ops.toList.length false):=by
    rw[iv];simp[Region.schedule,Region.linearise,todoL]
   rw[he]
   exact this
  ·cases h
end
end Go.Proofs.YtnnhofmknilopaaGreatDoor.Gx
