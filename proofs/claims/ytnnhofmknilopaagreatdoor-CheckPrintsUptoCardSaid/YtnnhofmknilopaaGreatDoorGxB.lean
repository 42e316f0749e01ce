import Derived.Test.YtnnhofmknilopaaGreatDoorGxA
import Derived.Laws.Sem
import Derived.Laws.Strings
namespace Go.Proofs.YtnnhofmknilopaaGreatDoor.Gx
open Go
section
variable {P:Program} {w:World}
theorem run_und {t:TypeId} {d:TypeDesc} (h:P.underlying t=some d):(underlying t).run P w=.ok d w:=by simp[underlying,h]
theorem run_info {t:TypeId} {i:TypeInfo} (h:P.info? t=some i):(typeInfo t).run P w=.ok i w:=by simp[typeInfo,h]
theorem run_size {t:TypeId} {n:Nat} (h:szOf P t=some n):(sizeOf t).run P w=.ok n w:=by
 unfold szOf at h;simp at h;obtain⟨i,h1,rfl⟩:=h;simp[sizeOf,run_info h1]
theorem run_agg {t:TypeId} {b:Bool} (h:aggT P t=some b):(isAgg t).run P w=.ok b w:=by
 unfold aggT at h
 cases hu:P.underlying t with
 | none=>simp[hu] at h
 | some d=>rw[hu] at h;cases d<;>simp at h<;>subst h<;>simp[isAgg,run_und hu]
theorem zeroT_some {t:TypeId} {z:AV} (h:zeroT P t=some z):∃i v,P.info? t=some i/\i.zero=some v/\ofV v=some z:=by
 unfold zeroT at h
 simp[Option.bind_eq_some_iff] at h
 obtain⟨v,⟨i,h1,h2⟩,h3⟩:=h
 exact⟨i,v,h1,h2,h3⟩
theorem run_zero {t:TypeId} {z:AV} (h:zeroT P t=some z):∃v,(zeroValue t).run P w=.ok v w/\ofV v=some z:=by
 obtain⟨i,v,h1,h2,h3⟩:=zeroT_some h
 exact⟨v,by simp[zeroValue,run_info h1,h2],h3⟩
end
def Row (w:World) (cb o:Nat) (us:List Value):Prop:=∀(j:Nat) u,us[j]?=some u->w.cell? ⟨cb,o+j,none⟩=some u
theorem Row.drop {w:World} {cb o:Nat} {us:List Value} (h:Row w cb o us) (n:Nat):Row w cb (o+n) (us.drop n):=by
 intro j u hj
 have:=h (n+j) u (by simpa using hj)
 rwa [<-Nat.add_assoc] at this
theorem Row.take {w:World} {cb o:Nat} {us:List Value} (h:Row w cb o us) (n:Nat):Row w cb o (us.take n):=by
 intro j u hj
 rw[List.getElem?_take] at hj
 split at hj
 ·exact h j u hj
 ·cases hj
theorem addr_add (cb o n:Nat):(⟨cb,o,none⟩:Addr).add n=⟨cb,o+n,none⟩:=by
 unfold Addr.add;split
 ·rename_i h;subst h;rfl
 ·rfl
theorem run_loadCellsFrom {P:Program} {w:World} {cb o:Nat}:∀(us:List Value) (i:Nat) (acc:Array Value),Row w cb (o+i) us->
  (loadCellsFrom ⟨cb,o,none⟩ i us.length acc).run P w=.ok (acc++us.toArray) w
 | [],i,acc,_=>by simp[loadCellsFrom]
 | u::us,i,acc,h=>by
  have h0:=h 0 u rfl
  simp only[Nat.add_zero] at h0
  have h1:Row w cb (o+(i+1)) us:=by
   have:=h.drop 1
   simpa [Nat.add_assoc] using this
  simp[loadCellsFrom,addr_add,h0,run_loadCellsFrom us (i+1) (acc.push u) h1]
theorem run_loadCells {P:Program} {w:World} {cb o:Nat} {us:List Value} (h:Row w cb o us):
  (loadCells ⟨cb,o,none⟩ us.length).run P w=.ok us.toArray w:=by
 have:=run_loadCellsFrom (P:=P) us 0 #[] (o:=o) (by simpa using h)
 simpa [loadCells] using this
theorem pick_row {B:Nat->Prop} {w:World} {φ:Phi}:∀(cs:List AV) (X:Nat->Value->Prop),(∀(j:Nat) c,cs[j]?=some c->∃v,X j v/\VRel B w φ c v)->
  ∃us:List Value,us.length=cs.length/\(∀(j:Nat) u,us[j]?=some u->X j u)/\LRel B w φ cs us
 | [],X,_=>⟨[],rfl,fun j u h=>by simp at h,.nil⟩
 | c::cs,X,h=>by
  obtain⟨v,hx,hv⟩:=h 0 c rfl
  obtain⟨us,h1,h2,h3⟩:=pick_row cs (fun j=>X (j+1)) (fun j c hj=>h (j+1) c (by simpa using hj))
  refine⟨v::us,by simp[h1],fun j u hj=>?_,.cons hv h3⟩
  cases j with
  | zero=>simp at hj;subst hj;exact hx
  | succ j=>simp at hj;exact h2 j u hj
theorem VRel.weak {B:Nat->Prop} {w:World} {v:AV} {u:Value} (h:VRel B w phi0 v u) (φ:Phi):VRel B w φ v u:=
 h.mono ⟨fun _ _ hb=>⟨hb,rfl⟩,Nat.le_refl _,fun _ c _ _ h=>⟨c,h,rfl⟩⟩ (fun _ _ h=>by simp[phi0] at h)
theorem LRel.weak {B:Nat->Prop} {w:World} {l:List AV} {us:List Value} (h:LRel B w phi0 l us) (φ:Phi):LRel B w φ l us:=
 ⟨h.1,fun j x v hx hv=>(h.2 j x v hx hv).weak φ⟩
theorem cell_of_cells {w:World} {cb o:Nat} {cells:Array Value} {t:TypeId} {fz:Nat × Nat} (h:w.heap[cb]?=some (.cells cells t fz)):w.cell? ⟨cb,o,none⟩=cells[o]?:=by
 simp[World.cell?,h]
section
variable {E:Env} {F:Nat->Prop} {φ:Phi} {st:St} {w:World}
theorem cellsAt_sound (hS:Sess E F φ st w) {a:AV} {u:Value} {cs:List AV} (h:cellsAt st a=some cs) (hv:VRel (Bd F φ st) w φ a u):
  ∃cb o us,u=.pointer (some ⟨cb,o,none⟩)/\LRel (Bd F φ st) w φ cs us/\Row w cb o us:=by
 cases hv with
 | ptr hp=>
  rename_i b off cb co
  simp only[cellsAt,get?_eq] at h
  split at h
  ·rename_i cs0 hb
   simp at h;subst h
   obtain⟨cells,t,h1,h2⟩:=hS.blk b _ cb co hb hp
   obtain⟨us,e1,e2,e3⟩:=pick_row (B:=Bd F φ st) (w:=w) (φ:=φ) cs0 (fun j v=>cells[co+j]?=some v) h2
   have hr:Row w cb co us:=fun j u hj=>by rw[cell_of_cells h1];exact e2 j u hj
   refine⟨cb,co+off,us.drop off,rfl,?_,hr.drop off⟩
   rw[dropN_eq];exact e3.drop off
  ·rename_i cs0 hb
   simp at h;subst h
   obtain⟨_,cells,t,fz,h1,h2⟩:=hS.blk b _ cb co hb hp
   obtain⟨us,e1,e2,e3⟩:=pick_row (B:=Bd F φ st) (w:=w) (φ:=phi0) cs0 (fun j v=>cells[co+j]?=some v) h2
   have hr:Row w cb co us:=fun j u hj=>by rw[cell_of_cells h1];exact e2 j u hj
   refine⟨cb,co+off,us.drop off,rfl,?_,hr.drop off⟩
   rw[dropN_eq];exact(e3.weak φ).drop off
  ·cases h
 | iptr vs hb hl hc hv=>
  rename_i cs0 cb o
  simp[cellsAt] at h;subst h
  obtain⟨us,e1,e2,e3⟩:=pick_row (B:=Bd F φ st) (w:=w) (φ:=phi0) cs0 (fun j v=>w.cell? ⟨cb,o+j,none⟩=some v) (fun j c hj=>⟨vs j,hc j c hj,hv j c hj⟩)
  exact⟨cb,o,us,rfl,e3.weak φ,e2⟩
 | _=>simp[cellsAt] at h
theorem loadE_sound (hS:Sess E F φ st w) {t:TypeId} {a v:AV} {u:Value} (h:loadE E.P st t a=some v) (ha:VRel (Bd F φ st) w φ a u):
  ∃x,(Instr.loadAt t u).run E.P w=.ok x w/\VRel (Bd F φ st) w φ v x:=by
 unfold loadE at h
 split at h
 ·rename_i cs h1 h2
  obtain⟨cb,o,us,rfl,hL,hR⟩:=cellsAt_sound hS h1 ha
  split at h
  ·rename_i n hn
   simp at h
   obtain⟨r,hr,rfl⟩:=h
   obtain⟨e1,e2⟩:=takeN_some _ _ _ hr
   have ae:(us.take n).length=n:=by
    rw[<-(hL.take n).1,<-e1,e2]
   refine⟨.agg (us.take n).toArray,?_,VRel.of_list (e1 ▸ hL.take n)⟩
   have:=run_loadCells (P:=E.P) (hR.take n)
   rw[ae] at this
   simp[Instr.loadAt,Instr.sureAddr,loadVar,run_agg h2,run_size hn,this]
  ·cases h
 ·rename_i c cs h1 h2
  simp at h;subst h
  obtain⟨cb,o,us,rfl,hL,hR⟩:=cellsAt_sound hS h1 ha
  obtain⟨x,us',rfl,hx,_⟩:=hL.inv_cons
  have:=hR 0 x rfl
  simp only[Nat.add_zero] at this
  exact⟨x,by simp[Instr.loadAt,Instr.sureAddr,loadVar,run_agg h2,this],hx⟩
 ·cases h
def evalT (tmps:Array Value):Operand->Value
 | .tmp t=>tmps.getD t undef
 | .const v=>v
 | .global g=>.pointer (some ⟨g,0,none⟩)
 | .func f=>.func (.func f) #[] #[]
theorem nth_sound {B:Nat->Prop} {tm:List AV} {tmps:Array Value} (h:LRel B w φ tm tmps.toList) (t:Nat):VRel B w φ (nth tm t) (tmps.getD t undef):=by
 rw[nth_eq]
 rcases Nat.lt_or_ge t tm.length with hl | hl
 ·have hl':t<tmps.size:=by have:=h.1;simp at this;omega
  have e1:tm[t]?=some tm[t]:=List.getElem?_eq_getElem hl
  have e2:tmps.toList[t]?=some tmps[t]:=by simp[hl']
  have:=h.2 t _ _ e1 e2
  simpa [e1,hl',Array.getD] using this
 ·have hl':tmps.size<=t:=by have:=h.1;simp at this;omega
  have e2:tmps.getD t undef=undef:=by simp[Array.getD,Nat.not_lt.2 hl']
  simp[List.getElem?_eq_none hl,e2]
  exact VRel.undef
theorem ev_sound (hS:Sess E F φ st w) {fr:Fr} {tmps:Array Value} (hT:LRel (Bd F φ st) w φ fr.tm tmps.toList) {x:Operand} {v:AV} (h:ev E fr x=some v):
  VRel (Bd F φ st) w φ v (evalT tmps x):=by
 cases x with
 | tmp t=>simp[ev] at h;subst h;exact nth_sound hT t
 | const c=>exact ofV_rel h
 | global g=>
  simp[ev] at h
  obtain⟨cs,h1,rfl⟩:=h
  exact(hS.glob g cs h1).weak φ
 | func f=>simp[ev] at h;subst h;exact .func rfl rfl (fun j x v h=>by simp at h) (fun j x v h=>by simp at h)
theorem evs_sound (hS:Sess E F φ st w) {fr:Fr} {tmps:Array Value} (hT:LRel (Bd F φ st) w φ fr.tm tmps.toList):∀{xs:List Operand} {vs:List AV},evs E fr xs=some vs->
  LRel (Bd F φ st) w φ vs (xs.map (evalT tmps))
 | [],vs,h=>by simp[evs] at h;subst h;exact .nil
 | x::xs,vs,h=>by
  unfold evs at h
  split at h
  ·rename_i v vs' h1 h2
   simp at h;subst h
   exact .cons (ev_sound hS hT h1) (evs_sound hS hT h2)
  ·cases h
def PRel (B:Nat->Prop) (w:World) (φ:Phi) (l:List (Nat × AV)) (us:List (Nat × Value)):Prop:=
 l.map (·.1)=us.map (·.1)/\LRel B w φ (l.map (·.2)) (us.map (·.2))
theorem evp_sound (hS:Sess E F φ st w) {fr:Fr} {tmps:Array Value} (hT:LRel (Bd F φ st) w φ fr.tm tmps.toList):∀{xs:List (Nat × Operand)} {vs:List (Nat × AV)},evp E fr xs=some vs->
  PRel (Bd F φ st) w φ vs (xs.map fun(i,x)=>(i,evalT tmps x))
 | [],vs,h=>by simp[evp] at h;subst h;exact⟨rfl,.nil⟩
 | (i,x)::xs,vs,h=>by
  unfold evp at h
  split at h
  ·rename_i v vs' h1 h2
   simp at h;subst h
   have:=evp_sound hS hT h2
   exact⟨by simp;simpa using this.1,.cons (ev_sound hS hT h1) this.2⟩
  ·cases h
theorem iptr_at {B:Nat->Prop} {cs:List AV} {cb o n:Nat} {vs:Nat->Value} (hb:¬B cb) (hl:cb<w.heap.size)
  (hc:∀(j:Nat) c,cs[j]?=some c->w.cell? ⟨cb,o+j,none⟩=some (vs j)) (hv:∀(j:Nat) c,cs[j]?=some c->VRel B w phi0 c (vs j)):
  VRel B w φ (.iptr (dropN cs n)) (.pointer (some ⟨cb,o+n,none⟩)):=by
 rw[dropN_eq]
 refine .iptr (fun j=>vs (n+j)) hb hl (fun j c hj=>?_) (fun j c hj=>hv _ c (by simpa using hj))
 rw[Nat.add_assoc]
 exact hc _ c (by simpa using hj)
theorem fieldAddrE_sound {B:Nat->Prop} {t:TypeId} {f:Nat} {a v:AV} {u:Value} (h:fieldAddrE E.P t a f=some v) (ha:VRel B w φ a u):
  ∃x,(Instr.fieldAt t u f).run E.P w=.ok x w/\VRel B w φ v x:=by
 unfold fieldAddrE at h
 split at h
 ·rename_i o ft hf
  unfold fieldOf at hf
  split at hf
  ·rename_i fs hu
   simp at hf
   obtain⟨fld,eJ,rfl,rfl⟩:=hf
   split at h
   ·rename_i n b off hn
    simp at h;subst h
    cases ha with
    | ptr hp=>
     rename_i cb co
     exact⟨.pointer (some ⟨cb,co+off+fld.offset,none⟩),by simp[Instr.fieldAt,run_und hu,eJ,Instr.sureAddr,fieldPlace,run_size hn,addr_add],by rw[Nat.add_assoc];exact .ptr hp⟩
   ·rename_i n cs hn
    simp at h;subst h
    cases ha with
    | iptr vs hb hl hc hv=>
     rename_i cb o
     exact⟨.pointer (some ⟨cb,o+fld.offset,none⟩),by simp[Instr.fieldAt,run_und hu,eJ,Instr.sureAddr,fieldPlace,run_size hn,addr_add],iptr_at hb hl hc hv⟩
   ·cases h
  ·cases hf
 ·cases h
theorem idx_some {i:AV} {len n:Nat} (h:idx i len=some n):∃k,i=.int k n/\n<len:=by
 unfold idx at h
 split at h
 ·rename_i k m
  split at h
  ·rename_i hb
   simp at h;subst h
   exact⟨k,rfl,by simpa [Nat.blt_eq] using hb⟩
  ·cases h
 ·cases h
theorem indexAddrE_sound {B:Nat->Prop} {t:TypeId} {x i v:AV} {ux ui:Value} (h:indexAddrE E.P t x i=some v) (hx:VRel B w φ x ux) (hi:VRel B w φ i ui):
  ∃r,(Instr.indexAt t ux ui).run E.P w=.ok r w/\VRel B w φ v r:=by
 unfold indexAddrE at h
 split at h
 ·rename_i e hu
  split at h
  ·rename_i s b off len cap hs
   simp at h
   obtain⟨n,hn,rfl⟩:=h
   obtain⟨k,rfl,hlt⟩:=idx_some hn
   cases hi
   cases hx with
   | sl hp ho hl hxx hg=>
    rename_i cb co o ccap
    have ho':o=co+off:=ho.resolve_left (by omega)
    subst ho'
    have h1:(0:Int)<=(n:Int)/\(n:Int)<(len:Int):=by omega
    exact⟨.pointer (some ⟨cb,co+off+n*s,none⟩),by simp[Instr.indexAt,asIntOf,run_und hu,hlt,run_size hs,addr_add],by rw[Nat.add_assoc];exact .ptr hp⟩
  ·rename_i s len cs cap hs
   split at h
   ·rename_i n hn
    split at h
    ·cases h
    ·rename_i c cs' hd
     simp at h;subst h
     obtain⟨k,rfl,hlt⟩:=idx_some hn
     cases hi
     cases hx with
     | isl vs hxx hl hb hc hv=>
      rename_i a ccap
      have hne:cs≠[]:=fun e=>by subst e;simp[dropN_eq] at hd
      obtain⟨hb1,hb2⟩:=hb hne
      obtain⟨ab,ao,asp⟩:=a
      simp only at hb1 hb2 hc
      subst hb2
      have io:ab<w.heap.size:=by
       cases cs with
       | nil=>exact absurd rfl hne
       | cons c0 _=>exact lt_of_cell? (hc 0 c0 rfl)
      refine⟨.pointer (some ⟨ab,ao+n*s,none⟩),by simp[Instr.indexAt,asIntOf,run_und hu,hlt,run_size hs,addr_add],?_⟩
      rw[<-hd]
      exact iptr_at hb1 io hc hv
   ·cases h
  ·cases h
 ·rename_i len e hu
  split at h
  ·rename_i s b off hs
   simp at h
   obtain⟨n,hn,rfl⟩:=h
   obtain⟨k,rfl,hlt⟩:=idx_some hn
   cases hi
   cases hx with
   | ptr hp=>
    rename_i cb co
    exact⟨.pointer (some ⟨cb,co+off+n*s,none⟩),by simp[Instr.indexAt,asIntOf,run_und hu,Instr.sureAddr,hlt,run_size hs,addr_add],by rw[Nat.add_assoc];exact .ptr hp⟩
  ·rename_i s cs hs
   simp at h
   obtain⟨n,hn,rfl⟩:=h
   obtain⟨k,rfl,hlt⟩:=idx_some hn
   cases hi
   cases hx with
   | iptr vs hb hl hc hv=>
    rename_i cb o
    exact⟨.pointer (some ⟨cb,o+n*s,none⟩),by simp[Instr.indexAt,asIntOf,run_und hu,Instr.sureAddr,hlt,run_size hs,addr_add],iptr_at hb hl hc hv⟩
  ·cases h
 ·cases h
end
end Go.Proofs.YtnnhofmknilopaaGreatDoor.Gx
namespace Go.Proofs.YtnnhofmknilopaaGreatDoor.Gx
open Go
section
variable {E:Env} {F:Nat->Prop} {φ:Phi} {st:St} {w:World} {B:Nat->Prop}
theorem partE_sound {t:TypeId} {cs:List AV} {off:Nat} {v:AV} {us:Array Value} (h:partE E.P t cs off=some v) (hl:LRel B w φ cs us.toList):
  ∃r,(part t us off).run E.P w=.ok r w/\VRel B w φ v r:=by
 unfold partE at h
 split at h
 ·rename_i ha
  split at h
  ·rename_i n hn
   simp at h
   obtain⟨r,hr,rfl⟩:=h
   obtain⟨e1,e2⟩:=takeN_some _ _ _ hr
   rw[dropN_eq] at e1
   refine⟨.agg (us.extract off (off+n)),by simp[part,run_agg ha,run_size hn],?_⟩
   have:=VRel.of_list ((hl.drop off).take n)
   rw[<-e1] at this
   have e3:((us.toList.drop off).take n).toArray=us.extract off (off+n):=by
    apply Array.ext'
    simp[Array.toList_extract,List.extract_eq_take_drop]
   rwa [e3] at this
  ·cases h
 ·rename_i ha
  rw[get?_eq] at h
  have ae:=hl.1
  have hlt:=lt_of_get h
  have aF:off<us.size:=by simp at ae;omega
  have e1:us.toList[off]?=some us[off]:=by simp[aF]
  have h2:us[off]?=some us[off]:=by simp[aF]
  exact⟨us[off],by simp[part,run_agg ha,h2],hl.2 off v _ h e1⟩
 ·cases h
theorem agg_list {cs:List AV} {u:Value} (h:VRel B w φ (.agg cs) u):∃us:Array Value,u=.agg us/\LRel B w φ cs us.toList:=by
 cases h with
 | agg hl hv=>exact⟨_,rfl,by simpa using hl,fun j x v hx hv'=>hv j x v hx (by simpa using hv')⟩
theorem tup_list {cs:List AV} {u:Value} (h:VRel B w φ (.tup cs) u):∃us:Array Value,u=.tuple us/\LRel B w φ cs us.toList:=by
 cases h with
 | tup hl hv=>exact⟨_,rfl,by simpa using hl,fun j x v hx hv'=>hv j x v hx (by simpa using hv')⟩
theorem fieldE_sound {t:TypeId} {f:Nat} {a v:AV} {u:Value} (h:fieldE E.P t a f=some v) (ha:VRel B w φ a u):
  ∃r,(Instr.field t u f).run E.P w=.ok r w/\VRel B w φ v r:=by
 unfold fieldE at h
 split at h
 ·rename_i o ft cs hf
  unfold fieldOf at hf
  split at hf
  ·rename_i fs hu
   simp at hf
   obtain⟨fld,eJ,rfl,rfl⟩:=hf
   obtain⟨us,rfl,hl⟩:=agg_list ha
   obtain⟨r,h1,h2⟩:=partE_sound h hl
   exact⟨r,by simp[Instr.field,run_und hu,eJ,asAgg,h1],h2⟩
  ·cases hf
 ·cases h
theorem indexE_sound {t:TypeId} {x i v:AV} {ux ui:Value} (h:indexE E.P t x i=some v) (hx:VRel B w φ x ux) (hi:VRel B w φ i ui):
  ∃r,(Instr.index t ux ui).run E.P w=.ok r w/\VRel B w φ v r:=by
 unfold indexE at h
 split at h
 ·rename_i len e cs hu
  split at h
  ·rename_i s n hs hn
   obtain⟨k,rfl,hlt⟩:=idx_some hn
   cases hi
   obtain⟨us,rfl,hl⟩:=agg_list hx
   obtain⟨r,h1,h2⟩:=partE_sound h hl
   exact⟨r,by simp[Instr.index,asIntOf,run_und hu,hlt,run_size hs,h1],h2⟩
  ·cases h
 ·rename_i s hu
  split at h
  ·rename_i k n
   cases hi
   cases hx
   simp at h
   obtain⟨b,hb,rfl⟩:=h
   rw[get?_eq] at hb
   have hlt:=lt_of_get hb
   have h1:(⟨s.toArray⟩:ByteArray)[n]?=some b:=by
    have h2:n<(⟨s.toArray⟩:ByteArray).size:=by simpa [ByteArray.size] using hlt
    rw[getElem?_pos (⟨s.toArray⟩:ByteArray) n h2]
    have:s[n]=b:=by simpa [List.getElem?_eq_getElem hlt] using hb
    simp[<-this,ByteArray.getElem_eq_getElem_data]
   exact⟨.int .u8 b.toNat,by simp[Instr.index,asIntOf,run_und hu,h1],.int _ _⟩
  ·cases h
 ·cases h
theorem bnd_some {x:Option AV} {d y n:Nat} (h:bnd x d y=some n):(x=none/\n=d)\/(∃k,x=some (.int k n)/\n<=y):=by
 unfold bnd at h
 split at h
 ·simp at h;exact .inl ⟨rfl,h.symm⟩
 ·rename_i k m
  split at h
  ·rename_i hb
   simp at h;subst h
   exact .inr ⟨k,rfl,by simpa using hb⟩
  ·cases h
 ·cases h
def ORl (B:Nat->Prop) (w:World) (φ:Phi) (x:Option AV) (u:Option Value):Prop:=
 match x,u with
 | none,none=>True
 | some x,some u=>VRel B w φ x u
 | _,_=>False
theorem ORl.int {k:IntKind} {n:Int} {u:Option Value} (h:ORl B w φ (some (.int k n)) u):u=some (.int k n):=by
 cases u with
 | none=>exact h.elim
 | some u=>have h:VRel B w φ (.int k n) u:=h;cases h;rfl
theorem ORl.none {u:Option Value} (h:ORl B w φ none u):u=none:=by
 cases u with
 | none=>rfl
 | some u=>exact h.elim
theorem run_bound {P:Program} {w:World} {k:IntKind} {n y:Nat} (c:BoundsCode) (h:n<=y):(Instr.sliceBound (.int k n) y c).run P w=.ok n w:=by
 simp[Instr.sliceBound,asIntOf,h]
theorem sliceB_sound {len:Nat} {cap:Option Nat} {ccap:Nat} {lo hi mx:Option AV} {l h:Nat} {m:Option Nat} {ulo uhi umx:Option Value} (isS:Bool)
  (hx:∀c,cap=some c->ccap=c) (ae:len<=ccap) (hs:sliceB len cap lo hi mx=some (l,h,m))
  (h1:ORl B w φ lo ulo) (h2:ORl B w φ hi uhi) (h3:ORl B w φ mx umx):
  ∃cm,(Instr.sliceBounds isS len ccap ulo uhi umx).run E.P w=.ok (l,h,cm) w/\l<=h/\h<=cm/\cm<=ccap/\(∀c,m=some c->cm - l=c)/\(m=none->cm=ccap/\h<=len):=by
 unfold sliceB at hs
 have hcl:∀n,n<=cap.getD len->n<=ccap:=by
  intro n hn
  cases cap with
  | none=>simp at hn;omega
  | some c=>simp at hn;have:=hx c rfl;omega
 cases mx with
 | none=>
  have e3:=h3.none;subst e3
  simp only[sliceLH] at hs
  split at hs
  ·cases hs
  ·rename_i h' hh
   split at hs
   ·cases hs
   ·rename_i l' hl'
    simp at hs
    obtain⟨rfl,rfl,rfl⟩:=hs
    have hhi:(∃x,(match uhi,(none:Option Value) with
      | some v,some _=>Instr.sliceBound v ccap .slice3B
      | some v,none=>Instr.sliceBound v ccap (if isS then .sliceAcap else .sliceAlen)
      | none,none=>pure len
      | none,some _=>stuck x:Sem Nat).run E.P w=.ok h' w)/\h'<=ccap/\(cap=none->h'<=len):=by
     rcases bnd_some hh with⟨rfl,rfl⟩ | ⟨k,rfl,hle⟩
     ·have e2:=h2.none;subst e2
      exact⟨⟨ "",by simp⟩,ae,fun _=>Nat.le_refl _⟩
     ·have e2:=h2.int;subst e2
      exact⟨⟨ "",by simp[run_bound _ (hcl _ hle)]⟩,hcl _ hle,fun e=>by subst e;simpa using hle⟩
    obtain⟨⟨_,hr1⟩,gp,db⟩:=hhi
    rcases bnd_some hl' with⟨rfl,rfl⟩ | ⟨k,rfl,hle⟩
    ·have e1:=h1.none;subst e1
     refine⟨ccap,?_,by omega,gp,Nat.le_refl _,?_,?_⟩
     ·cases uhi with
      | none=>simp[Instr.sliceBounds] at hr1 ⊢;exact hr1
      | some v=>simp[Instr.sliceBounds] at hr1 ⊢;rw[hr1];rfl
     ·intro c hc;simp only[Option.map_eq_some_iff] at hc;obtain⟨c',hc',rfl⟩:=hc;rw[hx c' hc']
     ·intro hn;simp at hn;exact⟨rfl,db hn⟩
    ·have e1:=h1.int;subst e1
     refine⟨ccap,?_,hle,gp,Nat.le_refl _,?_,?_⟩
     ·cases uhi with
      | none=>simp[Instr.sliceBounds] at hr1 ⊢;subst hr1;simp[run_bound _ hle]
      | some v=>simp[Instr.sliceBounds] at hr1 ⊢;rw[hr1];simp[run_bound _ hle]
     ·intro c hc;simp at hc;obtain⟨c',hc',rfl⟩:=hc;rw[hx c' hc']
     ·intro hn;simp at hn;exact⟨rfl,db hn⟩
 | some mv=>
  simp only at hs
  split at hs
  ·rename_i hv mm hm1
   rcases bnd_some hm1 with⟨e,_⟩ | ⟨k,e,hle⟩
   ·cases e
   ·simp at e;subst e
    have e3:=h3.int;subst e3
    have hm2:=hcl _ hle
    unfold sliceLH at hs
    split at hs
    ·cases hs
    ·rename_i h' hh
     split at hs
     ·cases hs
     ·rename_i l' hl'
      simp at hs
      obtain⟨rfl,rfl,rfl⟩:=hs
      simp at hh
      rcases bnd_some hh with⟨e,_⟩ | ⟨k2,e,db⟩
      ·cases e
      ·simp at e;subst e
       have e2:=h2.int;subst e2
       rcases bnd_some hl' with⟨rfl,rfl⟩ | ⟨k3,rfl,gt⟩
       ·have e1:=h1.none;subst e1
        refine⟨mm,?_,by omega,db,hm2,by simp,by simp⟩
        simp[Instr.sliceBounds,run_bound _ hm2,run_bound _ db]
       ·have e1:=h1.int;subst e1
        refine⟨mm,?_,gt,db,hm2,by simp,by simp⟩
        simp[Instr.sliceBounds,run_bound _ hm2,run_bound _ db,run_bound _ gt]
  ·cases hs
theorem sl_slice {b off s l h len cb co o ccap cm:Nat} {cap':Cap} (hp:φ b=some (cb,co)) (ho:ccap=0\/o=co+off) (_hl:len<=ccap)
  (h1:l<=h) (h2:h<=cm) (h3:cm<=ccap) (hx:∀c,cap'=.ex c->cm - l=c)
  (hg:∀sz,cap'=.gr sz->sz=s/\cm=ccap/\(ccap=0\/∃cells t fz,w.heap[cb]?=some (.cells cells t fz)/\co+off+ccap*s<=cells.size)):
  VRel B w φ (.sl b (off+l*s) (h - l) cap') (.slice (some (if cm=l then⟨cb,o,none⟩ else(⟨cb,o,none⟩:Addr).add (l*s))) (h - l) (cm - l)):=by
 by_cases e:cm=l
 ·rw[if_pos e]
  exact .sl hp (.inl (by omega)) (by omega) hx (fun sz _=>.inl (by omega))
 ·rw[if_neg e,addr_add]
  have ho':o=co+off:=ho.resolve_left (by omega)
  refine .sl hp (.inr (by omega)) (by omega) hx (fun sz e'=>?_)
  obtain⟨rfl,rfl,hh⟩:=hg sz e'
  rcases hh with hh | ⟨cells,t,fz,e1,e2⟩
  ·exact .inl (by omega)
  ·refine .inr ⟨cells,t,fz,e1,?_⟩
   have:(cm - l)*sz+l*sz=cm*sz:=by rw[<-Nat.add_mul];congr 1;omega
   omega
theorem isl_slice {s l h ccap cm:Nat} {cs:List AV} {cap':Option Nat} {a:Addr} {vs:Nat->Value}
  (h1:l<=h) (h2:h<=cm) (_h3:cm<=ccap) (hx:∀c,cap'=some c->cm - l=c)
  (hb:cs≠[]->¬B a.block/\a.spot=none) (hc:∀(j:Nat) c,cs[j]?=some c->w.cell? ⟨a.block,a.off+j,none⟩=some (vs j))
  (hv:∀(j:Nat) c,cs[j]?=some c->VRel B w phi0 c (vs j)):
  VRel B w φ (.isl (h - l) (if h - l=0 then [] else dropN cs (l*s)) cap') (.slice (some (if cm=l then a else a.add (l*s))) (h - l) (cm - l)):=by
 by_cases e:h - l=0
 ·rw[if_pos e]
  exact .isl (fun _=>.nilIface) hx (by omega) (fun e=>absurd rfl e) (fun j c hj=>by simp at hj) (fun j c hj=>by simp at hj)
 ·rw[if_neg e,if_neg (by omega),dropN_eq]
  by_cases hne:cs.drop (l*s)=[]
  ·rw[hne]
   exact .isl (fun _=>.nilIface) hx (by omega) (fun e=>absurd rfl e) (fun j c hj=>by simp at hj) (fun j c hj=>by simp at hj)
  ·have hcs:cs≠[]:=fun e=>by subst e;simp at hne
   obtain⟨hb1,hb2⟩:=hb hcs
   obtain⟨ab,ao,asp⟩:=a
   simp only at hb1 hb2 hc
   subst hb2
   rw[addr_add]
   refine .isl (fun j=>vs (l*s+j)) hx (by omega) (fun _=>⟨hb1,rfl⟩) (fun j c hj=>?_) (fun j c hj=>hv _ c (by simpa using hj))
   simp only[Nat.add_assoc]
   exact hc _ c (by simpa using hj)
theorem sliceE_sound {t:TypeId} {x v:AV} {lo hi mx:Option AV} {ux:Value} {ulo uhi umx:Option Value} (h:sliceE E.P t x lo hi mx=some v) (hx:VRel B w φ x ux)
  (h1:ORl B w φ lo ulo) (h2:ORl B w φ hi uhi) (h3:ORl B w φ mx umx):
  ∃r,(Instr.sliceAt t ux ulo uhi umx).run E.P w=.ok r w/\VRel B w φ v r:=by
 unfold sliceE at h
 split at h
 ·rename_i s hu
  cases hx
  unfold sliceStr at h
  split at h
  ·cases h
  ·have e3:=h3.none;subst e3
   split at h
   ·rename_i hh hhe
    simp at h
    obtain⟨ll,hll,rfl⟩:=h
    have hsb:sliceB s.length (some s.length) lo hi none=some (ll,hh,some (s.length - ll)):=by
     simp[sliceB,sliceLH,hhe,hll]
    obtain⟨cm,hr,q1,q2,q3,_,_⟩:=sliceB_sound (E:=E) (B:=B) (w:=w) (φ:=φ) false (ccap:=s.length) (by simp) (Nat.le_refl _) hsb h1 h2 h3
    refine⟨.string ((⟨s.toArray⟩:ByteArray).extract ll hh),?_,?_⟩
    ·have hsz:(⟨s.toArray⟩:ByteArray).size=s.length:=by simp[ByteArray.size]
     simp[Instr.sliceAt,run_und hu,Instr.slice,hsz,hr]
    ·have:(⟨s.toArray⟩:ByteArray).extract ll hh=⟨((s.drop ll).take (hh - ll)).toArray⟩:=by
      have e1:((⟨s.toArray⟩:ByteArray).extract ll hh).data=((s.drop ll).take (hh - ll)).toArray:=by
       apply Array.ext'
       simp[ByteArray.data_extract,List.extract_eq_take_drop]
      generalize (⟨s.toArray⟩:ByteArray).extract ll hh=z at e1
      cases z
      simp at e1
      simp[e1]
     rw[this]
     exact .str _
   ·cases h
 ·rename_i e b off len cap hu
  cases hx with
  | sl hp ho hl hxx hg=>
   rename_i cb co o ccap
   have hcx:∀c,capOpt cap=some c->ccap=c:=by
    intro c hc
    cases cap with
    | ex c'=>simp[capOpt] at hc;subst hc;exact hxx _ rfl
    | gr z=>simp[capOpt] at hc
   split at h
   ·rename_i s l hh c hs hb
    simp at h;subst h
    obtain⟨cm,hr,q1,q2,q3,q4,_⟩:=sliceB_sound (E:=E) true hcx hl hb h1 h2 h3
    exact⟨_,by simp[Instr.sliceAt,run_und hu,Instr.slice,hr,run_size hs];split<;>rfl,sl_slice hp ho hl q1 q2 q3 (fun c' e=>by cases e;exact q4 c rfl) (fun sz e=>by cases e)⟩
   ·rename_i s l hh hs hb
    split at h
    ·rename_i z
     split at h
     ·rename_i hz
      subst hz
      simp at h;subst h
      obtain⟨cm,hr,q1,q2,q3,_,q5⟩:=sliceB_sound (E:=E) true hcx hl hb h1 h2 h3
      exact⟨_,by simp[Instr.sliceAt,run_und hu,Instr.slice,hr,run_size hs];split<;>rfl,
       sl_slice hp ho hl q1 q2 q3 (fun c' e=>by cases e) (fun sz e=>by cases e;exact⟨rfl,(q5 rfl).1,hg _ rfl⟩)⟩
     ·cases h
    ·cases h
   ·cases h
 ·rename_i e len cs cap hu
  cases hx with
  | isl vs hxx hl hb hc hv=>
   rename_i a ccap
   split at h
   ·rename_i s l hh m hs hsb
    simp at h;subst h
    obtain⟨cm,hr,q1,q2,q3,q4,_⟩:=sliceB_sound (E:=E) true hxx hl hsb h1 h2 h3
    exact⟨_,by simp[Instr.sliceAt,run_und hu,Instr.slice,hr,run_size hs];split<;>rfl,isl_slice q1 q2 q3 q4 hb hc hv⟩
   ·cases h
 ·rename_i e hu
  cases hx
  split at h
  ·rename_i s x hs hsb
   obtain⟨l,hh,m⟩:=x
   simp at h;subst h
   obtain⟨cm,hr,q1,q2,q3,_,_⟩:=sliceB_sound (E:=E) (B:=B) (w:=w) (φ:=φ) true (ccap:=0) (by simp) (Nat.le_refl _) hsb h1 h2 h3
   obtain rfl:cm=0:=by omega
   obtain rfl:hh=0:=by omega
   obtain rfl:l=0:=by omega
   exact⟨.slice none 0 0,by simp[Instr.sliceAt,run_und hu,Instr.slice,hr,run_size hs],.nilsl⟩
  ·cases h
 ·rename_i n e b off hu
  cases hx with
  | ptr hp=>
   rename_i cb co
   split at h
   ·rename_i s l hh c hs hb
    simp at h;subst h
    obtain⟨cm,hr,q1,q2,q3,q4,_⟩:=sliceB_sound (E:=E) (B:=B) (w:=w) (φ:=φ) false (ccap:=n) (by simp) (Nat.le_refl _) hb h1 h2 h3
    exact⟨_,by simp[Instr.sliceAt,run_und hu,Instr.sureAddr,hr,run_size hs],
     sl_slice (len:=n) hp (.inr rfl) (Nat.le_refl _) q1 q2 q3 (fun c' e=>by cases e;exact q4 c rfl) (fun sz e=>by cases e)⟩
   ·cases h
 ·rename_i n e cs hu
  cases hx with
  | iptr vs hb hl hc hv=>
   rename_i cb o
   split at h
   ·rename_i s l hh c hs hsb
    simp at h;subst h
    obtain⟨cm,hr,q1,q2,q3,q4,_⟩:=sliceB_sound (E:=E) (B:=B) (w:=w) (φ:=φ) false (ccap:=n) (by simp) (Nat.le_refl _) hsb h1 h2 h3
    exact⟨_,by simp[Instr.sliceAt,run_und hu,Instr.sureAddr,hr,run_size hs],
     isl_slice (a:=⟨cb,o,none⟩) q1 q2 q3 (fun c' e=>by cases e;exact q4 c rfl) (fun _=>⟨hb,rfl⟩) hc hv⟩
   ·cases h
 ·cases h
end
end Go.Proofs.YtnnhofmknilopaaGreatDoor.Gx
namespace Go.Proofs.YtnnhofmknilopaaGreatDoor.Gx
open Go
section
variable {E:Env} {F:Nat->Prop} {φ:Phi} {st:St} {w:World} {B:Nat->Prop}
theorem setAll_sound (off:Nat):∀{vs:List AV} {us:List Value} {cs:List AV} {cells:Array Value} (i:Nat),LRel B w φ vs us->LRel B w φ cs cells.toList->
  LRel B w φ (setAll cs (off+i) vs) ((us.zipIdx i).foldl (fun cs (x:Value × Nat)=>cs.setIfInBounds (off+x.2) x.1) cells).toList
 | [],us,cs,cells,i,h,hc=>by rw[h.inv_nil];simpa [setAll] using hc
 | x::vs,us,cs,cells,i,h,hc=>by
  obtain⟨u,us',rfl,h1,h2⟩:=h.inv_cons
  simp only[setAll,List.zipIdx_cons,List.foldl_cons]
  have h3:LRel B w φ (upd cs (off+i) x) (cells.setIfInBounds (off+i) u).toList:=by
   rw[upd_eq,Array.toList_setIfInBounds]
   exact hc.set (off+i) h1
  have:=setAll_sound off (i+1) h2 h3
  rwa [<-Nat.add_assoc] at this
theorem fillE_sound {place:Nat->Option (Nat × Nat)}:∀{parts:List (Nat × AV)} {uparts:List (Nat × Value)} {cs r:List AV} {cells:Array Value},fillE place cs parts=some r->
  PRel B w φ parts uparts->LRel B w φ cs cells.toList->∃res,Instr.fill place cells uparts=some res/\LRel B w φ r res.toList
 | [],uparts,cs,r,cells,h,hp,hc=>by
  have:uparts=[]:=by have:=hp.1;simp at this;exact this
  subst this
  simp[fillE] at h;subst h
  exact⟨cells,rfl,hc⟩
 | (i,v)::parts,uparts,cs,r,cells,h,hp,hc=>by
  cases uparts with
  | nil=>have:=hp.1;simp at this
  | cons p us=>
   obtain⟨j,u⟩:=p
   have e1:=hp.1
   simp at e1
   obtain⟨rfl,e2⟩:=e1
   have hp2:=hp.2
   simp only[List.map_cons] at hp2
   obtain⟨h1,h2⟩:=hp2.of_cons
   unfold fillE at h
   split at h
   ·cases h
   ·rename_i off size hpl
    split at h
    ·rename_i au
     simp at au
     obtain⟨⟨c1,c2⟩,c3⟩:=au
     have bm:=h1.cells (ne_unk (by simpa using c3))
     have ae:u.cells.size=size:=by have:=bm.1;simp at this;omega
     have hlc:cells.size=cs.length:=by have:=hc.1;simp at this;omega
     have h3:LRel B w φ (setAll cs off (cellsOf v)) ((u.cells.toList.zipIdx 0).foldl (fun cs (x:Value × Nat)=>cs.setIfInBounds (off+x.2) x.1) cells).toList:=
      setAll_sound off 0 bm hc
     obtain⟨res,h4,h5⟩:=fillE_sound h ⟨by simpa using e2,h2⟩ h3
     refine⟨res,?_,h5⟩
     unfold Instr.fill
     rw[hpl]
     have hne:(u.cells.size≠size||decide (off+u.cells.size > cells.size))=false:=by simp[ae];omega
     simp only[hne]
     rw[<-h4]
     congr 1
     rw[<-Array.foldl_toList]
     simp
    ·cases h
theorem placesOf_run {P:Program} {w:World}:∀{fs:List Field} {l:List (Nat × Nat)},placesOf P fs=some l->
  (fs.mapM fun f=>(do pure (f.offset,<-sizeOf f.type):Sem (Nat × Nat))).run P w=.ok l w
 | [],l,h=>by simp[placesOf] at h;subst h;simp
 | f::fs,l,h=>by
  unfold placesOf at h
  split at h
  ·rename_i s l' h1 h2
   simp at h;subst h
   have:=placesOf_run (w:=w) h2
   simp[List.mapM_cons,run_size h1] at this ⊢
   simp[this]
  ·cases h
theorem buildE_sound {t:TypeId} {parts:List (Nat × AV)} {uparts:List (Nat × Value)} {v:AV} (h:buildE E.P t parts=some v) (hp:PRel B w φ parts uparts):
  ∃r,(Instr.build t uparts.toArray).run E.P w=.ok r w/\VRel B w φ v r:=by
 unfold buildE at h
 split at h
 ·rename_i z fs hz hu
  split at h
  ·rename_i l hl
   simp at h
   obtain⟨cs,hf,rfl⟩:=h
   obtain⟨uz,hr,hz2⟩:=run_zero (w:=w) hz
   obtain⟨res,h1,h2⟩:=fillE_sound (B:=B) (w:=w) (φ:=φ) (cells:=uz.cells) hf hp ((ofV_rel hz2).cells (ofV_ne hz2))
   refine⟨.agg res,?_,VRel.of_list h2⟩
   have h3:Instr.fill (fun i=>l[i]?) uz.cells uparts=some res:=by
    rw[<-h1];congr 1;funext i;simp[get?_eq]
   have h4:=placesOf_run (w:=w) hl
   simp[Instr.build,hr,run_und hu,Array.mapM_eq_mapM_toList] at h4 ⊢
   simp[h4,h3]
  ·cases h
 ·rename_i z n e hz hu
  split at h
  ·rename_i s hs
   simp at h
   obtain⟨cs,hf,rfl⟩:=h
   obtain⟨uz,hr,hz2⟩:=run_zero (w:=w) hz
   obtain⟨res,h1,h2⟩:=fillE_sound (B:=B) (w:=w) (φ:=φ) (cells:=uz.cells) hf hp ((ofV_rel hz2).cells (ofV_ne hz2))
   exact⟨.agg res,by simp[Instr.build,hr,run_und hu,run_size hs,h1],VRel.of_list h2⟩
  ·cases h
 ·cases h
theorem ltI_eq (a b:Int):ltI a b=decide (a<b):=by
 unfold ltI
 split
 ·rename_i a b;rw[Bool.eq_iff_iff];simp
 ·rename_i a b;simp;omega
 ·rename_i a b;simp;omega
 ·rename_i a b;rw[Bool.eq_iff_iff];simp;omega
theorem eqI_eq (a b:Int):eqI a b=(a==b):=by
 unfold eqI
 split
 ·rename_i a b;rw[Bool.eq_iff_iff];simp;omega
 ·rename_i a b;rw[Bool.eq_iff_iff];simp
 ·rename_i h1 h2
  cases a<;>cases b
  ·exact absurd rfl (h1 _ _ rfl)
  ·rw[Bool.eq_iff_iff];simp
  ·rw[Bool.eq_iff_iff];simp
  ·exact absurd rfl (h2 _ _ rfl)
theorem wrapS_eq (k:IntKind) (lim:Nat) (h:∀n:Int,-(lim:Int)<=n->n<lim->k.wrap n=n) (n:Int):wrapS k lim n=k.wrap n:=by
 unfold wrapS
 split
 ·rename_i m
  split
  ·rename_i hb
   have hb:m<lim:=by simpa [Nat.blt_eq] using hb
   exact(h _ (by simp only[Int.ofNat_eq_natCast];omega) (by simp only[Int.ofNat_eq_natCast];omega)).symm
  ·rfl
 ·rename_i m
  split
  ·rename_i hb
   have hb:m<lim:=by simpa [Nat.blt_eq] using hb
   exact(h _ (by omega) (by omega)).symm
  ·rfl
theorem wrapU_eq (k:IntKind) (lim:Nat) (h:∀m:Nat,k.wrap (m:Int)=((m % lim:Nat):Int)) (n:Int):wrapU k lim n=k.wrap n:=by
 unfold wrapU
 split
 ·rename_i m;exact(h m).symm
 ·rfl
theorem wrapF_eq (k:IntKind) (n:Int):wrapF k n=k.wrap n:=by
 cases k
 ·exact wrapS_eq .i8 128 (fun n h1 h2=>by simp[IntKind.wrap,IntKind.signed,IntKind.bits];split<;>omega) n
 ·exact wrapS_eq .i16 32768 (fun n h1 h2=>by simp[IntKind.wrap,IntKind.signed,IntKind.bits];split<;>omega) n
 ·exact wrapS_eq .i32 2147483648 (fun n h1 h2=>by simp[IntKind.wrap,IntKind.signed,IntKind.bits];split<;>omega) n
 ·exact wrapS_eq .i64 9223372036854775808 (fun n h1 h2=>by simp[IntKind.wrap,IntKind.signed,IntKind.bits];split<;>omega) n
 ·exact wrapU_eq .u8 256 (fun m=>by simp[IntKind.wrap,IntKind.signed,IntKind.bits]) n
 ·exact wrapU_eq .u16 65536 (fun m=>by simp[IntKind.wrap,IntKind.signed,IntKind.bits]) n
 ·exact wrapU_eq .u32 4294967296 (fun m=>by simp[IntKind.wrap,IntKind.signed,IntKind.bits]) n
 ·exact wrapU_eq .u64 18446744073709551616 (fun m=>by simp[IntKind.wrap,IntKind.signed,IntKind.bits]) n
theorem eqGuard_run {P:Program} {op:BinOp} {t:TypeId} {x y:Operand} {a b:Value} (h:∀c d,¬(a=.agg c/\b=.agg d)) (h':¬(a=.nilIface/\b=.nilIface)):
  (eqGuard op t x y a b).run P w=.ok () w:=by
 unfold eqGuard
 cases op<;>try rfl
 all_goals
  cases a<;>first
   | rfl
   | (cases b<;>first | rfl | exact absurd ⟨rfl,rfl⟩ h' | exact absurd ⟨rfl,rfl⟩ (h _ _))
theorem intBin_sound {P:Program} {op:BinOp} {t:TypeId} {k:IntKind} {a b:Int} {v:AV} (h:intBin op k a b=some v):
  ∃r,(binOp op t (.int k a) (.int k b)).run P w=.ok r w/\VRel B w φ v r:=by
 cases op<;>simp[intBin] at h<;>subst h
 all_goals simp only[binOp,ne_eq,not_true_eq_false,if_false,Op.intArith,Op.intCmp,Sem.run_pure]
 all_goals refine⟨_,rfl,?_⟩
 all_goals first
  | (rw[wrapF_eq];exact .int _ _)
  | (rw[ltI_eq];exact .bool _)
  | (rw[eqI_eq];exact .bool _)
  | skip
 ·rw[ltI_eq]
  have:(!decide (b<a))=decide (a<=b):=by rw[Bool.eq_iff_iff];simp
  rw[this];exact .bool _
 ·rw[ltI_eq]
  have:(!decide (a<b))=decide (a>=b):=by rw[Bool.eq_iff_iff];simp
  rw[this];exact .bool _
end
end Go.Proofs.YtnnhofmknilopaaGreatDoor.Gx
namespace Go.Proofs.YtnnhofmknilopaaGreatDoor.Gx
open Go
section
variable {E:Env} {F:Nat->Prop} {φ:Phi} {st:St} {w:World} {B:Nat->Prop}
theorem bool_of {b c:Bool} (h:b=c):VRel B w φ (.bool b) (.bool c):=by rw[h];exact .bool c
theorem strBin_sound {P:Program} {op:BinOp} {t:TypeId} {a b:List UInt8} {v:AV} (h:strBin op a b=some v):
  ∃r,(binOp op t (.string ⟨a.toArray⟩) (.string ⟨b.toArray⟩)).run P w=.ok r w/\VRel B w φ v r:=by
 cases op<;>simp[strBin] at h
 case add=>
  obtain⟨h1,rfl⟩:=h
  have h2:¬(((⟨a.toArray⟩:ByteArray).size+(⟨b.toArray⟩:ByteArray).size:Nat):Int) > IntKind.i64.max:=by
   simp[ByteArray.size,IntKind.max,IntKind.signed,IntKind.bits];omega
  have h3:(⟨a.toArray⟩:ByteArray)++(⟨b.toArray⟩:ByteArray)=⟨(a++b).toArray⟩:=by
   have:((⟨a.toArray⟩:ByteArray)++(⟨b.toArray⟩:ByteArray)).data=(a++b).toArray:=by simp[ByteArray.data_append]
   generalize (⟨a.toArray⟩:ByteArray)++(⟨b.toArray⟩:ByteArray)=z at this
   cases z;simp at this;simp[this]
  refine⟨.string ⟨(a++b).toArray⟩,?_,.str _⟩
  simp only[binOp,Op.stringOp]
  rw[if_neg h2,h3];rfl
 all_goals (subst h;simp only[binOp,Op.stringOp,ByteArray.toList_mk,Sem.run_pure];exact⟨_,rfl,bool_of (by simp)⟩)
theorem slowBin_sound {P:Program} {op:BinOp} {t:TypeId} {ox oy:Operand} {x y v:AV} {a b:Value} (h:slowBin P op t ox oy x y=some v) (hx:VRel B w φ x a) (hy:VRel B w φ y b):
  ∃r,(do eqGuard op t ox oy a b;binOp op t a b:Sem Value).run P w=.ok r w/\VRel B w φ v r:=by
 unfold slowBin at h
 split at h
 ·rename_i a' b' h1 h2
  rw[toV_rel h1 hx,toV_rel h2 hy]
  split at h
  ·rename_i r hr
   exact⟨r,pureRun_run _ hr w,ofV_rel h⟩
  ·cases h
 ·cases h
theorem equal_of {P:Program} {t:TypeId} {a b:Value} {r:Bool} (h:∀d,(Op.equalIn (d+1) t a b).run P w=.ok r w):(Op.equal t a b).run P w=.ok r w:=h 9999
theorem nilEq_sound {P:Program} {d:TypeDesc} {t:TypeId} {x y:AV} {a b:Value} {r:Bool} (hd:P.underlying t=some d) (h:nilEq d x y=some r) (hx:VRel B w φ x a) (hy:VRel B w φ y b):
  (Op.equal t a b).run P w=.ok r w/\(∀c d,¬(a=.agg c/\b=.agg d))/\¬(a=.nilIface/\b=.nilIface)/\
  (∀op,op=.eql\/op=.neq->binOp op t a b=(match op with | .eql=>do pure (.bool (<-Op.equal t a b)) | _=>do pure (.bool (!(<-Op.equal t a b))))):=by
 unfold nilEq at h
 split at h<;>try (cases h;done)
 all_goals
  split at h<;>first
   | (cases h;done)
   | (simp at h;subst h
      cases hx<;>cases hy<;>
      exact⟨equal_of fun d=>by simp[Op.equalIn,run_und hd],by simp,by simp,by rintro op (rfl | rfl)<;>rfl⟩)
theorem nilCmp_sound {P:Program} {op:BinOp} {t:TypeId} {ox oy:Operand} {x y v:AV} {a b:Value} (h:nilCmp op (P.underlying t) x y=some v) (hx:VRel B w φ x a) (hy:VRel B w φ y b):
  ∃r,(do eqGuard op t ox oy a b;binOp op t a b:Sem Value).run P w=.ok r w/\VRel B w φ v r:=by
 unfold nilCmp at h
 split at h
 ·cases h
 ·rename_i d hd
  split at h
  ·rename_i b' hb
   simp at h;subst h
   obtain⟨h1,h2,h3,h4⟩:=nilEq_sound hd hb hx hy
   exact⟨.bool b',by simp[eqGuard_run h2 h3,h4 .eql (.inl rfl),h1],.bool _⟩
  ·rename_i b' hb
   simp at h;subst h
   obtain⟨h1,h2,h3,h4⟩:=nilEq_sound hd hb hx hy
   exact⟨.bool (!b'),by simp[eqGuard_run h2 h3,h4 .neq (.inr rfl),h1],.bool _⟩
  ·cases h
theorem kIdx_inj {a b:IntKind} (h:Nat.beq (kIdx a) (kIdx b)=true):a=b:=by
 cases a<;>cases b<;>first | rfl | (simp[kIdx] at h)
theorem rngBin_sound {op:BinOp} {lo hi n b:Int} {r:Bool} {k:IntKind} (h:rngBin lo hi b op=some r) (h1:lo<=n) (h2:n<=hi):intBin op k n b=some (.bool r):=by
 cases op<;>simp only[rngBin,ltI_eq] at h<;>first | (cases h;done) | skip
 all_goals simp only[intBin,ltI_eq,eqI_eq]
 all_goals repeat' split at h
 all_goals first | (cases h;done) | skip
 all_goals simp_all
 all_goals omega
theorem neBin_sound {op:BinOp} {ne:List (List UInt8)} {a b:List UInt8} {v:AV} (h:neBin op ne b=some v) (hn:a∉ne):strBin op a b=some v/\strBin op b a=some v:=by
 unfold neBin at h
 split at h
 ·rename_i gv
  have hne:a≠b:=by
   rintro rfl
   rw[List.any_eq_true] at gv
   obtain⟨x,hx,he⟩:=gv
   simp at he;subst he
   exact hn hx
  split at h
  ·simp at h;subst h;simp[strBin,hne,Ne.symm hne]
  ·simp at h;subst h;simp[strBin,hne,Ne.symm hne]
  ·cases h
 ·cases h
theorem binE_sound {P:Program} {op:BinOp} {t:TypeId} {ox oy:Operand} {x y v:AV} {a b:Value} (h:binE P op t ox oy x y=some v) (hx:VRel B w φ x a) (hy:VRel B w φ y b):
  ∃r,(do eqGuard op t ox oy a b;binOp op t a b:Sem Value).run P w=.ok r w/\VRel B w φ v r:=by
 unfold binE at h
 split at h
 ·rename_i k a' j b'
  split at h
  ·rename_i v' hk hv
   simp at h;subst h
   obtain rfl:=kIdx_inj hk
   cases hx;cases hy
   obtain⟨r,h1,h2⟩:=intBin_sound (P:=P) (t:=t) (w:=w) (B:=B) (φ:=φ) hv
   exact⟨r,by simp[eqGuard_run,h1],h2⟩
  ·exact slowBin_sound h hx hy
 ·cases hx;cases hy
  obtain⟨r,h1,h2⟩:=strBin_sound (P:=P) (t:=t) (w:=w) (B:=B) (φ:=φ) h
  exact⟨r,by simp[eqGuard_run,h1],h2⟩
 ·rename_i k lo hi j b'
  split at h
  ·rename_i v' hk hv
   simp at h;subst h
   have hkj:=kIdx_inj hk
   subst hkj
   cases hx with
   | oint g1 g2=>
    cases hy
    obtain⟨r,h1,h2⟩:=intBin_sound (P:=P) (t:=t) (w:=w) (B:=B) (φ:=φ) (rngBin_sound (k:=k) hv g1 g2)
    exact⟨r,by simp[eqGuard_run,h1],h2⟩
  ·cases h
 ·cases hx with
  | ostr hn=>
   cases hy
   obtain⟨r,h1,h2⟩:=strBin_sound (P:=P) (t:=t) (w:=w) (B:=B) (φ:=φ) (neBin_sound h hn).1
   exact⟨r,by simp[eqGuard_run,h1],h2⟩
 ·cases hy with
  | ostr hn=>
   cases hx
   obtain⟨r,h1,h2⟩:=strBin_sound (P:=P) (t:=t) (w:=w) (B:=B) (φ:=φ) (neBin_sound h hn).2
   exact⟨r,by simp[eqGuard_run,h1],h2⟩
 ·split at h
  ·rename_i v' hv
   simp at h;subst h
   exact nilCmp_sound hv hx hy
  ·exact slowBin_sound h hx hy
theorem unE_sound {P:Program} {op:UnOp} {x v:AV} {a:Value} (h:unE P op x=some v) (hx:VRel B w φ x a):∃r,(Op.unary op a).run P w=.ok r w/\VRel B w φ v r:=by
 unfold unE at h
 split at h
 ·simp at h;subst h;cases hx;exact⟨_,rfl,.bool _⟩
 ·split at h
  ·rename_i a' ha
   rw[toV_rel ha hx]
   split at h
   ·rename_i r hr;exact⟨r,pureRun_run _ hr w,ofV_rel h⟩
   ·cases h
  ·cases h
theorem convE_sound {P:Program} {s d:TypeId} {x v:AV} {a:Value} (h:convE P s d x=some v) (hx:VRel B w φ x a):∃r,(convert s d a).run P w=.ok r w/\VRel B w φ v r:=by
 unfold convE at h
 split at h
 ·split at h
  ·rename_i ds k hs hd
   simp at h;subst h;cases hx
   exact⟨_,by simp[convert,run_und hs,run_und hd,Conv.intToInt];rfl,by rw[wrapF_eq];exact .int _ _⟩
  ·cases h
 ·split at h
  ·rename_i ds hs hd
   simp at h;subst h;cases hx
   exact⟨_,by simp[convert,run_und hs,run_und hd],.str _⟩
  ·cases h
 ·cases h
theorem scalars_sound {P:Program} {f:Array TypeId->TypeId->Array Value->Sem Value} {ts:Array TypeId} {t:TypeId} {xs:List AV} {v:AV} {us:List Value} (h:scalars P f ts t xs=some v)
  (hx:LRel B w φ xs us):∃r,(f ts t us.toArray).run P w=.ok r w/\VRel B w φ v r:=by
 unfold scalars at h
 split at h
 ·rename_i vs hvs
  rw[toL_rel hvs hx]
  split at h
  ·rename_i r hr;exact⟨r,pureRun_run _ hr w,ofV_rel h⟩
  ·cases h
 ·cases h
theorem getObj_run {P:Program} {r:Nat} {o:Obj} (h:w.heap[r]?=some o) (hc:∀c t f,o≠.cells c t f):(getObj r).run P w=.ok o w:=by
 cases o<;>first | exact absurd rfl (hc _ _ _) | simp[getObj,Sem.run,h]
theorem setObj_run {P:Program} {r:Nat} {o o':Obj} (h:w.heap[r]?=some o) (hc:∀c t f,o≠.cells c t f):(setObj r o').run P w=.ok () (setAt w r o'):=by
 cases o<;>first | exact absurd rfl (hc _ _ _) | simp[setObj,Sem.run,h,setAt]
theorem lenE_sound (hS:Sess E F φ st w) {ts:Array TypeId} {t:TypeId} {x v:AV} {us:List Value} {a:Value} {y:TypeId} (ht:ts[0]?=some t) (h:lenE E.P st t x=some v)
  (hx:VRel (Bd F φ st) w φ x a):∃r,(Builtin.len_ ts y (a::us).toArray).run E.P w=.ok r w/\VRel (Bd F φ st) w φ v r:=by
 unfold lenE at h
 have h0:((a::us).toArray:Array Value)[0]?=some a:=by simp
 split at h
 ·rename_i s hu;simp at h;subst h;cases hx
  have hz:(⟨s.toArray⟩:ByteArray).size=s.length:=by simp[ByteArray.size]
  exact⟨.int .i64 s.length,by simp only[Builtin.len_,ht,h0];simp[run_und hu,goInt,hz],.int _ _⟩
 ·rename_i n e hu
  simp at h;subst h
  exact⟨.int .i64 n,by simp only[Builtin.len_,ht,h0];simp[run_und hu,goInt],.int _ _⟩
 ·rename_i hu;simp at h;subst h;cases hx
  exact⟨.int .i64 0,by simp only[Builtin.len_,ht,h0];simp[run_und hu,goInt],.int _ _⟩
 ·rename_i n _ hu;simp at h;subst h;cases hx
  exact⟨.int .i64 n,by simp only[Builtin.len_,ht,h0];simp[run_und hu,goInt],.int _ _⟩
 ·rename_i n _ _ hu;simp at h;subst h;cases hx
  exact⟨.int .i64 n,by simp only[Builtin.len_,ht,h0];simp[run_und hu,goInt],.int _ _⟩
 ·rename_i hu;simp at h;subst h;cases hx
  exact⟨.int .i64 0,by simp only[Builtin.len_,ht,h0];simp[run_und hu,goInt],.int _ _⟩
 ·rename_i k e b hu
  rw[get?_eq] at h
  split at h
  ·rename_i es clock hb
   simp at h;subst h
   cases hx with
   | map hp=>
    rename_i cb co
    obtain⟨ces,h1,h2,_⟩:=hS.blk b _ cb co hb hp
    exact⟨.int .i64 es.length,by simp only[Builtin.len_,ht,h0];simp[run_und hu,getObj_run h1,goInt,h2],.int _ _⟩
  ·cases h
 ·cases h
theorem capE_sound {ts:Array TypeId} {t:TypeId} {x v:AV} {us:List Value} {a:Value} {y:TypeId} (ht:ts[0]?=some t) (h:capE E.P t x=some v)
  (hx:VRel (Bd F φ st) w φ x a):∃r,(Builtin.cap_ ts y (a::us).toArray).run E.P w=.ok r w/\VRel (Bd F φ st) w φ v r:=by
 unfold capE at h
 have h0:((a::us).toArray:Array Value)[0]?=some a:=by simp
 split at h
 ·rename_i hu;simp at h;subst h;cases hx
  exact⟨.int .i64 0,by simp only[Builtin.cap_,ht,h0];simp[run_und hu,goInt],.int _ _⟩
 ·rename_i c hu;simp at h;subst h
  cases hx with
  | sl hp ho hl hxx hg=>
   rename_i ccap
   have hc:=hxx c rfl
   exact⟨.int .i64 ccap,by simp only[Builtin.cap_,ht,h0];simp[run_und hu,goInt],by rw[hc];exact .int _ _⟩
 ·rename_i c hu;simp at h;subst h
  cases hx with
  | isl vs hxx hl hb hc' hv=>
   rename_i a ccap
   have hc:=hxx c rfl
   exact⟨.int .i64 ccap,by simp only[Builtin.cap_,ht,h0];simp[run_und hu,goInt],by rw[hc];exact .int _ _⟩
 ·cases h
theorem ba_beq (a b:List UInt8):((⟨a.toArray⟩:ByteArray)==⟨b.toArray⟩)=(a==b):=by
 show(a.toArray==b.toArray)=(a==b)
 rw[Bool.eq_iff_iff];simp
theorem keyScalar_key {P:Program} {kT:TypeId} {k:AV} (h:keyScalar P kT k=true):
  (∃s,k=.str s/\P.underlying kT=some .string)\/(∃j n,k=.int j n/\P.underlying kT=some (.int j))\/(∃b,k=.bool b/\P.underlying kT=some .bool):=by
 unfold keyScalar at h
 split at h
 ·rename_i hu;exact .inl ⟨_,rfl,hu⟩
 ·rename_i j k' n hu;simp at h;subst h;exact .inr (.inl ⟨_,_,rfl,hu⟩)
 ·rename_i hu;exact .inr (.inr ⟨_,rfl,hu⟩)
 ·cases h
theorem checkKey_run {P:Program} {kT:TypeId} {k:AV} {u:Value} (h:keyScalar P kT k=true) (hk:VRel B w φ k u) (e:Bool):(Instr.checkKey e 10000 kT u).run P w=.ok () w:=by
 have key:∀n,(Instr.checkKey e (n+1) kT u).run P w=.ok () w:=by
  intro n
  rcases keyScalar_key h with⟨s,rfl,hu⟩ | ⟨j,m,rfl,hu⟩ | ⟨b,rfl,hu⟩<;>cases hk<;>simp[Instr.checkKey,run_und hu]
 exact key 9999
theorem findE_sound {P:Program} {kT:TypeId} {d:TypeDesc} {k:AV} {u:Value} (hd:P.underlying kT=some d) (h:keyScalar P kT k=true) (hk:VRel B w φ k u):
  ∀(es:List AEnt) (ces:List MapEntry) (i:Nat),es.length=ces.length->(∀(j:Nat) e c,es[j]?=some e->ces[j]?=some c->VRel B w φ e.key c.key/\VRel B w φ e.val c.val/\e.born=c.born)->
  es.all (fun e=>keyScalar P kT e.key)=true->
  match findE k es i with
  | some (n,v)=>∃uv,Instr.findNow d u ces i=some (some (n,uv))/\VRel B w φ v uv
  | none=>Instr.findNow d u ces i=some none
 | [],ces,i,hl,_,_=>by
  have:ces=[]:=List.eq_nil_of_length_eq_zero hl.symm
  subst this;simp[findE,Instr.findNow]
 | e::es,ces,i,hl,hr,ha=>by
  cases ces with
  | nil=>simp at hl
  | cons c ces=>
   simp at ha
   obtain⟨ha1,ha2⟩:=ha
   obtain⟨r1,r2,r3⟩:=hr 0 e c rfl rfl
   have ih:=findE_sound hd h hk es ces (i+1) (by simpa using hl) (fun j e c he hc=>hr (j+1) e c (by simpa using he) (by simpa using hc)) (by simpa using ha2)
   have eZ:Instr.sameNow d u c.key=some (sameKey k e.key):=by
    obtain⟨ek,ev,eb⟩:=e
    obtain⟨ck,cv,cb⟩:=c
    simp only at r1 ha1
    rcases keyScalar_key h with⟨s,rfl,hu⟩ | ⟨j,m,rfl,hu⟩ | ⟨b,rfl,hu⟩<;>
     rcases keyScalar_key ha1 with⟨s',rfl,hu'⟩ | ⟨j',m',rfl,hu'⟩ | ⟨b',rfl,hu'⟩<;>
     (rw[hu] at hd hu';cases hd;cases hu'<;>cases hk<;>cases r1<;>simp[Instr.sameNow,sameKey,ba_beq])
   unfold findE
   cases hsk:sameKey k e.key with
   | true=>
    simp only[if_true]
    exact⟨c.val,by simp[Instr.findNow,eZ,hsk],r2⟩
   | false=>
    simp only[Bool.false_eq_true,if_false]
    rw[show Instr.findNow d u (c::ces) i=Instr.findNow d u ces (i+1) by simp[Instr.findNow,eZ,hsk]]
    exact ih
theorem lookupE_sound (hS:Sess E F φ st w) {t:TypeId} {m k v:AV} {um uk:Value} {ok:Bool} (h:lookupE E.P st t m k ok=some v) (hm:VRel (Bd F φ st) w φ m um)
  (hk:VRel (Bd F φ st) w φ k uk):∃r,(Instr.lookup t um uk ok).run E.P w=.ok r w/\VRel (Bd F φ st) w φ v r:=by
 unfold lookupE at h
 split at h
 ·rename_i kT eT hu
  have ip:∀es,(match m with
    | .nilmap=>some []
    | .map b=>match get? st b with
     | some (.map es _)=>some es
     | _=>none
    | _=>none)=some es->
    ∃ces:Array MapEntry,((um=.map none/\ces=#[])\/(∃cb clock,um=.map (some cb)/\w.heap[cb]?=some (.map ces clock)))/\EntRel (Bd F φ st) w φ es ces:=by
   intro es he
   split at he
   ·simp at he;subst he
    cases hm
    exact⟨#[],.inl ⟨rfl,rfl⟩,rfl,fun j e c he=>by simp at he⟩
   ·rename_i b
    rw[get?_eq] at he
    split at he
    ·rename_i es' clock hb
     simp at he;subst he
     cases hm with
     | map hp=>
      rename_i cb co
      obtain⟨ces,h1,h2⟩:=hS.blk b _ cb co hb hp
      exact⟨ces,.inr ⟨cb,clock,rfl,h1⟩,h2⟩
    ·cases he
   ·cases he
  simp only at h
  split at h
  ·rename_i es z hes hz
   obtain⟨ces,h1,h2⟩:=ip es hes
   split at h
   ·rename_i au
    simp only[Bool.and_eq_true] at au
    have hd:∃d,E.P.underlying kT=some d:=by
     rcases keyScalar_key au.1 with⟨_,_,hu⟩ | ⟨_,_,_,hu⟩ | ⟨_,_,hu⟩<;>exact⟨_,hu⟩
    obtain⟨d,hd⟩:=hd
    have hf:=findE_sound hd au.1 hk es ces.toList 0 (by simpa using h2.1) (fun j e c he hc=>h2.2 j e c he (by simpa using hc)) au.2
    obtain⟨uz,hz1,hz2⟩:=run_zero (w:=w) hz
    cases hfe:findE k es 0 with
    | some p=>
     obtain⟨n,v'⟩:=p
     rw[hfe] at hf h
     obtain⟨uv,q1,q2⟩:=hf
     simp at h
     refine⟨if ok then .tuple #[uv,.bool true] else uv,?_,?_⟩
     ·rcases h1 with⟨rfl,rfl⟩ | ⟨cb,clock,rfl,hb⟩
      ·simp at q1
       simp[Instr.lookup,run_und hu,checkKey_run au.1 hk,Instr.findKey,run_und hd,q1]
      ·simp[Instr.lookup,run_und hu,getObj_run hb,checkKey_run au.1 hk,Instr.findKey,run_und hd,q1]
     ·subst h
      cases ok
      ·simpa using q2
      ·simp only[if_true]
       exact .tup rfl (fun j x y hx hy=>by
        match j with
        | 0=>simp at hx hy;subst hx;subst hy;exact q2
        | 1=>simp at hx hy;subst hx;subst hy;exact .bool _
        | j+2=>simp at hx)
    | none=>
     rw[hfe] at hf h
     simp at h
     refine⟨if ok then .tuple #[uz,.bool false] else uz,?_,?_⟩
     ·rcases h1 with⟨rfl,rfl⟩ | ⟨cb,clock,rfl,hb⟩
      ·simp at hf
       simp[Instr.lookup,run_und hu,checkKey_run au.1 hk,Instr.findKey,run_und hd,hf,hz1]
      ·simp only[] at hf
       simp[Instr.lookup,run_und hu,getObj_run hb,checkKey_run au.1 hk,Instr.findKey,run_und hd,hf,hz1]
     ·subst h
      have hzr:VRel (Bd F φ st) w φ z uz:=ofV_rel hz2
      cases ok
      ·simpa using hzr
      ·simp only[if_true]
       exact .tup rfl (fun j x y hx hy=>by
        match j with
        | 0=>simp at hx hy;subst hx;subst hy;exact hzr
        | 1=>simp at hx hy;subst hx;subst hy;exact .bool _
        | j+2=>simp at hx)
   ·cases h
  ·cases h
 ·cases h
theorem tup2 {x y:AV} {u v:Value} (hx:VRel B w φ x u) (hy:VRel B w φ y v):VRel B w φ (.tup [x,y]) (.tuple #[u,v]):=
 .tup rfl (fun j a b ha hb=>by
  match j with
  | 0=>simp at ha hb;subst ha;subst hb;exact hx
  | 1=>simp at ha hb;subst ha;subst hb;exact hy
  | j+2=>simp at ha)
theorem typeAssertE_sound {P:Program} {x v:AV} {xT aT:TypeId} {ok:Bool} {a:Value} (h:typeAssertE P x xT aT ok=some v) (hx:VRel B w φ x a):
  ∃r,(Instr.typeAssert a xT aT ok).run P w=.ok r w/\VRel B w φ v r:=by
 have fails:∀(z:AV),zeroT P aT=some z->v=.tup [z,.bool false]->ok=true->∃uz,(zeroValue aT).run P w=.ok uz w/\VRel B w φ v (.tuple #[uz,.bool false]):=by
  intro z hz hv _
  obtain⟨uz,h1,h2⟩:=run_zero (w:=w) hz
  exact⟨uz,h1,by rw[hv];exact tup2 (ofV_rel h2) (.bool _)⟩
 unfold typeAssertE at h
 split at h
 ·rename_i ms hu
  split at h
  ·rename_i hok
   simp at h
   obtain⟨z,hz,rfl⟩:=h
   obtain⟨uz,h1,h2⟩:=fails z hz rfl hok
   cases hx
   exact⟨_,by simp[Instr.typeAssert,run_und hu,hok,h1],h2⟩
  ·cases h
 ·rename_i want t x' hu
  cases hx with
  | iface hx'=>
   rename_i u'
   split at h
   ·rename_i i hi
    split at h
    ·rename_i hm
     simp at h
     refine⟨if ok then .tuple #[.iface t u',.bool true] else .iface t u',by simp[Instr.typeAssert,run_und hu,run_info hi,hm],?_⟩
     subst h
     cases ok
     ·simpa using VRel.iface hx'
     ·simpa using tup2 (VRel.iface hx') (.bool _)
    ·rename_i m hm
     split at h
     ·rename_i hok
      simp at h
      obtain⟨z,hz,rfl⟩:=h
      obtain⟨uz,h1,h2⟩:=fails z hz rfl hok
      exact⟨_,by simp[Instr.typeAssert,run_und hu,run_info hi,hm,hok,h1],h2⟩
     ·cases h
   ·cases h
 ·rename_i d _ hni hu
  split at h
  ·rename_i hok
   simp at h
   obtain⟨z,hz,rfl⟩:=h
   obtain⟨uz,h1,h2⟩:=fails z hz rfl hok
   cases hx
   refine⟨.tuple #[uz,.bool false],?_,h2⟩
   cases d<;>first | exact absurd hu (hni _) | simp[Instr.typeAssert,run_und hu,hok,h1]
  ·cases h
 ·rename_i d t x' _ hni hu
  cases hx with
  | iface hx'=>
   rename_i u'
   split at h
   ·rename_i ht
    subst ht
    simp at h
    refine⟨if ok then .tuple #[u',.bool true] else u',?_,?_⟩
    ·cases d<;>first | exact absurd hu (hni _) | simp[Instr.typeAssert,run_und hu]
    ·subst h
     cases ok
     ·simpa using hx'
     ·simpa using tup2 hx' (.bool _)
   ·rename_i ht
    split at h
    ·rename_i hok
     simp at h
     obtain⟨z,hz,rfl⟩:=h
     obtain⟨uz,h1,h2⟩:=fails z hz rfl hok
     refine⟨.tuple #[uz,.bool false],?_,h2⟩
     cases d<;>first | exact absurd hu (hni _) | simp[Instr.typeAssert,run_und hu,ht,hok,h1]
    ·cases h
 ·cases h
end
end Go.Proofs.YtnnhofmknilopaaGreatDoor.Gx
namespace Go.Proofs.YtnnhofmknilopaaGreatDoor.Gx
open Go
section
variable {E:Env} {F:Nat->Prop} {φ:Phi} {st:St} {w:World}
theorem evo_sound (hS:Sess E F φ st w) {fr:Fr} {tmps:Array Value} (hT:LRel (Bd F φ st) w φ fr.tm tmps.toList) {x:Option Operand} {v:Option AV} (h:evo E fr x=some v):
  ORl (Bd F φ st) w φ v (x.map (evalT tmps)):=by
 cases x with
 | none=>simp[evo] at h;subst h;trivial
 | some x=>simp[evo] at h;obtain⟨a,ha,rfl⟩:=h;exact ev_sound hS hT ha
def Gives (P:Program) (w:World) (B:Nat->Prop) (φ:Phi) (s:Sem Value) (v:AV):Prop:=∃u,s.run P w=.ok u w/\VRel B w φ v u
theorem gives_next {P:Program} {B:Nat->Prop} {s:Sem Value} {v:AV} (h:Gives P w B φ s v):
  ∃u,(do pure (Next.value (<-s)):Sem Next).run P w=.ok (.value u) w/\VRel B w φ v u:=by
 obtain⟨u,h1,h2⟩:=h
 exact⟨u,by simp[h1],h2⟩
theorem callPure_sound (hS:Sess E F φ st w) {fr:Fr} {tmps:Array Value} (hT:LRel (Bd F φ st) w φ fr.tm tmps.toList) {c:Call} {y:TypeId} {v:AV} (h:callPure c E fr st=some v):
  ∃u,(do let d <-resolve (evalT tmps) c y;invoke d.target d.args:Sem Next).run E.P w=.ok (.value u) w/\VRel (Bd F φ st) w φ v u:=by
 obtain⟨callee,args,argTypes⟩:=c
 unfold callPure at h
 cases callee with
 | value f=>simp[noneF] at h
 | invoke r m=>simp[noneF] at h
 | builtin b=>
  simp only at h
  have br:∀{vs:List AV},evs E fr args.toList=some vs->LRel (Bd F φ st) w φ vs (args.map (evalT tmps)).toList:=by
   intro vs hvs
   have:=evs_sound hS hT hvs
   simpa using this
  cases b<;>simp only[builtinPure,noneF] at h<;>first | (cases h;done) | skip
  ·
   unfold capF at h
   split at h
   ·rename_i x xs t hx ht
    obtain⟨u,us,hu,hxu,_⟩:=(br hx).inv_cons
    obtain⟨r,h1,h2⟩:=capE_sound (us:=us) (y:=y) ht h hxu
    refine⟨r,?_,h2⟩
    have e:args.map (evalT tmps)=(u::us).toArray:=by rw[<-hu]
    simp only[resolve,e]
    simp[invoke,builtin,h1]
   ·cases h
  ·
   unfold lenF at h
   split at h
   ·rename_i x xs t hx ht
    obtain⟨u,us,hu,hxu,_⟩:=(br hx).inv_cons
    obtain⟨r,h1,h2⟩:=lenE_sound hS (us:=us) (y:=y) ht h hxu
    refine⟨r,?_,h2⟩
    have e:args.map (evalT tmps)=(u::us).toArray:=by rw[<-hu]
    simp only[resolve,e]
    simp[invoke,builtin,h1]
   ·cases h
  ·unfold maxF at h
   simp only[Option.bind_eq_some_iff] at h
   obtain⟨xs,hx,h⟩:=h
   obtain⟨r,h1,h2⟩:=scalars_sound h (br hx)
   exact⟨r,by simp[resolve,invoke,builtin,Builtin.max_] at h1 ⊢;simp[h1],h2⟩
  ·unfold minF at h
   simp only[Option.bind_eq_some_iff] at h
   obtain⟨xs,hx,h⟩:=h
   obtain⟨r,h1,h2⟩:=scalars_sound h (br hx)
   exact⟨r,by simp[resolve,invoke,builtin,Builtin.min_] at h1 ⊢;simp[h1],h2⟩
theorem pureOp_sound (hS:Sess E F φ st w) {fr:Fr} {tmps:Array Value} (hT:LRel (Bd F φ st) w φ fr.tm tmps.toList) {o:Oper} {v:AV} (h:pureOp o.op E fr st=some v):
  ∃u,(execOp (evalT tmps) o).run E.P w=.ok (.value u) w/\VRel (Bd F φ st) w φ v u:=by
 obtain⟨dst,op,ty,pos,after,guard⟩:=o
 simp only at h
 cases op<;>simp only[pureOp,noneF] at h<;>first | (cases h;done) | skip
 case move x=>exact⟨_,rfl,ev_sound hS hT h⟩
 case assign x=>exact⟨_,rfl,ev_sound hS hT h⟩
 case pick c a b=>
  unfold pickF at h
  split at h
  ·rename_i a' b' h1 h2 h3
   simp at h;subst h
   have hc:=ev_sound hS hT h1
   generalize hcu:evalT tmps c=cu at hc
   cases hc
   exact⟨evalT tmps a,by simp[execOp,hcu,asBool],ev_sound hS hT h2⟩
  ·rename_i a' b' h1 h2 h3
   simp at h;subst h
   have hc:=ev_sound hS hT h1
   generalize hcu:evalT tmps c=cu at hc
   cases hc
   exact⟨evalT tmps b,by simp[execOp,hcu,asBool],ev_sound hS hT h3⟩
  ·cases h
 case build t parts=>
  unfold buildF at h
  simp only[Option.bind_eq_some_iff] at h
  obtain⟨ps,hp,h⟩:=h
  obtain⟨r,h1,h2⟩:=buildE_sound h (evp_sound hS hT hp)
  refine gives_next ⟨r,?_,h2⟩
  have e:(parts.toList.map fun(i,x)=>(i,evalT tmps x)).toArray=parts.map fun(i,x)=>(i,evalT tmps x):=by
   apply Array.ext';simp
  rw[<-e];exact h1
 case load t a=>
  unfold loadF at h
  split at h
  ·rename_i a' ha
   exact gives_next (loadE_sound hS h (ev_sound hS hT ha))
  ·cases h
 case nilCheck x=>
  unfold nilF at h
  split at h
  ·rename_i b o' hx
   simp at h;subst h
   have hv:=ev_sound hS hT hx
   generalize hcu:evalT tmps x=cu at hv
   have hv':=hv
   cases hv
   exact⟨_,by simp[execOp,hcu],hv'⟩
  ·rename_i cs hx
   simp at h;subst h
   have hv:=ev_sound hS hT hx
   generalize hcu:evalT tmps x=cu at hv
   have hv':=hv
   cases hv
   exact⟨_,by simp[execOp,hcu],hv'⟩
  ·rename_i f a c hx
   simp at h;subst h
   have hv:=ev_sound hS hT hx
   generalize hcu:evalT tmps x=cu at hv
   have hv':=hv
   cases hv
   exact⟨_,by simp[execOp,hcu],hv'⟩
  ·cases h
 case binOp op t x y yT=>
  unfold binF at h
  split at h
  ·rename_i a b ha hb
   exact gives_next (binE_sound h (ev_sound hS hT ha) (ev_sound hS hT hb))
  ·cases h
 case unOp op t x=>
  unfold unF at h
  simp only[Option.bind_eq_some_iff] at h
  obtain⟨a,ha,h⟩:=h
  exact gives_next (unE_sound h (ev_sound hS hT ha))
 case convert s d x=>
  unfold convF at h
  simp only[Option.bind_eq_some_iff] at h
  obtain⟨a,ha,h⟩:=h
  exact gives_next (convE_sound h (ev_sound hS hT ha))
 case makeInterface t x=>
  unfold mkifF at h
  split at h
  ·cases h
  ·rename_i d v' hni hu hx
   simp at h;subst h
   refine⟨.iface t (evalT tmps x),?_,.iface (ev_sound hS hT hx)⟩
   cases d<;>first | exact(hni _ rfl).elim | simp[execOp,Instr.makeInterface,run_und hu]
  ·cases h
 case makeFunc fn a c=>
  unfold mkfnF at h
  split at h
  ·rename_i f a' c' ha hc
   simp at h;subst h
   have h1:=evs_sound hS hT ha
   have h2:=evs_sound hS hT hc
   refine⟨.func (.func f) (a.map (evalT tmps)) (c.map (evalT tmps)),by simp[execOp,Instr.makeFunc],?_⟩
   exact .func (by have:=h1.1;simpa using this) (by have:=h2.1;simpa using this)
    (fun j x v hx hv=>h1.2 j x v hx (by simpa using hv)) (fun j x v hx hv=>h2.2 j x v hx (by simpa using hv))
  ·cases h
 case slice t x lo hi mx=>
  unfold sliceF at h
  split at h
  ·rename_i x' lo' hi' mx' hx hlo hhi hmx
   exact gives_next (sliceE_sound h (ev_sound hS hT hx) (evo_sound hS hT hlo) (evo_sound hS hT hhi) (evo_sound hS hT hmx))
  ·cases h
 case fieldAddr t x f=>
  unfold faddrF at h
  split at h
  ·rename_i a ha;exact gives_next (fieldAddrE_sound h (ev_sound hS hT ha))
  ·cases h
 case field t x f=>
  unfold fieldF at h
  simp only[Option.bind_eq_some_iff] at h
  obtain⟨a,ha,h⟩:=h
  exact gives_next (fieldE_sound h (ev_sound hS hT ha))
 case indexAddr t x i=>
  unfold iaddrF at h
  split at h
  ·rename_i a b ha hb;exact gives_next (indexAddrE_sound h (ev_sound hS hT ha) (ev_sound hS hT hb))
  ·cases h
 case index t x i=>
  unfold indexF at h
  split at h
  ·rename_i a b ha hb;exact gives_next (indexE_sound h (ev_sound hS hT ha) (ev_sound hS hT hb))
  ·cases h
 case lookup t x i ok=>
  unfold lookupF at h
  split at h
  ·rename_i a b ha hb;exact gives_next (lookupE_sound hS h (ev_sound hS hT ha) (ev_sound hS hT hb))
  ·cases h
 case extract t i=>
  unfold extractF at h
  split at h
  ·rename_i vs hx
   have hv:=ev_sound hS hT hx
   generalize hcu:evalT tmps t=cu at hv
   obtain⟨us,rfl,hl⟩:=tup_list hv
   rw[get?_eq] at h
   have hlt:=lt_of_get h
   have aF:i<us.size:=by have:=hl.1;simp at this;omega
   have e1:us.toList[i]?=some us[i]:=by simp[aF]
   have e2:us[i]?=some us[i]:=by simp[aF]
   exact⟨us[i],by simp[execOp,hcu,Instr.extract,e2],hl.2 i v _ h e1⟩
  ·cases h
 case typeAssert x xT aT ok=>
  unfold assertF at h
  simp only[Option.bind_eq_some_iff] at h
  obtain⟨a,ha,h⟩:=h
  exact gives_next (typeAssertE_sound h (ev_sound hS hT ha))
 case call c=>exact callPure_sound hS hT h
end
end Go.Proofs.YtnnhofmknilopaaGreatDoor.Gx
