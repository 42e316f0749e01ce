import Derived.Test.YtnnhofmknilopaaGreatDoorGxB
import Derived.Laws.BitsLemmas
import Derived.Laws.BytesString
namespace Go.Proofs.YtnnhofmknilopaaGreatDoor.Gx
open Go
def writeArr (cells:Array Value) (k:Nat):List Value->Array Value
 | []=>cells
 | u::us=>writeArr (cells.setIfInBounds k u) (k+1) us
theorem writeArr_size:∀(us:List Value) (cells:Array Value) (k:Nat),(writeArr cells k us).size=cells.size
 | [],cells,k=>rfl
 | u::us,cells,k=>by simp[writeArr,writeArr_size us]
theorem writeArr_get:∀(us:List Value) (cells:Array Value) (k j:Nat),k+us.length<=cells.size->
  (writeArr cells k us)[j]?=if k<=j/\j<k+us.length then us[j - k]? else cells[j]?
 | [],cells,k,j,_=>by rw[if_neg (by simp)];rfl
 | u::us,cells,k,j,h=>by
  simp only[List.length_cons] at h
  simp only[writeArr]
  rw[writeArr_get us _ (k+1) j (by simp;omega)]
  by_cases h1:k+1<=j/\j<k+1+us.length
  ·rw[if_pos h1,if_pos (by simp;omega)]
   have:j - k=(j - (k+1))+1:=by omega
   rw[this];simp
  ·rw[if_neg h1,Array.getElem?_setIfInBounds]
   by_cases h2:k=j
   ·subst h2
    rw[if_pos rfl,if_pos (by omega),if_pos (by simp)]
    simp
   ·rw[if_neg h2,if_neg (by simp;omega)]
def oneV:Value->Prop
 | .agg _ | .tuple _=>False
 | _=>True
theorem VRel.oneV {B:Nat->Prop} {w:World} {φ:Phi} {v:AV} {u:Value} (h:VRel B w φ v u) (hc:isCell v=true):oneV u:=by
 cases h<;>first | trivial | (simp[isCell] at hc;done)
theorem LRel.oneV {B:Nat->Prop} {w:World} {φ:Phi} {l:List AV} {us:List Value} (h:LRel B w φ l us) (hc:l.all isCell=true):∀u∈us,Gx.oneV u:=by
 intro u hu
 obtain⟨i,hi,rfl⟩:=List.getElem_of_mem hu
 have hl:i<l.length:=by have:=h.1;omega
 exact(h.2 i l[i] us[i] (List.getElem?_eq_getElem hl) (List.getElem?_eq_getElem hi)).oneV (List.all_eq_true.1 hc _ (List.getElem_mem hl))
theorem setCell_eq {w:World} {cb o:Nat} {cells:Array Value} {t:TypeId} {fz:Nat × Nat} (h:w.heap[cb]?=some (.cells cells t fz)) (v:Value):
  w.setCell ⟨cb,o,none⟩ v=setAt w cb (.cells (cells.setIfInBounds o v) t fz):=by
 unfold World.setCell setAt
 have hlt:=heap_lt h
 have aW:w.heap[cb]=.cells cells t fz:=by simpa [Array.getElem?_eq_getElem hlt] using h
 congr 1
 apply Array.ext
 ·simp
 ·intro i h1 h2
  simp only[Array.getElem_modify]
  by_cases e:cb=i
  ·subst e;simp[aW]
  ·have:=Array.getElem?_setIfInBounds_ne (xs:=w.heap) (a:=Obj.cells (cells.setIfInBounds o v) t fz) (i:=cb) (j:=i) e
   have h3:i<w.heap.size:=by simpa using h2
   rw[Array.getElem?_eq_getElem h2,Array.getElem?_eq_getElem h3] at this
   simp[e]
   exact(Option.some.inj this).symm
theorem run_store_cell {P:Program} {w:World} {cb o:Nat} {cells:Array Value} {t:TypeId} {u:Value} (h:w.heap[cb]?=some (.cells cells t (0,0))) (ho:o<cells.size) (hu:oneV u):
  (store ⟨cb,o,none⟩ u).run P w=.ok () (setAt w cb (.cells (cells.setIfInBounds o u) t (0,0))):=by
 have h1:w.cell? ⟨cb,o,none⟩=some cells[o]:=by rw[cell_of_cells h];simp[ho]
 have h2:w.frozen? ⟨cb,o,none⟩=false:=by simp[World.frozen?,h]
 have key:(store ⟨cb,o,none⟩ u).run P w=.ok () (w.setCell ⟨cb,o,none⟩ u):=by
  cases u<;>first | exact hu.elim | simp[store,Sem.run,h1,h2]
 rw[key,setCell_eq h]
theorem setAt_setAt (w:World) (cb:Nat) (o o':Obj):setAt (setAt w cb o) cb o'=setAt w cb o':=by simp[setAt]
theorem setAt_id {w:World} {cb:Nat} {o:Obj} (h:w.heap[cb]?=some o):setAt w cb o=w:=by
 unfold setAt
 have hlt:=heap_lt h
 have aW:w.heap[cb]=o:=by simpa [Array.getElem?_eq_getElem hlt] using h
 have:w.heap.setIfInBounds cb o=w.heap:=by
  apply Array.ext
  ·simp
  ·intro i h1 h2
   by_cases e:cb=i
   ·subst e;simp[aW]
   ·have:=Array.getElem?_setIfInBounds_ne (xs:=w.heap) (a:=o) (i:=cb) (j:=i) e
    rw[Array.getElem?_eq_getElem h1,Array.getElem?_eq_getElem h2] at this
    exact Option.some.inj this
 rw[this]
theorem run_storeCells {P:Program} {cb o:Nat} {t:TypeId}:∀(us:List Value) (i:Nat) (w:World) (cells:Array Value),w.heap[cb]?=some (.cells cells t (0,0))->o+i+us.length<=cells.size->
  (∀u∈us,oneV u)->(storeCells ⟨cb,o,none⟩ us i).run P w=.ok () (setAt w cb (.cells (writeArr cells (o+i) us) t (0,0)))
 | [],i,w,cells,h,_,_=>by simp[storeCells,writeArr,setAt_id h]
 | u::us,i,w,cells,h,hl,hu=>by
  simp only[List.length_cons] at hl
  have h1:=run_store_cell (P:=P) (o:=o+i) h (by omega) (hu u (by simp))
  have h2:=run_storeCells (P:=P) (o:=o) us (i+1) _ _ (setAt_same (o':=.cells (cells.setIfInBounds (o+i) u) t (0,0)) h) (by simp;omega) (fun x hx=>hu x (by simp[hx]))
  simp[storeCells,addr_add,h1,h2,setAt_setAt,writeArr,Nat.add_assoc]
section
variable {E:Env} {F:Nat->Prop} {φ:Phi} {st:St} {w:World}
theorem goes_setAt {B:Nat->Prop} {cb:Nat} {o o':Obj} (hb:B cb) (h:w.heap[cb]?=some o)
  (hsh:∀(cells:Array Value) (t:TypeId) (fz:Nat × Nat),o=.cells cells t fz->∃cells':Array Value,o'=.cells cells' t fz/\cells'.size=cells.size):Goes B w B (setAt w cb o') where
 keep x _ hx:=⟨hx,setAt_other w o' (fun e=>hx (e ▸ hb))⟩
 size:=by simp[setAt]
 shape x cells t fz hc:=by
  by_cases e:cb=x
  ·subst e
   rw[h] at hc;cases hc
   obtain⟨c',e1,e2⟩:=hsh _ _ _ rfl
   exact⟨c',by rw[setAt_same h,e1],e2⟩
  ·exact⟨cells,by rw[setAt_other w o' e];exact hc,rfl⟩
theorem write_sound (hS:Sess E F φ st w) {b off cb co:Nat} {cs cs' vs:List AV} {us:List Value} (hb:st[b]?=some (.own cs)) (hp:φ b=some (cb,co))
  (hw:writeAt cs off vs=some cs') (hv:LRel (Bd F φ st) w φ vs us) (hc:vs.all isCell=true):
  ∃w',(storeCells ⟨cb,co+off,none⟩ us).run E.P w=.ok () w'/\Sess E F φ (st.set b (.own cs')) w'/\Ext φ st w φ (st.set b (.own cs')) w':=by
 obtain⟨cells,t,h1,h2⟩:=hS.blk b _ cb co hb hp
 obtain⟨e1,e2,e3⟩:=writeAt_some _ _ _ _ hw
 have ae:=hv.1
 have ct:vs=[]\/co+off+us.length<=cells.size:=by
  by_cases hne:vs=[]
  ·exact .inl hne
  ·right
   have h3:=e2 hne
   have:0<cs.length:=by cases vs with
    | nil=>exact absurd rfl hne
    | cons a l=>simp at h3;omega
   obtain⟨v,hv1,_⟩:=h2 (cs.length - 1) cs[cs.length - 1] (List.getElem?_eq_getElem (by omega))
   have:co+(cs.length - 1)<cells.size:=by
    rcases Nat.lt_or_ge (co+(cs.length - 1)) cells.size with h | h
    ·exact h
    ·simp[Array.getElem?_eq_none h] at hv1
   omega
 rcases ct with rfl | ct
 ·have hus:us=[]:=hv.inv_nil
  subst hus
  have:cs'=cs:=by cases cs<;>simp[writeAt] at hw<;>simp[hw]
  subst this
  have hst:st.set b (.own cs')=st:=by
   have hlt:=lt_of_get hb
   apply List.ext_getElem?
   intro i
   rw[List.getElem?_set]
   by_cases e:b=i
   ·subst e;simp[hlt];simpa [List.getElem?_eq_getElem hlt] using hb.symm
   ·simp[e]
  rw[hst]
  exact⟨w,by simp[storeCells],hS,Ext.refl _ _ _⟩
 ·have aQ:=run_storeCells (P:=E.P) us 0 w cells (o:=co+off) h1 (by omega) (hv.oneV hc)
  simp only[Nat.add_zero] at aQ
  refine⟨_,aQ,?_⟩
  have az:Own φ st cb:=⟨b,_,co,hb,rfl,hp⟩
  refine hS.change hb rfl rfl hp (fun c t' fz hc=>?_) ?_
  ·rw[h1] at hc;cases hc;exact⟨_,rfl,writeArr_size _ _ _⟩
  ·have g:Goes (Bd F φ st) w (Bd F φ st) (setAt w cb (.cells (writeArr cells (co+off) us) t (0,0))):=
    goes_setAt (.inr az) h1 (fun c t' fz hc=>by cases hc;exact⟨_,rfl,writeArr_size _ _ _⟩)
   refine⟨_,t,setAt_same h1,fun j c hj=>?_⟩
   rw[e3 j] at hj
   rw[writeArr_get us cells (co+off) (co+j) ct]
   by_cases hr:off<=j/\j<off+vs.length
   ·rw[if_pos hr] at hj
    rw[if_pos (by omega),show co+j - (co+off)=j - off by omega]
    have hlt:j - off<us.length:=by omega
    exact⟨us[j - off],List.getElem?_eq_getElem hlt,(hv.2 (j - off) c _ hj (List.getElem?_eq_getElem hlt)).mono g (fun _ _ h=>h)⟩
   ·rw[if_neg hr] at hj
    rw[if_neg (by omega)]
    obtain⟨v,hv1,hv2⟩:=h2 j c hj
    exact⟨v,hv1,hv2.mono g (fun _ _ h=>h)⟩
theorem storeE_sound (hS:Sess E F φ st w) {t:TypeId} {a v:AV} {ua uv:Value} {st':St} (h:storeE E.P st t a v=some st') (ha:VRel (Bd F φ st) w φ a ua) (hv:VRel (Bd F φ st) w φ v uv):
  ∃w',(Instr.storeAt t ua uv).run E.P w=.ok () w'/\Sess E F φ st' w'/\Ext φ st w φ st' w':=by
 unfold storeE at h
 split at h
 ·rename_i b off
  rw[get?_eq] at h
  split at h
  ·rename_i cs hb
   split at h
   ·rename_i au
    simp only[Bool.and_eq_true,decide_eq_true_eq] at au
    obtain⟨hc1,hc2⟩:=au
    simp at h
    obtain⟨cs',hw,rfl⟩:=h
    cases ha with
    | ptr hp=>
     rename_i cb co
     obtain⟨w',h1,h2,h3⟩:=write_sound hS hb hp hw (hv.cells (ne_unk hc2)) hc2
     refine⟨w',?_,by rw[upd_eq];exact h2,by rw[upd_eq];exact h3⟩
     have ae:uv.cells.size=(cellsOf v).length:=by have:=(hv.cells (ne_unk hc2)).1;simp at this;omega
     simp[Instr.storeAt,Instr.sureAddr,storeVar,run_size hc1,ae,h1]
   ·cases h
  ·cases h
 ·cases h
theorem rep_get (z:List AV):∀(n:Nat),(rep z n).length=n*z.length
 | 0=>by simp[rep]
 | n+1=>by simp[rep,rep_get z n,Nat.add_mul];omega
theorem rep_sound {B:Nat->Prop} {z:List AV} {uz:Array Value} (h:LRel B w φ z uz.toList):∀(n:Nat),
  LRel B w φ (rep z n) ((Array.range (n*uz.size)).map (uz[·% uz.size]!)).toList:=by
 intro n
 have hsz:z.length=uz.size:=by have:=h.1;simpa using this
 refine⟨by simp[rep_get,hsz],fun j x v hx hv=>?_⟩
 have key:∀(n j:Nat) x,(rep z n)[j]?=some x->z[j % z.length]?=some x:=by
  intro n
  induction n with
  | zero=>intro j x hx;simp[rep] at hx
  | succ n ih=>
   intro j x hx
   simp only[rep] at hx
   rcases Nat.lt_or_ge j z.length with hl | hl
   ·rw[List.getElem?_append_left hl] at hx
    rwa [Nat.mod_eq_of_lt hl]
   ·rw[List.getElem?_append_right hl] at hx
    have:=ih _ x hx
    rwa [Nat.mod_eq_sub_mod hl]
 have hx':=key n j x hx
 simp at hv
 obtain⟨j',hj',rfl⟩:=hv
 obtain⟨hlt,rfl⟩:j<n*uz.size/\j=j':=by
  rcases Nat.lt_or_ge j (n*uz.size) with hl | hl
  ·rw[List.getElem?_range hl] at hj';simp at hj';exact⟨hl,hj'⟩
  ·rw[List.getElem?_eq_none (by simpa using hl)] at hj';cases hj'
 have bB:0<uz.size:=by
  rcases Nat.eq_zero_or_pos uz.size with h0 | h0
  ·rw[h0] at hlt;simp at hlt
  ·exact h0
 have hm:j % uz.size<uz.size:=Nat.mod_lt _ bB
 have:uz.toList[j % uz.size]?=some uz[j % uz.size]!:=by simp[hm]
 exact h.2 _ x _ (by rw[<-hsz];exact hx') this
theorem own_new {P:Program} {B':Nat->Prop} {cs:List AV} {us:List Value} {t:TypeId} {φ':Phi} (g:Goes (Bd F φ st) w B' (pushed w (.cells us.toArray t))) (hp:∀b x,φ b=some x->φ' b=some x)
  (h:LRel (Bd F φ st) w φ cs us):ORel P B' (pushed w (.cells us.toArray t)) φ' w.heap.size 0 (.own cs):=by
 refine⟨us.toArray,t,pushed_new w _,fun j c hj=>?_⟩
 have hlt:j<us.length:=by have:=lt_of_get hj;have:=h.1;omega
 exact⟨us[j],by simp[hlt],(h.2 j c _ hj (List.getElem?_eq_getElem hlt)).mono g hp⟩
theorem wrap_i64 {n:Int} (h0:0<=n) (h1:n<9223372036854775808):IntKind.i64.wrap n=n:=by
 simp[IntKind.wrap,IntKind.signed,IntKind.bits];split<;>omega
def Makes (E:Env) (F:Nat->Prop) (φ:Phi) (st:St) (w:World) (s:Sem Next) (ab:AB) (mk:Nat->AV):Prop:=
 live ab=true/\∃obj u,s.run E.P w=.ok (.value u) (pushed w obj)/\
  ∀(b:Nat) (φ':Phi) (B':Nat->Prop),(∀b x,φ b=some x->φ' b=some x)->φ' b=some (w.heap.size,0)->Goes (Bd F φ st) w B' (pushed w obj)->
   ORel E.P B' (pushed w obj) φ' w.heap.size 0 ab/\VRel B' (pushed w obj) φ' (mk b) u
theorem ownIf_some {cs:List AV} {mk:Nat->AV} {ab:AB} {mk':Nat->AV} (h:ownIf cs mk=some (ab,mk')):cs.all isCell=true/\ab=.own cs/\mk'=mk:=by
 unfold ownIf at h
 split at h
 ·rename_i hc;simp at h;exact⟨hc,h.1.symm,h.2.symm⟩
 ·cases h
theorem makes_ptr {s:Sem Next} {cs:List AV} {us:List Value} {t:TypeId} (hl:LRel (Bd F φ st) w φ cs us)
  (hr:s.run E.P w=.ok (.value (.pointer (some ⟨w.heap.size,0,none⟩))) (pushed w (.cells us.toArray t))):Makes E F φ st w s (.own cs) ptrTo:=
 ⟨rfl,_,_,hr,fun b φ' B' hle hb g=>⟨own_new g hle hl,by have:=VRel.ptr (B:=B') (w:=pushed w (.cells us.toArray t)) (off:=0) hb;simpa [ptrTo] using this⟩⟩
theorem makes_sl {s:Sem Next} {cs:List AV} {us:List Value} {t:TypeId} {len cap:Nat} (hl:LRel (Bd F φ st) w φ cs us) (hle:len<=cap)
  (hr:s.run E.P w=.ok (.value (.slice (some ⟨w.heap.size,0,none⟩) len cap)) (pushed w (.cells us.toArray t))):Makes E F φ st w s (.own cs) (slTo len cap):=
 ⟨rfl,_,_,hr,fun b φ' B' ce hb g=>⟨own_new g ce hl,.sl hb (.inr rfl) hle (fun c e=>by cases e;rfl) (fun sz e=>by cases e)⟩⟩
theorem allocOp_sound (hS:Sess E F φ st w) {fr:Fr} {tmps:Array Value} (hT:LRel (Bd F φ st) w φ fr.tm tmps.toList) {o:Oper} {ab:AB} {mk:Nat->AV} (h:allocOp o.op E fr=some (ab,mk)):
  Makes E F φ st w (execOp (evalT tmps) o) ab mk:=by
 obtain⟨dst,op,ty,pos,after,guard⟩:=o
 simp only at h
 cases op<;>simp only[allocOp,noneA] at h<;>first | (cases h;done) | skip
 case alloc t=>
  unfold allocF at h
  split at h
  ·rename_i z hz
   obtain⟨_,rfl,rfl⟩:=ownIf_some h
   obtain⟨uz,h1,h2⟩:=run_zero (w:=w) hz
   refine makes_ptr (us:=uz.cells.toList) (t:=t) ((ofV_rel h2).cells (ofV_ne h2)) ?_
   simp[execOp,Instr.alloc,h1,newVar,newRow,pushed]
  ·cases h
 case box t x=>
  unfold boxF at h
  split at h
  ·rename_i v hv
   obtain⟨hic,rfl,rfl⟩:=ownIf_some h
   refine makes_ptr (us:=(evalT tmps x).cells.toList) (t:=t) ((ev_sound hS hT hv).cells (ne_unk hic)) ?_
   simp[execOp,Instr.box,newVar,newRow,pushed]
  ·cases h
 case buildSlice t len parts=>
  unfold bslF at h
  split at h
  ·rename_i ps hps
   split at h
   ·rename_i cs hcs
    simp at h;obtain⟨rfl,rfl⟩:=h
    unfold buildSliceE at hcs
    split at hcs
    ·rename_i e hu
     split at hcs
     ·rename_i s z hs hz
      split at hcs
      ·rename_i au
       simp only[Bool.and_eq_true,decide_eq_true_eq] at au
       obtain⟨uz,h1,h2⟩:=run_zero (w:=w) hz
       have hzc:LRel (Bd F φ st) w φ (cellsOf z) uz.cells.toList:=((ofV_rel h2).cells (ofV_ne h2))
       have hzs:uz.cells.size=s:=by have:=hzc.1;simp at this;omega
       obtain⟨res,h3,h4⟩:=fillE_sound hcs (evp_sound hS hT hps) (rep_sound hzc len)
       refine makes_sl (us:=res.toList) (t:=e) h4 (Nat.le_refl _) ?_
       have hle:¬(len*s > 2^24):=by omega
       by_cases h0:len*s=0
       ·have h5:(Array.range (len*uz.cells.size)).map (uz.cells[·% uz.cells.size]!)=#[]:=by rw[hzs,h0];simp
        rw[h5] at h3
        simp[execOp,Instr.buildSlice,run_und hu,run_size hs,h0,newRow,pushed]
        have h6:(Array.range 0).map (fun _=>(default:Value))=#[]:=by simp
        have h3':Instr.fill (fun i=>some (i*s,s)) #[] (parts.toList.map fun x=>(x.fst,evalT tmps x.snd))=some res:=h3
        rw[h6,h3'];simp
       ·rw[hzs] at h3
        simp[execOp,Instr.buildSlice,run_und hu,run_size hs,hle,h0,h1,newRow,pushed]
        rw[hzs]
        have h3':Instr.fill (fun i=>some (i*s,s)) ((Array.range (len*s)).map (uz.cells[·% s]!)) (parts.toList.map fun x=>(x.fst,evalT tmps x.snd))=some res:=h3
        rw[h3'];simp
      ·cases hcs
     ·cases hcs
    ·cases hcs
   ·cases h
  ·cases h
 case makeSlice t l c=>
  unfold mslF at h
  split at h
  ·rename_i l' c' hl hc
   split at h
   ·rename_i cs ln cp hm
    simp at h;obtain⟨rfl,rfl⟩:=h
    unfold makeSliceE at hm
    split at hm
    ·rename_i e k1 l0 k2 c0 hu
     split at hm
     ·rename_i i z hi hz
      split at hm
      ·rename_i au
       simp only[Bool.and_eq_true,decide_eq_true_eq] at au
       obtain⟨⟨⟨c1,c2⟩,c3⟩,c4⟩:=au
       simp at hm
       obtain⟨rfl,rfl,rfl⟩:=hm
       have vl:=ev_sound hS hT hl
       have vc:=ev_sound hS hT hc
       generalize hul:evalT tmps l=ul at vl
       generalize huc:evalT tmps c=uc at vc
       cases vl;cases vc
       obtain⟨uz,h1,h2⟩:=run_zero (w:=w) hz
       have hzc:LRel (Bd F φ st) w φ (cellsOf z) uz.cells.toList:=((ofV_rel h2).cells (ofV_ne h2))
       have hzs:uz.cells.size=i.size:=by have:=hzc.1;simp at this;omega
       have ji:=rep_sound hzc c0
       refine makes_sl (us:=((Array.range (c0*uz.cells.size)).map (uz.cells[·% uz.cells.size]!)).toList) (t:=e) ji c1 ?_
       have w1:IntKind.i64.wrap (l0:Int)=l0:=wrap_i64 (by omega) (by omega)
       have w2:IntKind.i64.wrap (c0:Int)=c0:=wrap_i64 (by omega) (by omega)
       have b0:(i.bytes:Int)*(c0:Int)=((c0*i.bytes:Nat):Int):=by rw[Nat.mul_comm];simp
       have b1:¬(281474976710656<(i.bytes:Int)*(c0:Int)):=by rw[b0];omega
       have hs:szOf E.P e=some i.size:=by simp[szOf,hi]
       have b4:¬((l0:Int) > (c0:Int)):=by omega
       have g4:¬(((c0:Int)<0\/281474976710656<(i.bytes:Int)*(c0:Int))\/(l0:Int)<0):=by
        rintro((h | h) | h)
        ·omega
        ·exact b1 h
        ·omega
       by_cases h0:c0*i.size=0
       ·rw[hzs,h0]
        simp[execOp,Instr.makeSlice,run_und hu,hul,huc,asInt,asIntOf,run_info hi,w1,w2,b4,run_size hs,h0,newRow,pushed]
        rw[if_neg g4]
        have h6:(Array.range 0).map (fun _=>(default:Value))=#[]:=by simp
        simp[h6]
       ·simp[execOp,Instr.makeSlice,run_und hu,hul,huc,asInt,asIntOf,run_info hi,w1,w2,b4,run_size hs,h0,h1,newRow,pushed,hzs]
        rw[if_neg g4]
        have h6:(Array.range (c0*i.size)).map (uz.cells[·% i.size]!)=((List.range (c0*i.size)).map (uz.cells[·% i.size]!)).toArray:=by
         apply Array.ext';simp
        simp[h6]
      ·cases hm
     ·cases hm
    ·cases hm
   ·cases h
  ·cases h
 case makeMap t r=>
  unfold mmapF at h
  split at h
  ·simp at h;obtain⟨rfl,rfl⟩:=h
   refine⟨rfl,.map #[] 0,.map (some w.heap.size),by simp[execOp,Instr.makeMap,pushed],fun b φ' B' hle hb g=>⟨⟨#[],pushed_new w _,rfl,fun j e c he=>by simp at he⟩,.map hb⟩⟩
  ·cases h
end
end Go.Proofs.YtnnhofmknilopaaGreatDoor.Gx
namespace Go.Proofs.YtnnhofmknilopaaGreatDoor.Gx
open Go
section
variable {E:Env} {F:Nat->Prop} {φ:Phi} {st:St} {w:World}
theorem run_loadCells_zero {P:Program} (a:Addr):(loadCells a 0).run P w=.ok #[] w:=rfl
theorem srcOf_sound (hS:Sess E F φ st w) {s n:Nat} {y:AV} {new:List AV} {uy:Value} (h:srcOf st s y=some (n,new)) (hy:VRel (Bd F φ st) w φ y uy):
  ∃us:List Value,(Builtin.lenOf uy).run E.P w=.ok n w/\LRel (Bd F φ st) w φ new us/\us.length=n*s/\∀m,m<=n->(Builtin.firstCells s m uy).run E.P w=.ok (us.take (m*s)).toArray w:=by
 have rows:∀(us:List Value) (cb o m:Nat),Row w cb o us->m<=n->us.length=n*s->(loadCells ⟨cb,o,none⟩ (m*s)).run E.P w=.ok (us.take (m*s)).toArray w:=by
  intro us cb o m hr hm hl
  have:=run_loadCells (P:=E.P) (hr.take (m*s))
  have ae:(us.take (m*s)).length=m*s:=by
   rw[List.length_take,hl];exact Nat.min_eq_left (Nat.mul_le_mul_right s hm)
  rwa [ae] at this
 unfold srcOf at h
 split at h
 ·simp at h;obtain⟨rfl,rfl⟩:=h
  cases hy
  exact⟨[],rfl,.nil,by simp,fun m hm=>by simp[Builtin.firstCells]⟩
 ·rename_i len cs cap
  simp only[Option.map_eq_some_iff,Prod.mk.injEq] at h
  obtain⟨r,hr,hn,rfl⟩:=h
  subst n
  obtain⟨e1,e2⟩:=takeN_some _ _ _ hr
  cases hy with
  | isl vs hx hl hb hc hv=>
   rename_i a ccap
   obtain⟨us,f1,f2,f3⟩:=pick_row (B:=Bd F φ st) (w:=w) (φ:=phi0) cs (fun j v=>w.cell? ⟨a.block,a.off+j,none⟩=some v) (fun j c hj=>⟨vs j,hc j c hj,hv j c hj⟩)
   have ae:(us.take (len*s)).length=len*s:=by
    rw[<-(f3.take (len*s)).1,<-e1,e2]
   refine⟨us.take (len*s),rfl,by rw[e1];exact(f3.weak φ).take _,ae,fun m hm=>?_⟩
   by_cases h0:m*s=0
   ·simp[Builtin.firstCells,h0,run_loadCells_zero]
   ·have hne:cs≠[]:=fun e=>by
     subst e
     simp at e1
     subst e1
     simp at e2
     have:m*s<=len*s:=Nat.mul_le_mul_right s hm
     omega
    obtain⟨hb1,hb2⟩:=hb hne
    obtain⟨ab,ao,asp⟩:=a
    simp only at hb1 hb2 f2
    subst hb2
    have af:Row w ab ao (us.take (len*s)):=(show Row w ab ao us from f2).take _
    simp only[Builtin.firstCells]
    exact rows _ ab ao m af hm ae
 ·rename_i b off len cap
  split at h
  ·rename_i cs hcs
   simp only[Option.map_eq_some_iff,Prod.mk.injEq] at h
   obtain⟨r,hr,hn,rfl⟩:=h
   subst n
   obtain⟨e1,e2⟩:=takeN_some _ _ _ hr
   cases hy with
   | sl hp ho hl hx hg=>
    rename_i cb co o ccap
    obtain⟨cb',o',us,q1,q2,q3⟩:=cellsAt_sound hS hcs (.ptr (off:=off) hp)
    simp at q1
    obtain⟨rfl,rfl⟩:=q1
    have ae:(us.take (len*s)).length=len*s:=by
     rw[<-(q2.take (len*s)).1,<-e1,e2]
    refine⟨us.take (len*s),rfl,by rw[e1];exact q2.take _,ae,fun m hm=>?_⟩
    rcases ho with h0 | rfl
    ·obtain rfl:m=0:=by omega
     simp[Builtin.firstCells,run_loadCells_zero]
    ·simp only[Builtin.firstCells]
     exact rows _ cb (co+off) m (q3.take _) hm ae
  ·cases h
 ·rename_i l
  split at h
  ·rename_i hs
   subst hs
   simp at h
   obtain⟨rfl,rfl⟩:=h
   cases hy
   have hsz:(⟨l.toArray⟩:ByteArray).size=l.length:=by simp[ByteArray.size]
   refine⟨l.map fun b=>.int .u8 b.toNat,by simp[Builtin.lenOf,hsz],⟨by simp,fun j x v hx hv=>?_⟩,by simp,fun m hm=>?_⟩
   ·simp at hx hv
    obtain⟨b,hb,rfl⟩:=hx
    obtain⟨b',hb',rfl⟩:=hv
    rw[hb] at hb';cases hb'
    exact .int _ _
   ·have:((⟨l.toArray⟩:ByteArray).extract 0 m).data=(l.take m).toArray:=by
     apply Array.ext'
     simp[ByteArray.data_extract,List.extract_eq_take_drop]
    simp[Builtin.firstCells,List.map_take]
  ·cases h
 ·cases h
theorem nextcap_le (need cap:Nat) (h:cap<need):Builtin.nextslicecap need cap<=2*need+1024:=by
 unfold Builtin.nextslicecap
 split
 ·omega
 ·split
  ·omega
  ·have grow:∀(r c:Nat),c<=need->Builtin.growBy need r c<=2*need+1024:=by
    intro r
    induction r with
    | zero=>intro c hc;simp[Builtin.growBy];omega
    | succ r ih=>
     intro c hc
     simp only[Builtin.growBy]
     split
     ·omega
     ·by_cases hn:c+(c+768) / 4<=need
      ·exact ih _ hn
      ·have:∀(r c:Nat),need<=c->Builtin.growBy need r c=c:=by
        intro r c hc
        cases r with
        | zero=>rfl
        | succ r=>simp only[Builtin.growBy];rw[if_pos hc]
       rw[this _ _ (by omega)]
       omega
   exact grow 4 cap (by omega)
theorem run_grow {P:Program} {argTypes:Array TypeId} {ty sT xT e:TypeId} {dx:TypeDesc} {i:TypeInfo} {z:AV} {base:Option Addr} {sLen sCap n:Nat} {uy:Value} {old new:List Value}
  (h0:argTypes[0]?=some sT) (h1:argTypes[1]?=some xT) (hs:P.underlying sT=some (.slice e)) (hx:P.underlying xT=some dx) (hni:∀k,dx≠.int k)
  (hi:P.info? e=some i) (hz:zeroT P e=some z) (hn:(Builtin.lenOf uy).run P w=.ok n w) (aD:¬(sLen+n<=sCap)) (ba:(2*(sLen+n)+1024)*(i.bytes+1)<=70368744177664)
  (hold:(Builtin.firstCells i.size sLen (.slice base sLen sCap)).run P { w with drawn:=w.drawn+1 }=.ok old.toArray { w with drawn:=w.drawn+1 })
  (am:(Builtin.firstCells i.size n uy).run P { w with drawn:=w.drawn+1 }=.ok new.toArray { w with drawn:=w.drawn+1 }):
  ∃(newCap:Nat) (rest:Array Value),sLen+n<=newCap/\rest.size=(newCap - (sLen+n))*((i.zero.map (·.cells.size)).getD 0)/\
   (Builtin.append_ argTypes ty #[.slice base sLen sCap,uy]).run P w=
     .ok (.slice (some ⟨w.heap.size,0,none⟩) (sLen+n) newCap) (pushed { w with drawn:=w.drawn+1 } (.cells (old++new++rest.toList).toArray e)):=by
 obtain⟨i',v,q1,q2,q3⟩:=zeroT_some hz
 rw[hi] at q1;cases q1
 have hsz:szOf P e=some i.size:=by simp[szOf,hi]
 have hz':∀w,(zeroValue e).run P w=.ok v w:=fun w=>by simp[zeroValue,run_info hi,q2]
 have hb:(2*(sLen+n)+1024)*i.bytes<=70368744177664:=Nat.le_trans (Nat.mul_le_mul_left _ (Nat.le_succ _)) ba
 have hb2:2*(sLen+n)+1024<=70368744177664:=Nat.le_trans (Nat.le_mul_of_pos_right _ (Nat.succ_pos _)) ba
 have hnc:Builtin.nextslicecap (sLen+n) sCap*i.bytes<=70368744177664:=Nat.le_trans (Nat.mul_le_mul_right _ (nextcap_le _ _ (by omega))) hb
 have hdx:(match dx with | .int _=>true | _=>false)=false:=by
  cases dx<;>first | rfl | exact absurd rfl (hni _)
 refine⟨sLen+n+w.tape w.drawn (.appendCap (sLen+n) sCap e) % (2^63 - (sLen+n)),Builtin.zeroCells v.cells (w.tape w.drawn (.appendCap (sLen+n) sCap e) % (2^63 - (sLen+n))),Nat.le_add_right _ _,?_,?_⟩
 ·simp[Builtin.zeroCells,q2]
 ·have hc1:¬(((sLen+n:Nat):Int) > IntKind.i64.max):=by
   simp[IntKind.max,IntKind.signed,IntKind.bits];omega
  have hc2:¬(Builtin.nextslicecap (sLen+n) sCap*i.bytes > 2^48):=by omega
  have hf:(Question.appendCap (sLen+n) sCap e).forced=false:=rfl
  have hdr:∀q:Question,q.forced=false->(choose q).run P w=.ok (q.cut (w.tape w.drawn q)) { w with drawn:=w.drawn+1 }:=by
   intro q hq;simp[choose,Sem.run,hq]
  simp only[Builtin.append_,h0,h1]
  cases dx with
  | int k=>exact absurd rfl (hni k)
  | _=>
   simp only[List.getElem?_toArray,List.getElem?_cons_zero,List.getElem?_cons_succ,Sem.run_bind,run_und hs,run_und hx,Result.andThen_ok,run_size hsz,Sem.run_pure,if_false,Bool.false_eq_true,
    hn,aD,Sem.run_ite,hc1,false_and,run_info hi,hc2,hdr _ hf,Question.cut,run_askRoom,hold,am,hz',newRow,run_newObj,Bool.not_false,if_true]
   simp[pushed]
   congr 2
   apply Array.ext'
   simp
theorem run_within {P:Program} {argTypes:Array TypeId} {ty sT xT e:TypeId} {dx:TypeDesc} {size:Nat} {a:Addr} {sLen sCap n:Nat} {uy:Value} {new:List Value} {w':World}
  (h0:argTypes[0]?=some sT) (h1:argTypes[1]?=some xT) (hs:P.underlying sT=some (.slice e)) (hx:P.underlying xT=some dx) (hni:∀k,dx≠.int k)
  (hsz:szOf P e=some size) (hn:(Builtin.lenOf uy).run P w=.ok n w) (aD:sLen+n<=sCap)
  (am:(Builtin.firstCells size n uy).run P w=.ok new.toArray w) (hst:(storeCells (a.add (sLen*size)) new).run P w=.ok () w'):
  (Builtin.append_ argTypes ty #[.slice (some a) sLen sCap,uy]).run P w=.ok (.slice (some a) (sLen+n) sCap) w':=by
 simp only[Builtin.append_,h0,h1]
 cases dx with
 | int k=>exact absurd rfl (hni k)
 | _=>
  simp only[List.getElem?_toArray,List.getElem?_cons_zero,List.getElem?_cons_succ,Sem.run_bind,run_und hs,run_und hx,Result.andThen_ok,run_size hsz,Sem.run_pure,if_false,Bool.false_eq_true,
   hn,aD,Sem.run_ite,Bool.not_false,if_true,am,hst]
theorem run_nothing {P:Program} {argTypes:Array TypeId} {ty sT xT e:TypeId} {dx:TypeDesc} {size:Nat} {base:Option Addr} {sLen sCap:Nat} {uy:Value}
  (h0:argTypes[0]?=some sT) (h1:argTypes[1]?=some xT) (hs:P.underlying sT=some (.slice e)) (hx:P.underlying xT=some dx) (hni:∀k,dx≠.int k)
  (hsz:szOf P e=some size) (hn:(Builtin.lenOf uy).run P w=.ok 0 w) (aD:sLen<=sCap)
  (am:(Builtin.firstCells size 0 uy).run P w=.ok #[] w):
  (Builtin.append_ argTypes ty #[.slice base sLen sCap,uy]).run P w=.ok (.slice base sLen sCap) w:=by
 simp only[Builtin.append_,h0,h1]
 cases dx with
 | int k=>exact absurd rfl (hni k)
 | _=>
  simp only[List.getElem?_toArray,List.getElem?_cons_zero,List.getElem?_cons_succ,Sem.run_bind,run_und hs,run_und hx,Result.andThen_ok,run_size hsz,Sem.run_pure,if_false,Bool.false_eq_true,
   hn,Nat.add_zero,aD,Sem.run_ite,Bool.not_false,if_true,am]
  cases base<;>simp[storeCells]
def Comes1 (E:Env) (F:Nat->Prop) (φ:Phi) (st:St) (w:World) (s:Sem Value) (v:AV) (st':St):Prop:=
 ∃u φ' w',s.run E.P w=.ok u w'/\Sess E F φ' st' w'/\Ext φ st w φ' st' w'/\VRel (Bd F φ' st') w' φ' v u
theorem drew_sess (hS:Sess E F φ st w):Sess E F φ st { w with drawn:=w.drawn+1 }/\Ext φ st w φ st { w with drawn:=w.drawn+1 }:=
 hS.same_heap rfl ⟨rfl,rfl,rfl⟩
theorem grow_new (hS:Sess E F φ st w) {s need newCap:Nat} {cs:List AV} {us:List Value} {rest:Array Value} {e:TypeId} (hl:LRel (Bd F φ st) w φ cs us) (ae:cs.length=need*s) (hle:need<=newCap)
  (bi:rest.size=(newCap - need)*s):
  ∃φ',Sess E F φ' (st++[.own cs]) (pushed w (.cells (us++rest.toList).toArray e))/\Ext φ st w φ' (st++[.own cs]) (pushed w (.cells (us++rest.toList).toArray e))/\
   VRel (Bd F φ' (st++[.own cs])) (pushed w (.cells (us++rest.toList).toArray e)) φ' (.sl st.length 0 need (.gr s)) (.slice (some ⟨w.heap.size,0,none⟩) need newCap):=by
 obtain⟨g1,g2⟩:=hS.ghost (.own cs)
 have hf:=hS.fresh (Nat.le_refl st.length)
 obtain⟨r1,r2⟩:=g1.realize (b:=st.length) (ab:=.own cs) (by simp) rfl hf (.cells (us++rest.toList).toArray e) (fun B' g=>by
  refine⟨_,e,pushed_new w _,fun j c hj=>?_⟩
  have hlt:j<us.length:=by have:=lt_of_get hj;have:=hl.1;omega
  refine⟨us[j],by simp[List.getElem?_append_left hlt,hlt],?_⟩
  have:=(hl.2 j c _ hj (List.getElem?_eq_getElem hlt))
  exact(g2.val this).mono g (phiSet_le hf))
 refine⟨_,r1,ghost_real g2 r2 rfl,?_⟩
 refine .sl (cb:=w.heap.size) (co:=0) (by simp[phiSet]) (.inr rfl) hle (fun c e=>by cases e) (fun sz e'=>?_)
 cases e'
 right
 refine⟨_,e,(0,0),pushed_new w _,?_⟩
 have h1:=hl.1
 have:(newCap - need)*s+need*s=newCap*s:=by rw[<-Nat.add_mul];congr 1;omega
 simp[bi]
 omega
theorem Sess.move (hS:Sess E F φ st w) {b cb co off:Nat} {cs:List AV} (hb:st[b]?=some (.own cs)) (hp:φ b=some (cb,co)):
  Sess E F (phiSet φ st.length cb (co+off)) (st.set b .dead++[.own (cs.drop off)]) w/\Ext φ st w (phiSet φ st.length cb (co+off)) (st.set b .dead++[.own (cs.drop off)]) w:=by
 have hf:=hS.fresh (Nat.le_refl st.length)
 have hle:=phiSet_le (cb:=cb) (co:=co+off) hf
 have jj:=lt_of_get hb
 have aW:∀(x:Nat) ax,(st.set b .dead++[.own (cs.drop off)])[x]?=some ax->(x=st.length/\ax=.own (cs.drop off))\/(x=b/\ax=.dead)\/(x≠b/\x<st.length/\st[x]?=some ax):=by
  intro x ax hx
  rcases get_append hx with⟨h1,h2⟩ | ⟨rfl,rfl⟩
  ·simp at h1
   rw[List.getElem?_set] at h2
   by_cases e:b=x
   ·subst e;simp[jj] at h2;exact .inr (.inl ⟨rfl,h2.symm⟩)
   ·simp[e] at h2;exact .inr (.inr ⟨fun e'=>e e'.symm,h1,h2⟩)
  ·exact .inl ⟨by simp,rfl⟩
 have dw:∀x,x<st.length->phiSet φ st.length cb (co+off) x=φ x:=fun x hx=>by simp[phiSet,Nat.ne_of_lt hx]
 have cD:phiSet φ st.length cb (co+off) st.length=some (cb,co+off):=by simp[phiSet]
 have az:∀c,Own (phiSet φ st.length cb (co+off)) (st.set b .dead++[.own (cs.drop off)]) c↔Own φ st c:=by
  intro c
  constructor
  ·rintro⟨x,ax,co',h1,h2,h3⟩
   rcases aW x ax h1 with⟨rfl,rfl⟩ | ⟨rfl,rfl⟩ | ⟨hne,hlt,h1⟩
   ·rw[cD] at h3;cases h3;exact⟨b,_,co,hb,rfl,hp⟩
   ·cases h2
   ·rw[dw x hlt] at h3;exact⟨x,ax,co',h1,h2,h3⟩
  ·rintro⟨x,ax,co',h1,h2,h3⟩
   by_cases e:x=b
   ·subst e
    rw[hp] at h3;cases h3
    exact⟨st.length,.own (cs.drop off),co+off,by simp,rfl,cD⟩
   ·have hlt:=lt_of_get h1
    exact⟨x,ax,co',by rw[List.getElem?_append_left (by simpa using hlt),List.getElem?_set_ne (fun e'=>e e'.symm)];exact h1,h2,by rw[dw x hlt];exact h3⟩
 have hB:Bd F (phiSet φ st.length cb (co+off)) (st.set b .dead++[.own (cs.drop off)])=Bd F φ st:=funext fun c=>by simp only[Bd,az]
 have aV:Ext φ st w (phiSet φ st.length cb (co+off)) (st.set b .dead++[.own (cs.drop off)]) w:=
  ⟨⟨hle,Nat.le_refl _,fun _ _ _=>rfl,fun c _ o=>(az c).1 o,fun _ c _ _ h=>⟨c,h,rfl⟩,by simp,rfl,rfl,rfl⟩,fun b hb=>dw b hb⟩
 have g:Goes (Bd F φ st) w (Bd F φ st) w:=by have:=aV.goes (F:=F);rwa [hB] at this
 refine⟨⟨?_,?_,?_,?_,?_⟩,aV⟩
 ·intro x ax c co' h1 h2
  rw[hB]
  rcases aW x ax h1 with⟨rfl,rfl⟩ | ⟨rfl,rfl⟩ | ⟨hne,hlt,h1⟩
  ·rw[cD] at h2;cases h2
   obtain⟨cells,t,q1,q2⟩:=hS.blk b _ cb co hb hp
   refine⟨cells,t,q1,fun j c hj=>?_⟩
   obtain⟨v,r1,r2⟩:=q2 (off+j) c (by simpa using hj)
   exact⟨v,by rw[Nat.add_assoc];exact r1,r2.mono g hle⟩
  ·trivial
  ·rw[dw x hlt] at h2
   exact(hS.blk x ax c co' h1 h2).other g hle rfl (fun _=>(hS.lt x c co' h2).1)
 ·intro x x' ax ax' c c1 c2 h1 h2 h3 h4 h5 h6
  rcases aW x ax h1 with⟨rfl,rfl⟩ | ⟨rfl,rfl⟩ | ⟨hne,hlt,h1⟩
  ·rw[cD] at h5;cases h5
   rcases aW x' ax' h3 with⟨rfl,rfl⟩ | ⟨rfl,rfl⟩ | ⟨cH,aF,h3⟩
   ·rfl
   ·cases h4
   ·rw[dw x' aF] at h6
    exact absurd (hS.inj x' b ax' _ cb c2 co h3 h4 hb rfl h6 hp) cH
  ·cases h2
  ·rw[dw x hlt] at h5
   rcases aW x' ax' h3 with⟨rfl,rfl⟩ | ⟨rfl,rfl⟩ | ⟨cH,aF,h3⟩
   ·rw[cD] at h6;cases h6
    exact absurd (hS.inj x b ax _ cb c1 co h1 h2 hb rfl h5 hp) hne
   ·cases h4
   ·rw[dw x' aF] at h6
    exact hS.inj x x' ax ax' c c1 c2 h1 h2 h3 h4 h5 h6
 ·intro x c co' hx
  by_cases e:x=st.length
  ·subst e;rw[cD] at hx;cases hx;exact⟨(hS.lt b cb co hp).1,by simp⟩
  ·have hx':φ x=some (c,co'):=by simpa [phiSet,e] using hx
   have:=hS.lt x c co' hx'
   exact⟨this.1,by simp;omega⟩
 ·rw[hB];intro gl cs' hg;exact(hS.glob gl cs' hg).mono g (fun _ _ h=>h)
 ·intro c hc;exact⟨(hS.fout c hc).1,fun o=>(hS.fout c hc).2 ((az c).1 o)⟩
theorem extend_sound (hS:Sess E F φ st w) {b cb co k:Nat} {cs new:List AV} {us:List Value} {cells:Array Value} {t:TypeId} (hb:st[b]?=some (.own cs)) (hp:φ b=some (cb,co))
  (hc:w.heap[cb]?=some (.cells cells t (0,0))) (hk:k<=cs.length) (ct:co+k+us.length<=cells.size) (hn:LRel (Bd F φ st) w φ new us) (aj:new.all isCell=true):
  ∃w',(storeCells ⟨cb,co+k,none⟩ us).run E.P w=.ok () w'/\Sess E F φ (st.set b (.own (cs.take k++new))) w'/\Ext φ st w φ (st.set b (.own (cs.take k++new))) w':=by
 obtain⟨cells',t',h1,h2⟩:=hS.blk b _ cb co hb hp
 rw[hc] at h1;cases h1
 have aQ:=run_storeCells (P:=E.P) us 0 w cells (o:=co+k) hc (by omega) (hn.oneV aj)
 simp only[Nat.add_zero] at aQ
 refine⟨_,aQ,?_⟩
 have az:Own φ st cb:=⟨b,_,co,hb,rfl,hp⟩
 refine hS.change hb rfl rfl hp (fun c t' fz hc'=>?_) ?_
 ·rw[hc] at hc';cases hc';exact⟨_,rfl,writeArr_size _ _ _⟩
 ·have g:Goes (Bd F φ st) w (Bd F φ st) (setAt w cb (.cells (writeArr cells (co+k) us) t (0,0))):=
   goes_setAt (.inr az) hc (fun c t' fz hc=>by cases hc;exact⟨_,rfl,writeArr_size _ _ _⟩)
  refine⟨_,t,setAt_same hc,fun j c hj=>?_⟩
  rw[writeArr_get us cells (co+k) (co+j) ct]
  rcases Nat.lt_or_ge j k with hlt | hge
  ·rw[if_neg (by omega)]
   rw[List.getElem?_append_left (by simp;omega),List.getElem?_take,if_pos hlt] at hj
   obtain⟨v,hv1,hv2⟩:=h2 j c hj
   exact⟨v,hv1,hv2.mono g (fun _ _ h=>h)⟩
  ·rw[List.getElem?_append_right (by simp;omega)] at hj
   have e1:(cs.take k).length=k:=by simp;omega
   rw[e1] at hj
   have hl:=lt_of_get hj
   have ae:=hn.1
   rw[if_pos (by omega),show co+j - (co+k)=j - k by omega]
   have hlt:j - k<us.length:=by omega
   exact⟨us[j - k],List.getElem?_eq_getElem hlt,(hn.2 (j - k) c _ hj (List.getElem?_eq_getElem hlt)).mono g (fun _ _ h=>h)⟩
end
end Go.Proofs.YtnnhofmknilopaaGreatDoor.Gx
namespace Go.Proofs.YtnnhofmknilopaaGreatDoor.Gx
open Go
section
variable {E:Env} {F:Nat->Prop} {φ:Phi} {st:St} {w:World}
theorem grows (hS:Sess E F φ st w) {argTypes:Array TypeId} {ty sT xT e:TypeId} {dx:TypeDesc} {i:TypeInfo} {z:AV} {base:Option Addr} {sLen sCap n:Nat} {uy:Value} {old new:List AV} {ou nu:List Value}
  (h0:argTypes[0]?=some sT) (h1:argTypes[1]?=some xT) (hs:E.P.underlying sT=some (.slice e)) (hx:E.P.underlying xT=some dx) (hni:∀k,dx≠.int k)
  (hi:E.P.info? e=some i) (hz:zeroT E.P e=some z) (hzl:(cellsOf z).length=i.size) (hn:∀w,(Builtin.lenOf uy).run E.P w=.ok n w) (aD:¬(sLen+n<=sCap))
  (ba:(2*(sLen+n)+1024)*(i.bytes+1)<=70368744177664) {w0:World} (hw:w={ w0 with drawn:=w0.drawn+1 })
  (hold:(Builtin.firstCells i.size sLen (.slice base sLen sCap)).run E.P w=.ok ou.toArray w)
  (am:(Builtin.firstCells i.size n uy).run E.P w=.ok nu.toArray w) (ho:LRel (Bd F φ st) w φ old ou) (hnr:LRel (Bd F φ st) w φ new nu)
  (hol:old.length=sLen*i.size) (hnl:new.length=n*i.size):
  ∃u φ' w',(Builtin.append_ argTypes ty #[.slice base sLen sCap,uy]).run E.P w0=.ok u w'/\Sess E F φ' (st++[.own (old++new)]) w'/\Ext φ st w φ' (st++[.own (old++new)]) w'/\
   VRel (Bd F φ' (st++[.own (old++new)])) w' φ' (.sl st.length 0 (sLen+n) (.gr i.size)) u:=by
 subst hw
 obtain⟨newCap,rest,r1,r2,r3⟩:=run_grow (P:=E.P) (w:=w0) (ty:=ty) h0 h1 hs hx hni hi hz (hn w0) aD ba hold am
 obtain⟨i',v,q1,q2,q3⟩:=zeroT_some hz
 rw[hi] at q1;cases q1
 have hvc:v.cells.size=i.size:=by
  have:=((ofV_rel (B:=fun _=>False) (w:=w0) (φ:=phi0) q3).cells (ofV_ne q3)).1
  simp at this;omega
 have bi:rest.size=(newCap - (sLen+n))*i.size:=by rw[r2,q2];simp[hvc]
 obtain⟨φ',s1,s2,s3⟩:=grow_new (e:=e) hS (ho.append hnr) (need:=sLen+n) (s:=i.size) (by simp[hol,hnl,Nat.add_mul]) r1 bi
 exact⟨_,φ',_,r3,s1,s2,s3⟩
theorem run_growZ {P:Program} {argTypes:Array TypeId} {ty sT xT e:TypeId} {i:TypeInfo} {v:Value} {k k':IntKind} {n:Nat}
  (h0:argTypes[0]?=some sT) (h1:argTypes[1]?=some xT) (hs:P.underlying sT=some (.slice e)) (hx:P.underlying xT=some (.int k))
  (hi:P.info? e=some i) (hz:i.zero=some v) (bB:0<n) (ba:(2*n+1024)*(i.bytes+1)<=70368744177664) (g5:v.cells.size=i.size):
  ∃(newCap:Nat) (rest:Array Value),n<=newCap/\rest.size=(newCap - n)*i.size/\
   (Builtin.append_ argTypes ty #[.slice none 0 0,.int k' (.ofNat n)]).run P w=
     .ok (.slice (some ⟨w.heap.size,0,none⟩) n newCap) (pushed { w with drawn:=w.drawn+1 } (.cells (((Array.range (n*v.cells.size)).map (v.cells[·% v.cells.size]!)).toList++rest.toList).toArray e)):=by
 have hsz:szOf P e=some i.size:=by simp[szOf,hi]
 have hz':∀w,(zeroValue e).run P w=.ok v w:=fun w=>by simp[zeroValue,run_info hi,hz]
 have hb:(2*n+1024)*i.bytes<=70368744177664:=Nat.le_trans (Nat.mul_le_mul_left _ (Nat.le_succ _)) ba
 have hb2:2*n+1024<=70368744177664:=Nat.le_trans (Nat.le_mul_of_pos_right _ (Nat.succ_pos _)) ba
 have hb3:n*i.bytes<=70368744177664:=Nat.le_trans (Nat.mul_le_mul_right _ (by omega)) hb
 have hnc:Builtin.nextslicecap n 0=n:=by simp[Builtin.nextslicecap,bB]
 have g6:IntKind.i64.wrap (Int.ofNat n)=(n:Int):=by
  rw[IntKind.wrap_i64]
  simp only[Int.ofNat_eq_natCast]
  omega
 refine⟨n+w.tape w.drawn (.appendCap n 0 e) % (2^63 - n),Builtin.zeroCells v.cells (w.tape w.drawn (.appendCap n 0 e) % (2^63 - n)),Nat.le_add_right _ _,?_,?_⟩
 ·simp[Builtin.zeroCells,g5]
 ·have hc0:¬((n:Int)<0):=by omega
  have jk:¬((n:Int)*(i.bytes:Int) > 2^48):=by
   have:((n*i.bytes:Nat):Int)<=((70368744177664:Nat):Int):=Int.ofNat_le.2 hb3
   rw[Int.natCast_mul] at this
   omega
  have hc1:¬((n:Int) > IntKind.i64.max):=by
   simp[IntKind.max,IntKind.signed,IntKind.bits];omega
  have hc2:¬(n*i.bytes > 2^48):=by omega
  have hf:(Question.appendCap n 0 e).forced=false:=rfl
  have hdr:∀q:Question,q.forced=false->(choose q).run P w=.ok (q.cut (w.tape w.drawn q)) { w with drawn:=w.drawn+1 }:=by
   intro q hq;simp[choose,Sem.run,hq]
  have hle:¬(n<=0):=by omega
  have has:∀w,(asInt (.int k' (.ofNat n))).run P w=.ok (Int.ofNat n) w:=fun w=>rfl
  simp only[Builtin.append_,h0,h1]
  simp only[List.getElem?_toArray,List.getElem?_cons_zero,List.getElem?_cons_succ,Sem.run_bind,run_und hs,run_und hx,Result.andThen_ok,run_size hsz,Sem.run_pure,if_true,
   has,g6,hc0,jk,if_false,Int.toNat_natCast,Nat.zero_add,hle,Sem.run_ite,hc1,false_and,run_info hi,hnc,hc2,hdr _ hf,Question.cut,run_askRoom,hz',newRow,run_newObj,Bool.not_true,Bool.false_eq_true,Builtin.firstCells]
  have hzn:(if n*i.size=0 then Result.ok #[] { w with drawn:=w.drawn+1 } else Result.ok (Builtin.zeroCells v.cells n) { w with drawn:=w.drawn+1 })=Result.ok (Builtin.zeroCells v.cells n) { w with drawn:=w.drawn+1 }:=by
   split
   ·rename_i h0
    have:Builtin.zeroCells v.cells n=#[]:=by
     apply Array.eq_empty_of_size_eq_zero
     simp[Builtin.zeroCells,g5,h0]
    rw[this]
   ·rfl
  rw[hzn]
  simp only[Result.andThen,pushed,Nat.add_sub_cancel_left]
  congr 3
  congr 1
  apply Array.ext'
  simp[Builtin.zeroCells]
theorem appendZ_sound (hS:Sess E F φ st w) {argTypes:Array TypeId} {ty sT xT e:TypeId} {k:IntKind} {x y v:AV} {ux uy:Value} {st':St} (h:appendZ E.P st e x y=some (v,st'))
  (h0:argTypes[0]?=some sT) (h1:argTypes[1]?=some xT) (hs:E.P.underlying sT=some (.slice e)) (hxT:E.P.underlying xT=some (.int k)) (hx:VRel (Bd F φ st) w φ x ux) (hy:VRel (Bd F φ st) w φ y uy):
  Comes1 E F φ st w (Builtin.append_ argTypes ty #[ux,uy]) v st':=by
 unfold appendZ at h
 split at h
 ·rename_i k' n
  cases hx;cases hy
  split at h
  ·rename_i i z hi hz
   split at h
   ·rename_i au
    simp only[Bool.and_eq_true,Nat.ble_eq] at au
    obtain⟨⟨bB,ba⟩,hzl⟩:=au
    have bB:0<n:=by
     have h1:1<=n:=by simpa [Nat.blt] using bB
     omega
    have hzl:=Nat.eq_of_beq_eq_true hzl
    simp only[grow,Option.some.injEq,Prod.mk.injEq] at h
    obtain⟨rfl,rfl⟩:=h
    obtain⟨i',zv,q1,q2,q3⟩:=zeroT_some hz
    rw[hi] at q1;cases q1
    obtain⟨d1,d2⟩:=drew_sess hS
    have hzc:=(ofV_rel (B:=Bd F φ st) (w:={ w with drawn:=w.drawn+1 }) (φ:=φ) q3).cells (ofV_ne q3)
    have hvc:zv.cells.size=i.size:=by have:=hzc.1;simp at this;omega
    obtain⟨newCap,rest,r1,r2,r3⟩:=run_growZ (P:=E.P) (w:=w) (ty:=ty) (k':=k') h0 h1 hs hxT hi q2 bB ba hvc
    obtain⟨φ',s1,s2,s3⟩:=grow_new (e:=e) d1 (rep_sound hzc n) (need:=n) (s:=i.size) (by rw[rep_get,hzl]) r1 r2
    exact⟨_,φ',_,r3,s1,d2.trans s2,s3⟩
   ·cases h
  ·cases h
 ·cases h
theorem appendE_sound (hS:Sess E F φ st w) {argTypes:Array TypeId} {ty sT:TypeId} {x y v:AV} {ux uy:Value} {st':St} (h:appendE E.P st sT argTypes[1]? x y=some (v,st'))
  (h0:argTypes[0]?=some sT) (hx:VRel (Bd F φ st) w φ x ux) (hy:VRel (Bd F φ st) w φ y uy):
  Comes1 E F φ st w (Builtin.append_ argTypes ty #[ux,uy]) v st':=by
 unfold appendE at h
 split at h
 ·rename_i e k hu hxT
  simp only[Option.bind_eq_some_iff] at hxT
  obtain⟨xT,h1,hxT⟩:=hxT
  exact appendZ_sound hS h h0 h1 hu hxT hx hy
 ·cases h
 ·rename_i e dx hni hu hxT
  simp only[Option.bind_eq_some_iff] at hxT
  obtain⟨xT,h1,hxT⟩:=hxT
  have eu:∀k,dx≠.int k:=fun k e=>hni k e
  split at h
  ·cases h
  ·rename_i i hi
   have hsz:szOf E.P e=some i.size:=by simp[szOf,hi]
   split at h
   ·rename_i n new l old hsy hsx
    obtain⟨nu,y1,y2,y3,y4⟩:=srcOf_sound hS hsy hy
    obtain⟨ou,x1,x2,x3,x4⟩:=srcOf_sound hS hsx hx
    have y4n:=y4 n (Nat.le_refl _)
    have x4l:=x4 l (Nat.le_refl _)
    rw[show n*i.size=nu.length from y3.symm,List.take_length] at y4n
    rw[show l*i.size=ou.length from x3.symm,List.take_length] at x4l
    have hnl:new.length=n*i.size:=by rw[y2.1,y3]
    have hol:old.length=l*i.size:=by rw[x2.1,x3]
    split at h
    ·
     rename_i au
     have hn0:(Builtin.firstCells i.size 0 uy).run E.P w=.ok #[] w:=by have:=y4 0 (Nat.le_refl _);simpa using this
     have key:∀base sl sc,ux=.slice base sl sc->sl<=sc->(v,st')=(x,st)->Comes1 E F φ st w (Builtin.append_ argTypes ty #[ux,uy]) v st':=by
      intro base sl sc hb hle he
      cases he
      subst hb
      exact⟨_,φ,w,run_nothing h0 h1 hu hxT eu hsz y1 hle hn0,hS,Ext.refl _ _ _,hx⟩
     unfold append0 at h
     split at h
     ·cases h
     ·rename_i hns
      simp only[Option.some.injEq] at h
      have h:=h.symm
      cases hx with
      | str l=>exact(hns l rfl).elim
      | nilsl=>exact key _ _ _ rfl (Nat.le_refl _) h
      | sl hp ho hl hxx hg=>exact key _ _ _ rfl hl h
      | isl vs hxx hl hb hc hv=>exact key _ _ _ rfl hl h
      | _=>simp[srcOf] at hsx
    ·rename_i m au
     simp only[Bool.and_eq_true,Nat.ble_eq] at au
     obtain⟨ba,hz⟩:=au
     unfold zOk at hz
     split at hz
     ·rename_i z hz1
      have hz2:(cellsOf z).length=i.size:=Nat.eq_of_beq_eq_true hz
      obtain⟨d1,d2⟩:=drew_sess hS
      have dold:=d2.list x2
      have dnew:=d2.list y2
      have ae:∀w,(Builtin.lenOf uy).run E.P w=.ok (m+1) w:=by
       intro w'
       cases hy<;>simp[srcOf] at hsy<;>simp[Builtin.lenOf] at y1 ⊢<;>first | exact y1 | skip
      obtain⟨nu',dy1,dy2,dy3,dy4⟩:=srcOf_sound d1 hsy (d2.val hy)
      obtain⟨ou',dx1,dx2,dx3,dx4⟩:=srcOf_sound d1 hsx (d2.val hx)
      clear dy1 dx1
      have dy4n:=dy4 (m+1) (Nat.le_refl _)
      have dx4l:=dx4 l (Nat.le_refl _)
      rw[show (m+1)*i.size=nu'.length from dy3.symm,List.take_length] at dy4n
      rw[show l*i.size=ou'.length from dx3.symm,List.take_length] at dx4l
      have grown:∀base sCap,ux=.slice base l sCap->¬(l+(m+1)<=sCap)->(v,st')=grow st i.size (l+(m+1)) (old++new)->
        Comes1 E F φ st w (Builtin.append_ argTypes ty #[ux,uy]) v st':=by
       intro base sCap hb hc he
       subst hb
       simp only[grow,Prod.mk.injEq] at he
       obtain⟨rfl,rfl⟩:=he
       obtain⟨u,φ',w',r1,r2,r3,r4⟩:=grows d1 (ty:=ty) h0 h1 hu hxT eu hi hz1 hz2 ae hc ba rfl dx4l dy4n dx2 dy2 hol hnl
       exact⟨u,φ',w',r1,r2,d2.trans r3,r4⟩
      unfold appendB at h
      split at h
      ·
       simp only[Option.some.injEq] at h
       cases hx
       simp[srcOf] at hsx
       obtain⟨rfl,rfl⟩:=hsx
       exact grown none 0 rfl (by omega) (by rw[<-h];simp)
      ·rename_i b off len c
       cases hx with
       | sl hp ho hl hxx hg=>
        rename_i cb co o ccap
        have hc:ccap=c:=hxx c rfl
        subst hc
        have hll:len=l:=by
         simp only[srcOf] at hsx
         split at hsx
         ·simp only[Option.map_eq_some_iff,Prod.mk.injEq] at hsx;obtain⟨_,_,e,_⟩:=hsx;exact e
         ·cases hsx
        subst hll
        split at h
        ·rename_i aD
         have aD:len+(m+1)<=ccap:=Nat.ble_eq ▸ aD
         rw[get?_eq] at h
         split at h
         ·rename_i cs hb
          split at h
          ·rename_i cs' aj hw
           simp only[Option.some.injEq,Prod.mk.injEq] at h
           obtain⟨rfl,rfl⟩:=h
           have ho':o=co+off:=ho.resolve_left (by omega)
           subst ho'
           obtain⟨w',s1,s2,s3⟩:=write_sound hS hb hp hw y2 aj
           refine⟨_,φ,w',run_within h0 h1 hu hxT eu hsz y1 aD y4n (by rw[addr_add,Nat.add_assoc];exact s1),by rw[upd_eq];exact s2,by rw[upd_eq];exact s3,?_⟩
           rw[upd_eq]
           exact .sl hp (.inr rfl) aD (fun c e=>by cases e;rfl) (fun sz e=>by cases e)
          ·cases h
         ·cases h
        ·rename_i aD
         have aD:¬(len+(m+1)<=ccap):=by intro hle;rw[Nat.ble_eq_true_of_le hle] at aD;cases aD
         simp only[Option.some.injEq] at h
         exact grown _ _ rfl aD h.symm
      ·rename_i b off len z'
       rw[get?_eq] at h
       split at h
       ·rename_i cs hb
        split at h
        ·rename_i au
         simp only[Bool.and_eq_true,Nat.ble_eq] at au
         obtain⟨⟨hzs,aj⟩,ct⟩:=au
         have hzs:z'=i.size:=Nat.eq_of_beq_eq_true hzs
         subst hzs
         simp only[Option.some.injEq] at h
         have h:=h.symm
         cases hx with
         | sl hp ho hl hxx hg=>
          rename_i cb co o ccap
          have hll:len=l:=by
           simp only[srcOf] at hsx
           split at hsx
           ·simp only[Option.map_eq_some_iff,Prod.mk.injEq] at hsx;obtain⟨_,_,e,_⟩:=hsx;exact e
           ·cases hsx
          subst hll
          have hold:old=(cs.drop off).take (len*i.size):=by
           simp only[srcOf,cellsAt,get?_eq,hb] at hsx
           simp only[Option.map_eq_some_iff,Prod.mk.injEq] at hsx
           obtain⟨r,q1,_,rfl⟩:=hsx
           have:=(takeN_some _ _ _ q1).1
           rw[dropN_eq] at this
           exact this
          by_cases aD:len+(m+1)<=ccap
          ·
           have ho':o=co+off:=ho.resolve_left (by omega)
           subst ho'
           rcases hg _ rfl with h00 | ⟨cells,t,fz,g1,g2⟩
           ·omega
           ·obtain⟨cells',t',k1,_⟩:=hS.blk b _ cb co hb hp
            rw[k1] at g1;cases g1
            have fV:co+(off+len*i.size)+nu.length<=cells.size:=by
             have y3':nu.length=(m+1)*i.size:=y3
             have fS:(len+(m+1))*i.size<=ccap*i.size:=Nat.mul_le_mul_right _ aD
             rw[Nat.add_mul,<-y3'] at fS
             clear y3 dy3 dx3 x3 hnl hol ba
             omega
            obtain⟨w',s1,s2,s3⟩:=extend_sound hS hb hp k1 ct fV y2 aj
            have hb':(st.set b (.own (cs.take (off+len*i.size)++new)))[b]?=some (.own (cs.take (off+len*i.size)++new)):=by simp[lt_of_get hb]
            obtain⟨m1,m2⟩:=s2.move (off:=off) hb' hp
            have hcs:(cs.take (off+len*i.size)++new).drop off=old++new:=by
             rw[List.drop_append_of_le_length (by simp;omega),hold,List.drop_take]
             congr 2
             omega
            rw[hcs] at m1 m2
            simp only[List.set_set,List.length_set] at m1 m2
            simp only[grow,Prod.mk.injEq,upd_eq,List.length_set] at h
            obtain⟨rfl,rfl⟩:=h
            refine⟨_,_,w',run_within h0 h1 hu hxT eu hsz y1 aD y4n (by rw[addr_add,Nat.add_assoc];exact s1),m1,s3.trans m2,?_⟩
            refine .sl (cb:=cb) (co:=co+off) (by simp[phiSet]) (.inr rfl) aD (fun c e=>by cases e) (fun sz e=>?_)
            cases e
            right
            obtain⟨c2,z1,z2⟩:=(s3.trans m2).shape cb cells t (0,0) k1
            exact⟨c2,t,(0,0),z1,by omega⟩
          ·
           obtain⟨k1,k2⟩:=d1.retire (ab':=.dead) hb rfl rfl (fun _ _ _=>trivial)
           have kold:=k2.list dx2
           have knew:=k2.list dy2
           simp only[grow,Prod.mk.injEq,upd_eq,List.length_set] at h
           obtain⟨rfl,rfl⟩:=h
           obtain⟨u,φ',w',r1,r2,r3,r4⟩:=grows k1 (ty:=ty) h0 h1 hu hxT eu hi hz1 hz2 ae aD ba rfl dx4l dy4n kold knew hol hnl
           simp only[List.length_set] at r4
           exact⟨u,φ',w',r1,r2,(d2.trans k2).trans r3,r4⟩
        ·cases h
       ·cases h
      ·rename_i len cs c
       cases hx with
       | isl vs hxx hl hb hc hv=>
        rename_i a ccap
        have hcc:ccap=c:=hxx c rfl
        subst hcc
        have hll:len=l:=by
         simp only[srcOf,Option.map_eq_some_iff,Prod.mk.injEq] at hsx;obtain⟨_,_,e,_⟩:=hsx;exact e
        subst hll
        split at h
        ·cases h
        ·rename_i aD
         have aD:¬(len+(m+1)<=ccap):=by intro hle;rw[Nat.ble_eq_true_of_le hle] at aD;cases aD
         simp only[Option.some.injEq] at h
         exact grown _ _ rfl aD h.symm
      ·cases h
     ·cases hz
    ·cases h
   ·cases h
 ·cases h
end
end Go.Proofs.YtnnhofmknilopaaGreatDoor.Gx
namespace Go.Proofs.YtnnhofmknilopaaGreatDoor.Gx
open Go
section
variable {E:Env} {F:Nat->Prop} {φ:Phi} {st:St} {w:World}
theorem copyE_sound (hS:Sess E F φ st w) {argTypes:Array TypeId} {ty dT:TypeId} {x y v:AV} {ux uy:Value} {st':St} (h:copyE E.P st dT x y=some (v,st'))
  (h0:argTypes[0]?=some dT) (hx:VRel (Bd F φ st) w φ x ux) (hy:VRel (Bd F φ st) w φ y uy):
  Comes1 E F φ st w (Builtin.copy_ argTypes ty #[ux,uy]) v st':=by
 unfold copyE at h
 split at h
 ·rename_i e hu
  split at h
  ·cases h
  ·rename_i s hs
   split at h
   ·rename_i p hsy
    obtain⟨n,new⟩:=p
    simp at h
    obtain⟨rfl,rfl⟩:=h
    cases hx
    obtain⟨us,y1,y2,y3,y4⟩:=srcOf_sound hS hsy hy
    have:=y4 0 (Nat.zero_le _)
    refine⟨.int .i64 0,φ,w,?_,hS,Ext.refl _ _ _,.int _ _⟩
    simp at this
    simp[Builtin.copy_,h0,run_und hu,y1,run_size hs,this,goInt]
   ·rename_i n new b off len cap hsy
    rw[get?_eq] at h
    split at h
    ·rename_i cs new' hb htk
     split at h
     ·rename_i aj
      simp only[Option.map_eq_some_iff,Prod.mk.injEq] at h
      obtain⟨cs',hw,rfl,rfl⟩:=h
      obtain⟨us,y1,y2,y3,y4⟩:=srcOf_sound hS hsy hy
      obtain⟨e1,e2⟩:=takeN_some _ _ _ htk
      have y4m:=y4 (min n len) (Nat.min_le_left _ _)
      cases hx with
      | sl hp ho hl hxx hg=>
       rename_i cb co o ccap
       have am:LRel (Bd F φ st) w φ new' (us.take (min n len*s)):=by rw[e1];exact y2.take _
       obtain⟨w',s1,s2,s3⟩:=write_sound hS hb hp hw am aj
       have aQ:(storeCells ⟨cb,o,none⟩ (us.take (min n len*s))).run E.P w=.ok () w':=by
        rcases ho with h00 | rfl
        ·have hz:us.take (min n len*s)=[]:=by
          have:min n len=0:=by omega
          simp[this]
         rw[hz] at s1 ⊢
         simpa [storeCells] using s1
        ·exact s1
       refine⟨.int .i64 (min n len:Nat),φ,w',?_,by rw[upd_eq];exact s2,by rw[upd_eq];exact s3,.int _ _⟩
       simp[Builtin.copy_,h0,run_und hu,y1,run_size hs,goInt,Nat.min_def] at y4m aQ ⊢
       simp[y4m,aQ]
     ·cases h
    ·cases h
   ·cases h
 ·cases h
theorem keyStays {P:Program} {kT:TypeId} {k k':AV} {u u':Value} (h:keyScalar P kT k=true) (hs:sameKey k k'=true) (hk:VRel (Bd F φ st) w φ k u) (hk':VRel (Bd F φ st) w φ k' u') (hks:keyScalar P kT k'=true):
  (Instr.keyThatStays u' u).run P w=.ok u w:=by
 have:Instr.sameBits 10000 u' u=true:=by
  rcases keyScalar_key h with⟨s,rfl,hu⟩ | ⟨j,m,rfl,hu⟩ | ⟨b,rfl,hu⟩<;>
   rcases keyScalar_key hks with⟨s',rfl,hu'⟩ | ⟨j',m',rfl,hu'⟩ | ⟨b',rfl,hu'⟩<;>
   (rw[hu] at hu';cases hu'<;>cases hk<;>cases hk'<;>simp[sameKey] at hs<;>subst hs<;>simp[Instr.sameBits,ba_beq])
 simp[Instr.keyThatStays,this]
theorem findE_get {k:AV}:∀{es:List AEnt} {i n:Nat} {v:AV},findE k es i=some (n,v)->i<=n/\∃e,es[n - i]?=some e/\e.val=v/\sameKey k e.key=true
 | [],i,n,v,h=>by simp[findE] at h
 | e::es,i,n,v,h=>by
  unfold findE at h
  split at h
  ·rename_i hs
   simp at h
   obtain⟨rfl,rfl⟩:=h
   exact⟨Nat.le_refl _,e,by simp,rfl,hs⟩
  ·obtain⟨h1,e',h2,h3,h4⟩:=findE_get h
   refine⟨by omega,e',?_,h3,h4⟩
   have:n - i=(n - (i+1))+1:=by omega
   rw[this];simpa using h2
theorem mapUpdateE_sound (hS:Sess E F φ st w) {t:TypeId} {m k v:AV} {um uk uv:Value} {st':St} (h:mapUpdateE E.P st t m k v=some st') (hm:VRel (Bd F φ st) w φ m um)
  (hk:VRel (Bd F φ st) w φ k uk) (hv:VRel (Bd F φ st) w φ v uv):
  ∃w',(Instr.mapUpdate t um uk uv).run E.P w=.ok () w'/\Sess E F φ st' w'/\Ext φ st w φ st' w':=by
 unfold mapUpdateE at h
 split at h
 ·rename_i kT eT b hu
  rw[get?_eq] at h
  split at h
  ·rename_i es clock hb
   split at h
   ·rename_i au
    simp only[Bool.and_eq_true] at au
    cases hm with
    | map hp=>
     rename_i cb co
     obtain⟨ces,h1,h2⟩:=hS.blk b _ cb co hb hp
     have hd:∃d,E.P.underlying kT=some d:=by
      rcases keyScalar_key au.1 with⟨_,_,hu⟩ | ⟨_,_,_,hu⟩ | ⟨_,_,hu⟩<;>exact⟨_,hu⟩
     obtain⟨d,hd⟩:=hd
     have hf:=findE_sound hd au.1 hk es ces.toList 0 (by simpa using h2.1) (fun j e c he hc=>h2.2 j e c he (by simpa using hc)) au.2
     have hnc:∀c t f,Obj.map ces clock≠.cells c t f:=by simp
     have az:Own φ st cb:=⟨b,_,co,hb,rfl,hp⟩
     split at h
     ·rename_i n v0 hfe
      rw[hfe] at hf
      obtain⟨uv0,q1,q2⟩:=hf
      rw[get?_eq] at h
      split at h
      ·rename_i e he
       simp at h
       subst h
       obtain⟨_,e',r1,r2,r3⟩:=findE_get hfe
       simp at r1
       rw[he] at r1;cases r1
       have jl:n<ces.size:=by have:=lt_of_get he;have:=h2.1;omega
       have hcn:ces[n]?=some ces[n]:=by simp[jl]
       obtain⟨k1,k2,k3⟩:=h2.2 n e _ he hcn
       have hks:keyScalar E.P kT e.key=true:=List.all_eq_true.1 au.2 _ (List.mem_of_getElem? he)
       have hst:=keyStays au.1 r3 hk k1 hks
       refine⟨setAt w cb (.map (ces.modify n fun x=>{ x with key:=uk,val:=uv }) clock),?_,?_⟩
       ·simp[Instr.mapUpdate,run_und hu,getObj_run h1 hnc,checkKey_run au.1 hk,Instr.findKey,run_und hd,q1,hcn,hst,setObj_run h1 hnc]
       ·rw[upd_eq,upd_eq]
        refine hS.change hb rfl rfl hp (fun c t fz hc=>by rw[h1] at hc;cases hc) ?_
        have g:Goes (Bd F φ st) w (Bd F φ st) (setAt w cb (.map (ces.modify n fun x=>{ x with key:=uk,val:=uv }) clock)):=
         goes_setAt (.inr az) h1 (fun c t fz hc=>by cases hc)
        refine⟨_,setAt_same h1,by simp[h2.1],fun j e2 c2 hj hc=>?_⟩
        rw[List.getElem?_set] at hj
        rw[Array.getElem?_modify] at hc
        by_cases e0:n=j
        ·subst e0
         simp[lt_of_get he] at hj
         simp[hcn] at hc
         subst hj;subst hc
         exact⟨hk.mono g (fun _ _ h=>h),hv.mono g (fun _ _ h=>h),k3⟩
        ·simp[e0] at hj hc
         obtain⟨a1,a2,a3⟩:=h2.2 j e2 c2 hj hc
         exact⟨a1.mono g (fun _ _ h=>h),a2.mono g (fun _ _ h=>h),a3⟩
      ·cases h
     ·rename_i hfe
      rw[hfe] at hf
      simp only at hf
      simp at h
      subst h
      refine⟨setAt w cb (.map (ces.push { key:=uk,val:=uv,born:=clock }) (clock+1)),?_,?_⟩
      ·simp[Instr.mapUpdate,run_und hu,getObj_run h1 hnc,checkKey_run au.1 hk,Instr.findKey,run_und hd,hf,setObj_run h1 hnc]
      ·rw[upd_eq]
       refine hS.change hb rfl rfl hp (fun c t fz hc=>by rw[h1] at hc;cases hc) ?_
       have g:Goes (Bd F φ st) w (Bd F φ st) (setAt w cb (.map (ces.push { key:=uk,val:=uv,born:=clock }) (clock+1))):=
        goes_setAt (.inr az) h1 (fun c t fz hc=>by cases hc)
       refine⟨_,setAt_same h1,by simp[h2.1],fun j e2 c2 hj hc=>?_⟩
       rcases Nat.lt_trichotomy j es.length with hlt | heq | hgt
       ·rw[List.getElem?_append_left hlt] at hj
        rw[Array.getElem?_push,if_neg (by have:=h2.1;omega)] at hc
        obtain⟨a1,a2,a3⟩:=h2.2 j e2 c2 hj hc
        exact⟨a1.mono g (fun _ _ h=>h),a2.mono g (fun _ _ h=>h),a3⟩
       ·subst heq
        simp at hj
        rw[Array.getElem?_push,if_pos h2.1] at hc
        simp at hc
        subst hj;subst hc
        exact⟨hk.mono g (fun _ _ h=>h),hv.mono g (fun _ _ h=>h),rfl⟩
       ·rw[List.getElem?_eq_none (by simp;omega)] at hj;cases hj
   ·cases h
  ·cases h
 ·cases h
theorem obj_new (hS:Sess E F φ st w) {ab:AB} (hl:live ab=true) (o:Obj)
  (bM:∀(B':Nat->Prop) (φ':Phi),(∀b x,φ b=some x->φ' b=some x)->Goes (Bd F φ st) w B' (pushed w o)->ORel E.P B' (pushed w o) φ' w.heap.size 0 ab):
  Sess E F (phiSet φ st.length w.heap.size 0) (st++[ab]) (pushed w o)/\Ext φ st w (phiSet φ st.length w.heap.size 0) (st++[ab]) (pushed w o)/\phiSet φ st.length w.heap.size 0 st.length=some (w.heap.size,0):=by
 obtain⟨g1,g2⟩:=hS.ghost ab
 have hf:=hS.fresh (Nat.le_refl st.length)
 have hB:Bd F φ (st++[ab])=Bd F φ st:=funext fun cb=>by simp only[Bd,own_ghost hf]
 obtain⟨r1,r2⟩:=g1.realize (b:=st.length) (ab:=ab) (by simp) hl hf o (fun B' g=>bM B' _ (phiSet_le hf) (by rw[hB] at g;exact g))
 exact⟨r1,ghost_real g2 r2 rfl,by simp[phiSet]⟩
theorem rangeE_sound (hS:Sess E F φ st w) {t:TypeId} {x v:AV} {ux:Value} {st':St} (h:rangeE E.P st t x=some (v,st')) (hx:VRel (Bd F φ st) w φ x ux):
  Comes1 E F φ st w (Instr.range t ux) v st':=by
 have ptr0:∀{φ':Phi} {w':World} {st'':St},φ' st.length=some (w.heap.size,0)->VRel (Bd F φ' st'') w' φ' (.ptr st.length 0) (.pointer (some ⟨w.heap.size,0,none⟩)):=by
  intro φ' w' st'' hp
  have:=VRel.ptr (B:=Bd F φ' st'') (w:=w') (off:=0) hp
  simpa using this
 unfold rangeE at h
 split at h
 ·rename_i k e hu
  simp at h;obtain⟨rfl,rfl⟩:=h
  cases hx
  obtain⟨s1,s2,s3⟩:=obj_new hS (ab:=.iter none 0 [] 0) rfl (.mapIter none 0 #[] 0) (fun B' φ' _ _=>⟨rfl,none,pushed_new w _,(fun _=>rfl),(fun b hb=>by cases hb)⟩)
  exact⟨_,_,_,by simp[Instr.range,run_und hu,pushed],s1,s2,ptr0 s3⟩
 ·rename_i k e b hu
  rw[get?_eq] at h
  split at h
  ·rename_i es clock hb
   simp at h;obtain⟨rfl,rfl⟩:=h
   cases hx with
   | map hp=>
    rename_i cb co
    obtain⟨ces,h1,h2⟩:=hS.blk b _ cb co hb hp
    obtain⟨s1,s2,s3⟩:=obj_new hS (ab:=.iter (some b) clock [] clock) rfl (.mapIter (some cb) clock #[] clock) (fun B' φ' hle _=>⟨rfl,some cb,pushed_new w _,(fun h=>by cases h),(fun b' hb'=>by cases hb';exact⟨cb,co,rfl,hle _ _ hp⟩)⟩)
    exact⟨_,_,_,by simp[Instr.range,run_und hu,getObj_run h1,pushed],s1,s2,ptr0 s3⟩
  ·cases h
 ·rename_i s hu
  simp at h;obtain⟨rfl,rfl⟩:=h
  cases hx
  obtain⟨s1,s2,s3⟩:=obj_new hS (ab:=.siter s 0) rfl (.stringIter ⟨s.toArray⟩ 0) (fun B' φ' _ _=>⟨rfl,pushed_new w _⟩)
  exact⟨_,_,_,by simp[Instr.range,run_und hu,pushed],s1,s2,ptr0 s3⟩
 ·cases h
theorem tup3 {B:Nat->Prop} {x y z:AV} {u v t:Value} (hx:VRel B w φ x u) (hy:VRel B w φ y v) (hz:VRel B w φ z t):VRel B w φ (.tup [x,y,z]) (.tuple #[u,v,t]):=
 .tup rfl (fun j a b ha hb=>by
  match j with
  | 0=>simp at ha hb;subst ha;subst hb;exact hx
  | 1=>simp at ha hb;subst ha;subst hb;exact hy
  | 2=>simp at ha hb;subst ha;subst hb;exact hz
  | j+3=>simp at ha)
theorem tup1 {B:Nat->Prop} {x:AV} {u:Value} (hx:VRel B w φ x u):VRel B w φ (.tup [x]) (.tuple #[u]):=
 .tup rfl (fun j a b ha hb=>by
  match j with
  | 0=>simp at ha hb;subst ha;subst hb;exact hx
  | j+1=>simp at ha)
theorem ent_filter {B:Nat->Prop}:∀{es:List AEnt} {ces:List MapEntry} (p:Nat->Bool),es.length=ces.length->
  (∀(j:Nat) e c,es[j]?=some e->ces[j]?=some c->VRel B w φ e.key c.key/\VRel B w φ e.val c.val/\e.born=c.born)->
  (es.filter fun e=>p e.born).length=(ces.filter fun c=>p c.born).length/\
  (∀(j:Nat) e c,(es.filter fun e=>p e.born)[j]?=some e->(ces.filter fun c=>p c.born)[j]?=some c->VRel B w φ e.key c.key/\VRel B w φ e.val c.val/\e.born=c.born)
 | [],ces,p,hl,hr=>by
  have:ces=[]:=List.eq_nil_of_length_eq_zero hl.symm
  subst this;exact⟨rfl,fun j e c h=>by simp at h⟩
 | e::es,[],p,hl,hr=>by simp at hl
 | e::es,c::ces,p,hl,hr=>by
  obtain⟨i1,i2⟩:=ent_filter (es:=es) (ces:=ces) p (by simpa using hl) (fun j e c he hc=>hr (j+1) e c (by simpa using he) (by simpa using hc))
  have h0:=hr 0 e c rfl rfl
  cases hp:p e.born with
  | true=>
   have hp':p c.born=true:=by rw[<-h0.2.2];exact hp
   simp only[List.filter_cons,hp,hp',if_true]
   refine⟨by simp[i1],fun j e' c' he hc=>?_⟩
   cases j with
   | zero=>simp at he hc;subst he;subst hc;exact h0
   | succ j=>exact i2 j e' c' (by simpa using he) (by simpa using hc)
  | false=>
   have hp':p c.born=false:=by rw[<-h0.2.2];exact hp
   simp only[List.filter_cons,hp,hp',if_false,Bool.false_eq_true]
   exact⟨i1,i2⟩
theorem nextE_sound (hS:Sess E F φ st w) {x v:AV} {ux:Value} {st':St} {isS:Bool} {ty:TypeId} (h:nextE st x isS=some (v,st')) (hx:VRel (Bd F φ st) w φ x ux):
  Comes1 E F φ st w (Instr.next ux isS ty) v st':=by
 unfold nextE at h
 split at h
 ·rename_i r
  rw[get?_eq] at h
  cases hx with
  | ptr hp=>
   rename_i cb co
   split at h
   ·rename_i since seen stepped hb
    simp at h;obtain⟨rfl,rfl⟩:=h
    obtain⟨h0,cm,h1,h2,h3⟩:=hS.blk r _ cb co hb hp
    subst h0
    obtain rfl:=h2 rfl
    exact⟨.tuple #[.bool false],φ,w,by simp[Instr.next,getObj_run h1],hS,Ext.refl _ _ _,tup1 (.bool _)⟩
   ·rename_i m since seen last hb
    rw[get?_eq] at h
    split at h
    ·rename_i es clock hm
     obtain⟨h0,cm,h1,h2,h3⟩:=hS.blk r _ cb co hb hp
     subst h0
     obtain⟨cmb,y,rfl,hpm⟩:=h3 m rfl
     obtain⟨ces,m1,m2⟩:=hS.blk m _ cmb y hm hpm
     split at h
     ·cases h
     ·rename_i au
      simp only at h
      have ew:∀c t f,Obj.mapIter (some cmb) since seen.toArray last≠.cells c t f:=by simp
      have eX:∀c t f,Obj.map ces clock≠.cells c t f:=by simp
      have hfl:=ent_filter (B:=Bd F φ st) (w:=w) (φ:=φ) (es:=es) (ces:=ces.toList) (fun b=>!seen.contains b) (by simpa using m2.1) (fun j e c he hc=>m2.2 j e c he (by simpa using hc))
      have hold:=ent_filter (B:=Bd F φ st) (w:=w) (φ:=φ) (fun b=>decide (b<since)) hfl.1 hfl.2
      have am:=ent_filter (B:=Bd F φ st) (w:=w) (φ:=φ) (fun b=>decide (since<=b)) hfl.1 hfl.2
      have eA:es.isEmpty=ces.isEmpty:=by
       have:=m2.1
       cases es with
       | nil=>simp at this;simp[Array.isEmpty,this.symm]
       | cons a l=>
        have h5:ces.size≠0:=by simp at this;omega
        simp[Array.isEmpty,h5]
      have aB:es.all (fun e=>decide (last<=e.born))=ces.all (·.born>=last):=by
       rw[<-Array.all_toList]
       have hl2:es.length=ces.toList.length:=by simpa using m2.1
       have hr2:∀(j:Nat) e c,es[j]?=some e->ces.toList[j]?=some c->e.born=c.born:=fun j e c he hc=>(m2.2 j e c he (by simpa using hc)).2.2
       generalize ces.toList=cl at hl2 hr2
       clear hfl hold am au h hm m2 eA
       induction es generalizing cl with
       | nil=>simp at hl2;simp[List.eq_nil_of_length_eq_zero hl2.symm]
       | cons e es ih=>
        cases cl with
        | nil=>simp at hl2
        | cons c cl=>
         simp only[List.all_cons]
         rw[ih cl (by simpa using hl2) (fun j e c he hc=>hr2 (j+1) e c (by simpa using he) (by simpa using hc)),hr2 0 e c rfl rfl]
      have eB:(!seen.toArray.isEmpty&&!ces.isEmpty&&ces.all (·.born>=last))=false:=by
       have e1:seen.toArray.isEmpty=seen.isEmpty:=by simp
       rw[e1,<-eA,<-aB]
       simpa using au
      have lists:∀(l:Array MapEntry),(l.filter (fun e=>!seen.toArray.contains e.born)).toList=l.toList.filter fun e=>!seen.contains e.born:=by
       intro l;simp
      generalize hcl:ces.filter (fun e=>!seen.toArray.contains e.born)=cl
      have g7:cl.toList=ces.toList.filter fun e=>!seen.contains e.born:=by rw[<-hcl,lists]
      generalize hco:cl.filter (fun e=>decide (e.born<since))=cold
      have jm:cold.toList=(ces.toList.filter fun e=>!seen.contains e.born).filter fun e=>decide (e.born<since):=by rw[<-hco,<-g7];simp
      generalize hcn:cl.filter (fun e=>decide (e.born>=since))=cnew
      have fW:cnew.toList=(ces.toList.filter fun e=>!seen.contains e.born).filter fun e=>decide (since<=e.born):=by rw[<-hcn,<-g7];simp[ge_iff_le]
      rw[<-jm] at hold
      rw[<-fW] at am
      split at h
      ·rename_i ho hn
       simp only[Option.some.injEq,Prod.mk.injEq] at h
       obtain⟨rfl,rfl⟩:=h
       rw[ho] at hold
       rw[hn] at am
       have e1:cold=#[]:=by have:=hold.1;simp at this;exact Array.eq_empty_of_size_eq_zero this.symm
       have e2:cnew=#[]:=by have:=am.1;simp at this;exact Array.eq_empty_of_size_eq_zero this.symm
       refine⟨.tuple #[.bool false],φ,w,?_,hS,Ext.refl _ _ _,tup1 (.bool _)⟩
       simp only[Instr.next,Sem.run_bind,getObj_run h1 ew,Result.andThen_ok,getObj_run m1 eX,eB,Bool.false_eq_true,if_false,hcl,hco,hcn,e1,e2]
       simp[choose,Sem.run,Question.forced]
      ·rename_i e ho hn
       simp only[Option.some.injEq,Prod.mk.injEq] at h
       obtain⟨rfl,rfl⟩:=h
       rw[ho] at hold
       rw[hn] at am
       have e2:cnew=#[]:=by have:=am.1;simp at this;exact Array.eq_empty_of_size_eq_zero this.symm
       obtain⟨c,e1⟩:∃c,cold=#[c]:=by
        have h5:=hold.1
        have:cold.toList.length=1:=by simpa using h5.symm
        obtain⟨c,hc⟩:=List.length_eq_one_iff.1 this
        exact⟨c,by apply Array.ext';simpa using hc⟩
       rw[e1] at hold
       obtain⟨k1,k2,k3⟩:=hold.2 0 e c rfl rfl
       refine⟨.tuple #[.bool true,c.key,c.val],φ,setAt w cb (.mapIter (some cmb) since (seen.toArray.push c.born) clock),?_,?_⟩
       ·simp only[Instr.next,Sem.run_bind,getObj_run h1 ew,Result.andThen_ok,getObj_run m1 eX,eB,Bool.false_eq_true,if_false,hcl,hco,hcn,e1,e2]
        simp[choose,Sem.run,Question.forced,setObj_run h1 ew]
       ·rw[upd_eq]
        have g:Goes (Bd F φ st) w (Bd F φ st) (setAt w cb (.mapIter (some cmb) since (seen.toArray.push c.born) clock)):=
         goes_setAt (.inr ⟨r,_,0,hb,rfl,hp⟩) h1 (fun c t fz hc=>by cases hc)
        obtain⟨s1,s2⟩:=hS.change (ab':=.iter (some m) since (seen++[e.born]) clock) (o':=.mapIter (some cmb) since (seen.toArray.push c.born) clock) hb rfl rfl hp
         (fun c t fz hc=>by rw[h1] at hc;cases hc) ⟨rfl,some cmb,by rw[setAt_same h1,k3];simp,(fun h=>by cases h),(fun b' hb'=>by cases hb';exact⟨cmb,y,rfl,hpm⟩)⟩
        exact⟨s1,s2,tup3 (.bool _) (s2.val k1) (s2.val k2)⟩
      ·cases h
    ·cases h
   ·rename_i s pos hb
    obtain⟨h0,h1⟩:=hS.blk r _ cb co hb hp
    subst h0
    have hnc:∀c t f,Obj.stringIter ⟨s.toArray⟩ pos≠.cells c t f:=by simp
    have hsz:(⟨s.toArray⟩:ByteArray).size=s.length:=by simp[ByteArray.size]
    split at h
    ·rename_i hlt
     simp only[Option.some.injEq,Prod.mk.injEq] at h
     obtain⟨rfl,rfl⟩:=h
     refine⟨.tuple #[.bool true,goInt pos,.int .i32 (Utf8.decode ⟨s.toArray⟩ pos).1],φ,setAt w cb (.stringIter ⟨s.toArray⟩ (pos+(Utf8.decode ⟨s.toArray⟩ pos).2)),?_,?_⟩
     ·simp[Instr.next,getObj_run h1 hnc,hsz,hlt,setObj_run h1 hnc]
     ·rw[upd_eq]
      obtain⟨s1,s2⟩:=hS.change (ab':=.siter s (pos+(Utf8.decode ⟨s.toArray⟩ pos).2)) (o':=.stringIter ⟨s.toArray⟩ (pos+(Utf8.decode ⟨s.toArray⟩ pos).2)) hb rfl rfl hp
       (fun c t fz hc=>by rw[h1] at hc;cases hc) ⟨rfl,setAt_same h1⟩
      exact⟨s1,s2,tup3 (.bool _) (.int _ _) (.int _ _)⟩
    ·rename_i hlt
     simp only[Option.some.injEq,Prod.mk.injEq] at h
     obtain⟨rfl,rfl⟩:=h
     exact⟨.tuple #[.bool false],φ,w,by simp[Instr.next,getObj_run h1 hnc,hsz,hlt],hS,Ext.refl _ _ _,tup1 (.bool _)⟩
   ·cases h
 ·cases h
theorem entryE_sound (hS:Sess E F φ st w) {x v:AV} {ux:Value} (h:entryE st x=some v) (hx:VRel (Bd F φ st) w φ x ux):
  Gives E.P w (Bd F φ st) φ (Instr.entry ux) v:=by
 unfold entryE at h
 split at h
 ·rename_i r
  rw[get?_eq] at h
  cases hx with
  | ptr hp=>
   rename_i cb co
   split at h
   ·rename_i m since seen stepped hb
    rw[get?_eq] at h
    split at h
    ·rename_i es clock stamp hm hst
     split at h
     ·rename_i hcl
      subst hcl
      simp only[Option.map_eq_some_iff] at h
      obtain⟨e,he,rfl⟩:=h
      obtain⟨h0,cm,h1,h2,h3⟩:=hS.blk r _ cb co hb hp
      subst h0
      obtain⟨cmb,y,rfl,hpm⟩:=h3 m rfl
      obtain⟨ces,m1,m2⟩:=hS.blk m _ cmb y hm hpm
      have hback:seen.toArray.back?=some stamp:=by simp[hst]
      have g8:∃c,ces.find? (fun x=>x.born==stamp)=some c/\VRel (Bd F φ st) w φ e.key c.key/\VRel (Bd F φ st) w φ e.val c.val:=by
       rw[<-Array.find?_toList]
       have hl2:es.length=ces.toList.length:=by simpa using m2.1
       have hr2:∀(j:Nat) e c,es[j]?=some e->ces.toList[j]?=some c->VRel (Bd F φ st) w φ e.key c.key/\VRel (Bd F φ st) w φ e.val c.val/\e.born=c.born:=fun j e c he hc=>m2.2 j e c he (by simpa using hc)
       generalize ces.toList=cl at hl2 hr2
       clear hm m2
       induction es generalizing cl with
       | nil=>simp at he
       | cons e0 es ih=>
        cases cl with
        | nil=>simp at hl2
        | cons c cl=>
         obtain⟨k1,k2,k3⟩:=hr2 0 e0 c rfl rfl
         rw[List.find?_cons] at he ⊢
         rw[<-k3]
         cases hbs:e0.born==stamp with
         | true=>rw[hbs] at he;simp at he;subst he;exact⟨c,rfl,k1,k2⟩
         | false=>rw[hbs] at he;exact ih he cl (by simpa using hl2) (fun j e c he hc=>hr2 (j+1) e c (by simpa using he) (by simpa using hc))
      obtain⟨c,hc,k1,k2⟩:=g8
      have ew:∀c t f,Obj.mapIter (some cmb) since seen.toArray clock≠.cells c t f:=by simp
      have eX:∀c t f,Obj.map ces clock≠.cells c t f:=by simp
      refine⟨.tuple #[c.key,c.val],?_,tup2 k1 k2⟩
      simp[Instr.entry,getObj_run h1 ew,hst,getObj_run m1 eX,hc]
     ·cases h
    ·cases h
   ·cases h
 ·cases h
end
end Go.Proofs.YtnnhofmknilopaaGreatDoor.Gx
namespace Go.Proofs.YtnnhofmknilopaaGreatDoor.Gx
open Go
section
variable {E:Env} {F:Nat->Prop} {φ:Phi} {w:World}
def FrzOk (E:Env) (F:Nat->Prop) (φ:Phi) (w:World) (f:AV->St->Option (AV × St)):Prop:=
 ∀(v:AV) (st:St) (v':AV) (st':St) (u:Value),f v st=some (v',st')->Sess E F φ st w->VRel (Bd F φ st) w φ v u->
  Sess E F φ st' w/\Ext φ st w φ st' w/\VRel (Bd F φ st') w phi0 v' u
theorem Ext0.val0 {φ':Phi} {st st':St} {w':World} (h:Ext0 φ st w φ' st' w') {v:AV} {u:Value} (hv:VRel (Bd F φ st) w phi0 v u):VRel (Bd F φ' st') w' phi0 v u:=
 hv.mono h.goes (fun _ _ h=>h)
theorem Ext0.list0 {φ':Phi} {st st':St} {w':World} (h:Ext0 φ st w φ' st' w') {l:List AV} {us:List Value} (hv:LRel (Bd F φ st) w phi0 l us):LRel (Bd F φ' st') w' phi0 l us:=
 hv.mono h.goes (fun _ _ h=>h)
theorem frzL_sound {f:AV->St->Option (AV × St)} (hf:FrzOk E F φ w f):∀{l:List AV} {st st':St} {l':List AV} {us:List Value},frzL f l st=some (l',st')->Sess E F φ st w->
  LRel (Bd F φ st) w φ l us->Sess E F φ st' w/\Ext φ st w φ st' w/\LRel (Bd F φ st') w phi0 l' us
 | [],st,st',l',us,h,hS,hl=>by
  simp[frzL] at h;obtain⟨rfl,rfl⟩:=h
  rw[hl.inv_nil]
  exact⟨hS,Ext.refl _ _ _,.nil⟩
 | v::l,st,st',l',us,h,hS,hl=>by
  unfold frzL at h
  split at h
  ·rename_i v1 st1 h1
   split at h
   ·rename_i l1 st2 h2
    simp at h;obtain⟨rfl,rfl⟩:=h
    obtain⟨u,us',rfl,r1,r2⟩:=hl.inv_cons
    obtain⟨a1,a2,a3⟩:=hf _ _ _ _ _ h1 hS r1
    obtain⟨b1,b2,b3⟩:=frzL_sound hf h2 a1 (a2.list r2)
    exact⟨b1,a2.trans b2,.cons (b2.val0 a3) b3⟩
   ·cases h
  ·cases h
structure FrzRow (B:Nat->Prop) (w:World) (cb co:Nat) (cs:List AV):Prop where
 out:¬B cb
 row:∃(cells:Array Value) (t:TypeId) (fz:Nat × Nat),w.heap[cb]?=some (.cells cells t fz)/\∀(j:Nat) c,cs[j]?=some c->∃v,cells[co+j]?=some v/\VRel B w phi0 c v
theorem frzBlk_sound {f:AV->St->Option (AV × St)} (hf:FrzOk E F φ w f) {b:Nat} {st st':St} {cs:List AV} {cb co:Nat} (h:frzBlk f b st=some (cs,st')) (hS:Sess E F φ st w) (hp:φ b=some (cb,co)):
  Sess E F φ st' w/\Ext φ st w φ st' w/\FrzRow (Bd F φ st') w cb co cs:=by
 unfold frzBlk at h
 rw[get?_eq] at h
 split at h
 ·rename_i cs0 hb
  split at h
  ·rename_i cs' st1 h1
   rw[get?_eq] at h
   split at h
   ·rename_i cs1 hb1
    simp at h;obtain⟨rfl,rfl⟩:=h
    obtain⟨cells,t,q1,q2⟩:=hS.blk b _ cb co hb hp
    obtain⟨us,e1,e2,e3⟩:=pick_row (B:=Bd F φ st) (w:=w) (φ:=φ) cs0 (fun j v=>cells[co+j]?=some v) q2
    obtain⟨a1,a2,a3⟩:=frzL_sound hf h1 hS e3
    rw[upd_eq]
    have bM:∀(cb' co':Nat),φ b=some (cb',co')->ORel E.P (Bd F φ (st1.set b (.frz cs'))) w φ cb' co' (.frz cs'):=by
     intro cb' co' hp'
     rw[hp] at hp';cases hp'
     have az:Own φ st1 cb:=⟨b,_,co,hb1,rfl,hp⟩
     have dH:¬Bd F φ (st1.set b (.frz cs')) cb:=by
      rintro(hF | ⟨x,ax,co',h2,h3,h4⟩)
      ·exact(a1.fout cb hF).2 az
      ·rw[List.getElem?_set] at h2
       by_cases e:b=x
       ·subst e;simp[lt_of_get hb1] at h2;subst h2;cases h3
       ·simp[e] at h2
        exact e (a1.inj b x _ ax cb co co' hb1 rfl h2 h3 hp h4)
     refine⟨dH,cells,t,(0,0),q1,fun j c hj=>?_⟩
     have hlt:j<us.length:=by have:=lt_of_get hj;have:=a3.1;omega
     refine⟨us[j],e2 j _ (List.getElem?_eq_getElem hlt),?_⟩
     have hv:=a3.2 j c _ hj (List.getElem?_eq_getElem hlt)
     refine hv.mono ⟨fun x hx hb=>⟨fun hb'=>hb ?_,rfl⟩,Nat.le_refl _,fun _ c _ _ h=>⟨c,h,rfl⟩⟩ (fun _ _ h=>h)
     rcases hb' with hF | ⟨y,ay,co',h2,h3,h4⟩
     ·exact .inl hF
     ·rw[List.getElem?_set] at h2
      by_cases e:b=y
      ·subst e;simp[lt_of_get hb1] at h2;subst h2;cases h3
      ·simp[e] at h2;exact .inr ⟨y,ay,co',h2,h3,h4⟩
    obtain⟨r1,r2⟩:=a1.retire (ab':=.frz cs') hb1 rfl rfl bM
    have:=bM cb co hp
    exact⟨r1,a2.trans r2,this.1,this.2⟩
   ·cases h
  ·cases h
 ·rename_i cs0 hb
  simp at h;obtain⟨rfl,rfl⟩:=h
  have:=hS.blk b _ cb co hb hp
  exact⟨hS,Ext.refl _ _ _,this.1,this.2⟩
 ·cases h
theorem FrzRow.iptr {B:Nat->Prop} {cb co off:Nat} {cs:List AV} (h:FrzRow B w cb co cs):VRel B w phi0 (.iptr (dropN cs off)) (.pointer (some ⟨cb,co+off,none⟩)):=by
 obtain⟨h1,cells,t,fz,h2,h3⟩:=h
 refine iptr_at (vs:=fun j=>cells.getD (co+j) .nilIface) h1 (heap_lt h2) (fun j c hj=>?_) (fun j c hj=>?_)
 ·obtain⟨v,e1,e2⟩:=h3 j c hj
  rw[cell_of_cells h2,e1]
  simp[Array.getD]
  have:co+j<cells.size:=by
   rcases Nat.lt_or_ge (co+j) cells.size with h | h
   ·exact h
   ·simp[Array.getElem?_eq_none h] at e1
  simp[this] at e1 ⊢
  exact e1.symm
 ·obtain⟨v,e1,e2⟩:=h3 j c hj
  have:co+j<cells.size:=by
   rcases Nat.lt_or_ge (co+j) cells.size with h | h
   ·exact h
   ·simp[Array.getElem?_eq_none h] at e1
  simp[Array.getD,this] at e1 ⊢
  rw[e1];exact e2
theorem frzV_sound:∀(n:Nat),FrzOk E F φ w (frzV n)
 | 0=>fun v st v' st' u h=>by simp[frzV] at h
 | n+1=>by
  intro v st v' st' u h hS hv
  have ih:=frzV_sound n
  have easy:some (v,st)=some (v',st')->VRel (Bd F φ st) w phi0 v u->Sess E F φ st' w/\Ext φ st w φ st' w/\VRel (Bd F φ st') w phi0 v' u:=by
   intro he hv0
   simp at he;obtain⟨rfl,rfl⟩:=he
   exact⟨hS,Ext.refl _ _ _,hv0⟩
  have lists:∀{cs:List AV} {us:Array Value},cs.length=us.size->(∀(j:Nat) x v,cs[j]?=some x->us[j]?=some v->VRel (Bd F φ st) w φ x v)->LRel (Bd F φ st) w φ cs us.toList:=
   fun hl hv=>⟨by simpa using hl,fun j x v hx hv'=>hv j x v hx (by simpa using hv')⟩
  cases hv with
  | bool b=>exact easy h (.bool b)
  | int k m=>exact easy h (.int k m)
  | str l=>exact easy h (.str l)
  | nilptr=>exact easy h .nilptr
  | nilsl=>exact easy h .nilsl
  | nilmap=>exact easy h .nilmap
  | nilfn=>exact easy h .nilfn
  | nilif=>exact easy h .nilif
  | unk u=>exact easy h (.unk u)
  | oint h1 h2=>exact easy h (.oint h1 h2)
  | ostr hn=>exact easy h (.ostr hn)
  | iptr vs hb hl hc hv=>exact easy h (.iptr vs hb hl hc hv)
  | isl vs hx hl hb hc hv=>exact easy h (.isl vs hx hl hb hc hv)
  | map hp=>simp[frzV] at h
  | yld hp=>simp[frzV] at h
  | ptr hp=>
   rename_i b off cb co
   simp only[frzV,Option.map_eq_some_iff,Prod.mk.injEq] at h
   obtain⟨⟨cs,st1⟩,h1,rfl,rfl⟩:=h
   obtain⟨a1,a2,a3⟩:=frzBlk_sound ih h1 hS hp
   exact⟨a1,a2,a3.iptr⟩
  | sl hp ho hl hxx hg=>
   rename_i b off len cap cb co o ccap
   simp only[frzV,Option.map_eq_some_iff,Prod.mk.injEq] at h
   obtain⟨⟨cs,st1⟩,h1,rfl,rfl⟩:=h
   obtain⟨a1,a2,a3⟩:=frzBlk_sound ih h1 hS hp
   refine⟨a1,a2,?_⟩
   have aD:∀c,capOpt cap=some c->ccap=c:=by
    intro c hc
    cases cap with
    | ex c'=>simp[capOpt] at hc;subst hc;exact hxx _ rfl
    | gr z=>simp[capOpt] at hc
   by_cases h0:len=0
   ·subst h0
    simp only[if_true]
    exact .isl (fun _=>.nilIface) aD (Nat.zero_le _) (fun e=>absurd rfl e) (fun j c hj=>by simp at hj) (fun j c hj=>by simp at hj)
   ·simp only[h0,if_false]
    have ho':o=co+off:=ho.resolve_left (by omega)
    subst ho'
    have:=a3.iptr (off:=off)
    cases this with
    | iptr vs hb hl' hc hv=>exact .isl vs aD hl (fun _=>⟨hb,rfl⟩) hc hv
  | func ha hc hav hcv=>
   rename_i f a c a' c'
   simp only[frzV] at h
   split at h
   ·rename_i a1 st1 h1
    simp only[Option.map_eq_some_iff,Prod.mk.injEq] at h
    obtain⟨⟨c1,st2⟩,h2,rfl,rfl⟩:=h
    obtain⟨p1,p2,p3⟩:=frzL_sound ih h1 hS (lists ha hav)
    obtain⟨q1,q2,q3⟩:=frzL_sound ih h2 p1 (p2.list (lists hc hcv))
    refine⟨q1,p2.trans q2,?_⟩
    have p3':=q2.list0 p3
    exact .func (by have:=p3'.1;simpa using this) (by have:=q3.1;simpa using this)
     (fun j x v hx hv=>p3'.2 j x v hx (by simpa using hv)) (fun j x v hx hv=>q3.2 j x v hx (by simpa using hv))
   ·cases h
  | iface hv=>
   simp only[frzV,Option.map_eq_some_iff,Prod.mk.injEq] at h
   obtain⟨⟨v1,st1⟩,h1,rfl,rfl⟩:=h
   obtain⟨p1,p2,p3⟩:=ih _ _ _ _ _ h1 hS hv
   exact⟨p1,p2,.iface p3⟩
  | agg hl hv=>
   simp only[frzV,Option.map_eq_some_iff,Prod.mk.injEq] at h
   obtain⟨⟨l1,st1⟩,h1,rfl,rfl⟩:=h
   obtain⟨p1,p2,p3⟩:=frzL_sound ih h1 hS (lists hl hv)
   exact⟨p1,p2,by simpa using VRel.of_list p3⟩
  | tup hl hv=>
   simp only[frzV,Option.map_eq_some_iff,Prod.mk.injEq] at h
   obtain⟨⟨l1,st1⟩,h1,rfl,rfl⟩:=h
   obtain⟨p1,p2,p3⟩:=frzL_sound ih h1 hS (lists hl hv)
   exact⟨p1,p2,by simpa using VRel.of_list_tup p3⟩
end
end Go.Proofs.YtnnhofmknilopaaGreatDoor.Gx
namespace Go.Proofs.YtnnhofmknilopaaGreatDoor.Gx
open Go
section
variable {E:Env} {F:Nat->Prop} {φ:Phi} {st:St} {w:World}
theorem toB_sound {B:Nat->Prop}:∀{cs:List AV} {l:List UInt8} {us:List Value},toB cs=some l->LRel B w φ cs us->∃ns:List Int,us=ns.map (Value.int .u8)/\l=ns.map fun n=>UInt8.ofNat n.toNat
 | [],l,us,h,hr=>by
  simp only[toB,Option.some.injEq] at h;subst h
  exact⟨[],by simpa using hr.inv_nil,rfl⟩
 | c::cs,l,us,h,hr=>by
  unfold toB at h
  split at h
  ·rename_i e;cases e
  ·rename_i k cs' e
   cases e
   split at h
   ·rename_i l' hl
    simp only[Option.some.injEq] at h;subst h
    obtain⟨u,us',rfl,h1,h2⟩:=hr.inv_cons
    obtain⟨ns,rfl,rfl⟩:=toB_sound hl h2
    cases h1
    exact⟨k::ns,rfl,rfl⟩
   ·cases h
  ·cases h
theorem foldl_push (ns:List Int):∀(b:ByteArray),ns.foldl (fun r n=>r.push (UInt8.ofNat n.toNat)) b=⟨b.data++(ns.map fun n=>UInt8.ofNat n.toNat).toArray⟩:=by
 induction ns with
 | nil=>intro b;simp
 | cons n ns ih=>
  intro b
  rw[List.foldl_cons,ih]
  congr 1
  show(b.data.push _)++_=_
  simp
theorem modify_push {α:Type} (a:Array α) (x:α) (f:α->α):(a.push x).modify a.size f=a.push (f x):=by
 apply Array.ext_getElem?
 intro i
 rw[Array.getElem?_modify,Array.getElem?_push,Array.getElem?_push]
 by_cases h:a.size=i
 ·subst h;simp
 ·have h':¬i=a.size:=fun e=>h e.symm
  simp[h,h']
theorem stringToBytes_sound (hS:Sess E F φ st w) (l:List UInt8) (e:TypeId):
  Comes1 E F φ st w (Conv.stringToBytes e ⟨l.toArray⟩) (.sl st.length 0 l.length (.gr 1)) (st++[.frz (l.map fun b=>.int .u8 b.toNat)]):=by
 obtain⟨d1,d2⟩:=drew_sess hS
 generalize hk:w.tape w.drawn (.appendCap l.length 0 e) % (2^63 - l.length)=k
 let cells:Array Value:=(l.toArray.map fun b=>(.int .u8 b.toNat:Value))++Array.replicate k (.int .u8 0)
 have hcs:cells.size=l.length+k:=by simp[cells]
 obtain⟨g1,g2⟩:=d1.ghost (.frz (l.map fun b=>.int .u8 b.toNat))
 have hf:=d1.fresh (Nat.le_refl st.length)
 obtain⟨r1,r2⟩:=g1.realizeF (b:=st.length) (cs:=l.map fun b=>.int .u8 b.toNat) (by simp) hf cells e (cells.size,cells.size+1) (fun j c hj=>by
  simp only[List.getElem?_map,Option.map_eq_some_iff] at hj
  obtain⟨b,hb,rfl⟩:=hj
  have hlt:=lt_of_get hb
  refine⟨.int .u8 b.toNat,?_,.int _ _⟩
  simp only[cells]
  rw[Array.getElem?_append_left (by simpa using hlt)]
  simp[hb])
 refine⟨.slice (some ⟨w.heap.size,0,none⟩) l.length (l.length+k),_,_,?_,r1,d2.trans (ghost_real g2 r2 rfl),?_⟩
 ·simp only[Conv.stringToBytes,Sem.run_bind]
  simp[newRow,newObj,markStringish,shape,freeze,choose,Sem.run]
  have hsz:(⟨l.toArray⟩:ByteArray).size=l.length:=by simp[ByteArray.size]
  have hcut:(Question.appendCap l.length 0 e).cut (w.tape w.drawn (Question.appendCap l.length 0 e))=l.length+k:=by rw[<-hk];rfl
  have bm:(l.map fun b=>(.int .u8 b.toNat:Value)).toArray++Array.replicate k (.int .u8 0)=cells:=by simp[cells]
  simp only[hsz,hcut,Nat.add_sub_cancel_left,bm]
  have fX:(w.drew.alloc (.cells cells e)).shape? w.heap.size=some (e,cells.size):=by
   show(match (w.heap.push (Obj.cells cells e))[w.heap.size]? with | some (.cells c elem _)=>some (elem,c.size) | _=>none)=_
   rw[Array.getElem?_push_size]
  rw[if_neg (by simp[Question.forced]),fX]
  simp only[Sem.run,Result.andThen]
  congr 1
  show World.mk ((w.heap.push (Obj.cells cells e)).modify w.heap.size _) _ _ _ _=World.mk (w.heap.push _) _ _ _ _
  rw[modify_push]
  rfl
 ·refine .sl (cb:=w.heap.size) (co:=0) (by simp[phiSet]) (.inr rfl) (by omega) (fun c e=>by cases e) (fun sz e'=>?_)
  cases e'
  right
  exact⟨cells,e,_,pushed_new _ _,by simp[hcs]⟩
theorem convX_sound (hS:Sess E F φ st w) {fr:Fr} {tmps:Array Value} (hT:LRel (Bd F φ st) w φ fr.tm tmps.toList) {s d:TypeId} {x:Operand} {v:AV} {st':St} (h:convX E fr st s d x=some (v,st')):
  Comes1 E F φ st w (convert s d (evalT tmps x)) v st':=by
 unfold convX at h
 split at h
 ·rename_i l ds e hx hs hd
  have hv:=ev_sound hS hT hx
  generalize evalT tmps x=u at hv
  cases hv
  split at h
  ·rename_i he
   simp only[Option.some.injEq,Prod.mk.injEq] at h
   obtain⟨rfl,rfl⟩:=h
   obtain⟨u,φ',w',h1,h2⟩:=stringToBytes_sound hS l e
   refine⟨u,φ',w',?_,h2⟩
   simp only[convert]
   simp[run_und hs,run_und hd,run_und he]
   exact h1
  ·cases h
 ·cases h
 ·rename_i a e hns hx hs hd
  have hv:=ev_sound hS hT hx
  generalize evalT tmps x=u at hv
  split at h
  ·rename_i he
   split at h
   ·rename_i n cs g9
    split at h
    ·rename_i l hl
     simp only[Option.some.injEq,Prod.mk.injEq] at h
     obtain⟨rfl,rfl⟩:=h
     obtain⟨us,h1,h2,h3,h4⟩:=srcOf_sound hS g9 hv
     obtain⟨ns,rfl,rfl⟩:=toB_sound hl h2
     have h5:=h4 n (Nat.le_refl _)
     rw[show n*1=(ns.map (Value.int .u8)).length by rw[h3],List.take_length] at h5
     refine⟨.string ⟨(ns.map fun n=>UInt8.ofNat n.toNat).toArray⟩,φ,w,?_,hS,Ext.refl _ _ _,.str _⟩
     have eC:∀base len cap,u=.slice base len cap->(Conv.bytesToString u).run E.P w=.ok (.string ⟨(ns.map fun n=>UInt8.ofNat n.toNat).toArray⟩) w:=by
      intro base len cap hu
      subst hu
      cases base with
      | none=>
       simp[Builtin.firstCells] at h5
       subst h5
       simp[Conv.bytesToString];rfl
      | some a=>
       simp only[Builtin.lenOf] at h1
       simp at h1
       subst h1
       simp only[Builtin.firstCells,Nat.mul_one] at h5
       rw[run_bytesToString w a _ cap ns h5,foldl_push,show ByteArray.empty.data=#[] from rfl]
       simp
     cases hv with
     | nilsl=>simp only[convert];simp[run_und hs,run_und hd,run_und he];exact eC _ _ _ rfl
     | sl hp ho hle hxx hg=>simp only[convert];simp[run_und hs,run_und hd,run_und he];exact eC _ _ _ rfl
     | isl vs hxx hle hb hc hv=>simp only[convert];simp[run_und hs,run_und hd,run_und he];exact eC _ _ _ rfl
     | str l=>exact absurd rfl (hns l)
     | _=>simp[srcOf] at g9
    ·cases h
   ·cases h
  ·cases h
 ·cases h
end
end Go.Proofs.YtnnhofmknilopaaGreatDoor.Gx
