import Derived.Test.YthcfmhgihcjloaaGreatDoorGxB
import Derived.Laws.BitsLemmas
import Derived.Laws.BytesString
namespace Go.Proofs.YthcfmhgihcjloaaGreatDoor.Gx
open Go
def dG (cells:Array Value) (k:Nat):List Value->Array Value
 | []=>cells
 | u::us=>dG (cells.setIfInBounds k u) (k+1) us
theorem E4:∀(us:List Value) (cells:Array Value) (k:Nat),(dG cells k us).size=cells.size
 | [],cells,k=>rfl
 | u::us,cells,k=>by simp[dG,E4 us]
theorem IM:∀(us:List Value) (cells:Array Value) (k j:Nat),k+us.length<=cells.size->
  (dG cells k us)[j]?=if k<=j/\j<k+us.length then us[j - k]? else cells[j]?
 | [],cells,k,j,_=>by rw[if_neg<|by simp];rfl
 | u::us,cells,k,j,h=>by
  simp only[vM] at h;simp only[dG];rw[IM us _ (k+1) j<|by simp;omega];by_cases a:k+1<=j/\j<k+1+us.length
  .rw[if_pos a,if_pos<|by simp;omega];have:j - k=(j - (k+1))+1:=(by omega);rw[this];simp
  rw[if_neg a,Array.getElem?_setIfInBounds];by_cases b:k=j
  .subst b;rw[if_pos rfl,if_pos<|by omega,if_pos<|by simp];simp
  rw[if_neg b,if_neg<|by simp;omega]
def oneV:Value->Prop
 | .agg _ | .tuple _=>False
 | _=>True
theorem VRel.oneV {B:Nat->Prop} {w:World} {φ:cO} {v:AV} {u:Value} (h:VRel B w φ v u) (a:ea v=true):oneV u:=by
 cases h<;>first | trivial | (simp[ea] at a;done)
theorem LRel.oneV {B:Nat->Prop} {w:World} {φ:cO} {l:List AV} {us:List Value} (h:LRel B w φ l us) (b:l.all ea=true):∀u∈us,Gx.oneV u:=by
 intro u d;obtain⟨i,c,rfl⟩:=List.getElem_of_mem d;have a:i<l.length:=by have:=h.1;omega
 exact(h.2 i l[i] us[i] (tD a) (tD c)).oneV (tV.1 b _<|List.getElem_mem a)
theorem OS {w:World} {cb o:Nat} {cells:Array Value} {t:TypeId} {b:Nat × Nat} (h:w.1[cb]?=some (.cells cells t b)) (v:Value):
  w.setCell ⟨cb,o,none⟩ v=bZ w cb (.cells (cells.setIfInBounds o v) t b):=by
 unfold World.setCell bZ;have g:=DR h;have f:w.1[cb]=.cells cells t b:=by simpa [tK g] using h
 congr 1;apply Array.ext
 .simp
 intro i k c;simp only[Array.getElem_modify];by_cases e:cb=i
 .subst e;simp[f]
 have:=vC (xs:=w.1) (a:=Obj.cells (cells.setIfInBounds o v) t b) (i:=cb) (j:=i) e;have d:i<w.1.size:=(by simpa using c);rw[tK c,tK d] at this;simp[e];exact(Option.some.inj this).symm
theorem OT {P:Program} {w:World} {cb o:Nat} {cells:Array Value} {t:TypeId} {u:Value} (h:w.1[cb]?=some (.cells cells t (0,0))) (c:o<cells.size) (d:oneV u):
  (store ⟨cb,o,none⟩ u).run P w=.ok () (bZ w cb<|.cells (cells.setIfInBounds o u) t (0,0)):=by
 have a:w.cell? ⟨cb,o,none⟩=some cells[o]:=by rw[Gf h];simp[c]
 have b:w.frozen? ⟨cb,o,none⟩=false:=by simp[World.frozen?,h]
 have key:(store ⟨cb,o,none⟩ u).run P w=.ok () (w.setCell ⟨cb,o,none⟩ u):=by
  cases u<;>first | exact d.elim | simp[store,Sem.run,a,b]
 rw[key,OS h]
theorem OU (w:World) (cb:Nat) (o o':Obj):bZ (bZ w cb o) cb o'=bZ w cb o':=by simp[bZ]
theorem wU {w:World} {cb:Nat} {o:Obj} (h:w.1[cb]?=some o):bZ w cb o=w:=by
 unfold bZ;have f:=DR h;have d:w.1[cb]=o:=by simpa [tK f] using h
 have:w.1.setIfInBounds cb o=w.heap:=by
  apply Array.ext
  .simp
  intro i b c;by_cases e:cb=i
  .subst e;simp[d]
  have:=vC (xs:=w.1) (a:=o) (i:=cb) (j:=i) e;rw[tK b,tK c] at this;exact Option.some.inj this
 rw[this]
theorem IN {P:Program} {cb o:Nat} {t:TypeId}:∀(us:List Value) (i:Nat) (w:World) (cells:Array Value),w.1[cb]?=some (.cells cells t (0,0))->o+i+us.length<=cells.size->
  (∀u∈us,oneV u)->(storeCells ⟨cb,o,none⟩ us i).run P w=.ok () (bZ w cb<|.cells (dG cells (o+i) us) t (0,0))
 | [],i,w,cells,h,_,_=>by simp[storeCells,dG,wU h]
 | u::us,i,w,cells,h,hl,hu=>by simp only[vM] at hl;have a:=OT (P:=P) (o:=o+i) h (by omega) (hu u<|by simp);have b:=IN (P:=P) (o:=o) us (i+1) _ _ (zx (o':=.cells (cells.setIfInBounds (o+i) u) t (0,0)) h) (by simp;omega) (λx c=>hu x<|by simp[c]);simp[storeCells,uZ,a,b,OU,dG,tP]
section
variable {E:Env} {F:Nat->Prop} {φ:cO} {st:St} {w:World}
theorem DX {B:Nat->Prop} {cb:Nat} {o o':Obj} (g:B cb) (h:w.1[cb]?=some o)
  (i:∀(cells:Array Value) (t:TypeId) (a:Nat × Nat),o=.cells cells t a->∃b:Array Value,o'=.cells b t a/\b.size=cells.size):Goes B w B (bZ w cb o') where
 keep x _ hx:=⟨hx,EX w o' λe=>hx<|e ▸ g⟩
 size:=by simp[bZ]
 shape x cells t a hc:=by
  by_cases e:cb=x
  .subst e;rw[h] at hc;cases hc;obtain⟨c,d,f⟩:=i _ _ _ rfl;exact⟨c,by rw[zx h,d],f⟩
  exact⟨cells,by rw[EX w o' e];exact hc,rfl⟩
theorem K3 (r:Sess E F φ st w) {b off cb co:Nat} {cs f vs:List AV} {us:List Value} (k:st[b]?=some (.own cs)) (x:φ b=some (cb,co))
  (z:dL cs off vs=some f) (q:LRel (Bd F φ st) w φ vs us) (d:vs.all ea=true):
  ∃w',(storeCells ⟨cb,co+off,none⟩ us).run E.P w=.ok () w'/\Sess E F φ (st.set b<|.own f) w'/\Ext φ st w φ (st.set b<|.own f) w':=by
 obtain⟨cells,t,p,A⟩:=r.blk b _ cb co k x;obtain⟨N,D,G⟩:=Iw _ _ _ _ z;have O:=q.1
 have s:vs=[]\/co+off+us.length<=cells.size:=by
  by_cases u:vs=[]
  .exact .inl u
  right;have I:=D u
  have:0<cs.length:=by cases vs with
   | nil=>exact absurd rfl u
   | cons a l=>simp at I;omega
  obtain⟨v,y,_⟩:=A (cs.length - 1) cs[cs.length - 1] (tD<|by omega)
  have:co+(cs.length - 1)<cells.size:=by
   rcases tH (co+(cs.length - 1)) cells.size with h | h
   .exact h
   simp[tT h] at y
  omega
 rcases s with rfl | s
 .have hus:us=[]:=q.inv_nil;subst hus;have:f=cs:=by cases cs<;>simp[dL] at z<;>simp[z]
  subst this
  have K:st.set b (.own f)=st:=by
   have n:=iZ k;apply List.ext_getElem?;intro i;rw[tQ];by_cases e:b=i
   .subst e;simp[n];simpa [tD n] using k.symm
   simp[e]
  rw[K];exact⟨w,by simp[storeCells],r,Ext.refl _ _ _⟩
 have C:=IN (P:=E.P) us 0 w cells (o:=co+off) p (by omega)<|q.oneV d;simp only[vL] at C;refine⟨_,C,?_⟩;have J:iW φ st cb:=⟨b,_,co,k,rfl,x⟩;refine r.change k rfl rfl x (λc M H d=>?_) ?_
 .rw[p] at d;cases d;exact⟨_,rfl,E4 _ _ _⟩
 have g:Goes (Bd F φ st) w (Bd F φ st) (bZ w cb<|.cells (dG cells (co+off) us) t (0,0)):=
  DX (.inr J) p (λc M H d=>by cases d;exact⟨_,rfl,E4 _ _ _⟩)
 refine⟨_,t,zx p,λj c m=>?_⟩;rw[G j] at m;rw[IM us cells (co+off) (co+j) s];by_cases B:off<=j/\j<off+vs.length
 .rw[if_pos B] at m;rw[if_pos<|by omega,show co+j - (co+off)=j - off by omega];have n:j - off<us.length:=(by omega);exact⟨us[j - off],tD n,(q.2 (j - off) c _ m<|tD n).mono g λ_ _ h=>h⟩
 rw[if_neg B] at m;rw[if_neg<|by omega];obtain⟨v,y,L⟩:=A j c m;exact⟨v,y,L.mono g λ_ _ h=>h⟩
theorem OV (j:Sess E F φ st w) {t:TypeId} {a v:AV} {ua uv:Value} {d:St} (h:s0 E.P st t a v=some d) (k:VRel (Bd F φ st) w φ a ua) (e:VRel (Bd F φ st) w φ v uv):
  ∃w',(Instr.storeAt t ua uv).run E.P w=.ok () w'/\Sess E F φ d w'/\Ext φ st w φ d w':=by
 unfold s0 at h;split at h
 .rename_i b off;rw[get?_eq] at h;split at h
  .rename_i cs hb;split at h
   .rename_i hcond;simp only[tJ,vI] at hcond;obtain⟨l,c⟩:=hcond;simp at h;obtain⟨o,n,rfl⟩:=h
    cases k with
    | ptr hp=>rename_i cb co;obtain⟨w',f,g,i⟩:=K3 j hb hp n (e.cells<|Ga c) c;refine⟨w',?_,by rw[ip];exact g,by rw[ip];exact i⟩;have m:uv.cells.size=(cellsOf v).length:=(by have:=(e.cells<|Ga c).1;simp at this;omega);simp[Instr.storeAt,Instr.sureAddr,storeVar,km l,m,f]
   cases h
  cases h
 cases h
theorem K5 (z:List AV):∀(n:Nat),(zu z n).length=n*z.length
 | 0=>by simp[zu]
 | n+1=>by simp[zu,K5 z n,vF];omega
theorem K6 {B:Nat->Prop} {z:List AV} {a:Array Value} (h:LRel B w φ z a.toList):∀(n:Nat),
  LRel B w φ (zu z n) ((Array.range<|n*a.size).map (a[·% a.size]!)).toList:=by
 intro n;have g:z.length=a.size:=by have:=h.1;simpa using this
 refine⟨by simp[K5,g],λj x v c i=>?_⟩
 have key:∀(n j:Nat) x,(zu z n)[j]?=some x->z[j % z.length]?=some x:=by
  intro n
  induction n with
  | zero=>intro j x c;simp[zu] at c
  | succ n o=>
   intro j x c;simp only[zu] at c
   rcases tH j z.length with b | b
   .rw[tI b] at c
    rwa [Nat.mod_eq_of_lt b]
   rw[vH b] at c;have:=o _ x c
   rwa [Nat.mod_eq_sub_mod b]
 have m:=key n j x c;simp at i;obtain⟨p,d,rfl⟩:=i
 obtain⟨f,rfl⟩:j<n*a.size/\j=p:=by
  rcases tH j (n*a.size) with b | b
  .rw[List.getElem?_range b] at d;simp at d;exact⟨b,d⟩
  rw[tF<|by simpa using b] at d;cases d
 have l:0<a.size:=by
  rcases Nat.eq_zero_or_pos a.size with e | e
  .rw[e] at f;simp at f
  exact e
 have k:j % a.size<a.size:=Nat.mod_lt _ l;have:a.toList[j % a.size]?=some a[j % a.size]!:=by simp[k]
 exact h.2 _ x _ (by rw[<-g];exact m) this
theorem K7 {P:Program} {a:Nat->Prop} {cs:List AV} {us:List Value} {t:TypeId} {φ':cO} (g:Goes (Bd F φ st) w a (bN w<|.cells us.toArray t)) (f:∀b x,φ b=some x->φ' b=some x)
  (h:LRel (Bd F φ st) w φ cs us):ORel P a (bN w<|.cells us.toArray t) φ' w.1.size 0 (.own cs):=by
 refine⟨us.toArray,t,BB w _,λj c d=>?_⟩;have e:j<us.length:=by have:=iZ d;have:=h.1;omega
 exact⟨us[j],by simp[e],(h.2 j c _ d<|tD e).mono g f⟩
theorem wrap_i64 {n:Int} (a:0<=n) (b:n<9223372036854775808):IntKind.i64.wrap n=n:=by simp[IntKind.wrap,IntKind.signed,IntKind.bits];split<;>omega
def wV (E:Env) (F:Nat->Prop) (φ:cO) (st:St) (w:World) (s:Sem Next) (ab:AB) (mk:Nat->AV):Prop:=
 jK ab=true/\∃obj u,s.run E.P w=.ok (.value u) (bN w obj)/\
  ∀(b:Nat) (φ':cO) (B':Nat->Prop),(∀b x,φ b=some x->φ' b=some x)->φ' b=some (w.1.size,0)->Goes (Bd F φ st) w B' (bN w obj)->
   ORel E.P B' (bN w obj) φ' w.1.size 0 ab/\VRel B' (bN w obj) φ' (mk b) u
theorem K8 {cs:List AV} {mk:Nat->AV} {ab:AB} {a:Nat->AV} (h:uF cs mk=some (ab,a)):cs.all ea=true/\ab=.own cs/\a=mk:=by
 unfold uF at h;split at h
 .rename_i hc;simp at h;exact⟨hc,h.1.symm,h.2.symm⟩
 cases h
theorem K9 {s:Sem Next} {cs:List AV} {us:List Value} {t:TypeId} (d:LRel (Bd F φ st) w φ cs us)
  (f:s.run E.P w=.ok (.value<|.pointer<|some ⟨w.1.size,0,none⟩) (bN w<|.cells us.toArray t)):wV E F φ st w s (.own cs) uE:=
 ⟨rfl,_,_,f,λb φ' a e c g=>⟨K7 g e d,by have:=VRel.ptr (B:=a) (w:=bN w<|.cells us.toArray t) (off:=0) c;simpa [uE] using this⟩⟩
theorem La {s:Sem Next} {cs:List AV} {us:List Value} {t:TypeId} {len a:Nat} (f:LRel (Bd F φ st) w φ cs us) (h:len<=a)
  (j:s.run E.P w=.ok (.value<|.slice (some ⟨w.1.size,0,none⟩) len a) (bN w<|.cells us.toArray t)):wV E F φ st w s (.own cs) (Cy len a):=
 ⟨rfl,_,_,j,λb φ' k i d g=>⟨K7 g i f,.sl d (.inr rfl) h (λc e=>by cases e;rfl) λl e=>by cases e⟩⟩
theorem Lb (y:Sess E F φ st w) {fr:Fr} {tmps:Array Value} (A:LRel (Bd F φ st) w φ fr.tm tmps.toList) {o:Oper} {ab:AB} {mk:Nat->AV} (h:eH o.op E fr=some (ab,mk)):
  wV E F φ st w (execOp (bR tmps) o) ab mk:=by
 obtain⟨aa,W,ty,ae,Y,ad⟩:=o;simp only at h
 cases W<;>simp only[eH,wI] at h<;>first | (cases h;done) | skip
 case alloc t=>
  unfold wH at h;split at h
  .rename_i z hz;obtain⟨_,rfl,rfl⟩:=K8 h;obtain⟨a,m,f⟩:=EZ (w:=w) hz;refine K9 (us:=a.cells.toList) (t:=t) ((zw f).cells<|DQ f) ?_;simp[execOp,Instr.alloc,m,newVar,newRow,bN]
  cases h
 case box t x=>
  unfold Cz at h;split at h
  .rename_i v hv;obtain⟨U,rfl,rfl⟩:=K8 h;refine K9 (us:=(bR tmps x).cells.toList) (t:=t) ((fC y A hv).cells<|Ga U) ?_;simp[execOp,Instr.box,newVar,newRow,bN]
  cases h
 case buildSlice t len K=>
  unfold CB at h;split at h
  .rename_i ps hps;split at h
   .rename_i cs hcs;simp at h;obtain⟨rfl,rfl⟩:=h;unfold jv at hcs;split at hcs
    .rename_i e hu;split at hcs
     .rename_i s z p hz;split at hcs
      .rename_i hcond;simp only[tJ,vI] at hcond;obtain⟨a,m,f⟩:=EZ (w:=w) hz;have q:LRel (Bd F φ st) w φ (cellsOf z) a.cells.toList:=((zw f).cells<|DQ f);have k:a.cells.size=s:=(by have:=q.1;simp at this;omega);obtain⟨C,u,R⟩:=Gi hcs (IG y A hps)<|K6 q len;refine La (us:=C.toList) (t:=e) R (tE _) ?_;have H:¬(len*s > 2^24):=(by omega);by_cases g:len*s=0
       .have h5:(Array.range<|len*a.cells.size).map (a.cells[·% a.cells.size]!)=#[]:=(by rw[k,g];simp);rw[h5] at u;simp[execOp,Instr.buildSlice,e4 hu,km p,g,newRow,bN];have n:(Array.range 0).map (λ_=>(default:Value))=#[]:=(by simp);have B:Instr.fill (λi=>some (i*s,s)) #[] (K.toList.map λx=>(x.fst,bR tmps x.snd))=some C:=u;rw[n,B];simp
       rw[k] at u;simp[execOp,Instr.buildSlice,e4 hu,km p,H,g,m,newRow,bN];rw[k];have B:Instr.fill (λi=>some (i*s,s)) ((Array.range<|len*s).map (a.cells[·% s]!)) (K.toList.map λx=>(x.fst,bR tmps x.snd))=some C:=u;rw[B];simp
      cases hcs
     cases hcs
    cases hcs
   cases h
  cases h
 case makeSlice t l c=>
  unfold CC at h;split at h
  .rename_i l' c' hl hc;split at h
   .rename_i cs ln cp hm;simp at h;obtain⟨rfl,rfl⟩:=h;unfold lk at hm;split at hm
    .rename_i e k1 l0 k2 d hu;split at hm
     .rename_i i z hi hz;split at hm
      .rename_i hcond;simp only[tJ,vI] at hcond;obtain⟨⟨⟨Q,Z⟩,c3⟩,c4⟩:=hcond;simp at hm;obtain⟨rfl,rfl,rfl⟩:=hm;have L:=fC y A hl;have vc:=fC y A hc;generalize J:bR tmps l=ul at L;generalize I:bR tmps c=uc at vc;cases L;cases vc;obtain⟨a,m,f⟩:=EZ (w:=w) hz;have q:LRel (Bd F φ st) w φ (cellsOf z) a.cells.toList:=((zw f).cells<|DQ f);have k:a.cells.size=i.size:=(by have:=q.1;simp at this;omega);have V:=K6 q d;refine La (us:=((Array.range<|d*a.cells.size).map (a.cells[·% a.cells.size]!)).toList) (t:=e) V Q ?_;have M:IntKind.i64.wrap (l0:Int)=l0:=wrap_i64 (by omega) (by omega);have N:IntKind.i64.wrap (d:Int)=d:=wrap_i64 (by omega) (by omega);have O:(i.bytes:Int)*(d:Int)=((d*i.bytes:Nat):Int):=(by rw[Nat.mul_comm];simp);have P:¬(281474976710656<(i.bytes:Int)*(d:Int)):=(by rw[O];omega);have p:eG E.P e=some i.size:=(by simp[eG,hi]);have D:¬((l0:Int) > (d:Int)):=by omega
       have G:¬(((d:Int)<0\/281474976710656<(i.bytes:Int)*(d:Int))\/(l0:Int)<0):=by
        rintro((h | h) | h)
        .omega
        .exact P h
        omega
       by_cases g:d*i.size=0
       .rw[k,g];simp[execOp,Instr.makeSlice,e4 hu,J,I,asInt,asIntOf,DS hi,M,N,D,km p,g,newRow,bN];rw[if_neg G];have n:(Array.range 0).map (λ_=>(default:Value))=#[]:=(by simp);simp[n]
       simp[execOp,Instr.makeSlice,e4 hu,J,I,asInt,asIntOf,DS hi,M,N,D,km p,g,m,newRow,bN,k];rw[if_neg G];have n:(Array.range<|d*i.size).map (a.cells[·% i.size]!)=((List.range<|d*i.size).map (a.cells[·% i.size]!)).toArray:=(by apply vw;simp);simp[n]
      cases hm
     cases hm
    cases hm
   cases h
  cases h
 case makeMap t r=>
  unfold Bp at h;split at h
  .simp at h;obtain⟨rfl,rfl⟩:=h;refine⟨rfl,.map #[] 0,.map<|some w.1.size,by simp[execOp,Instr.makeMap,bN],λb φ' X H S ac=>⟨⟨#[],BB w _,rfl,λj e c T=>by simp at T⟩,.map S⟩⟩
  cases h
end
end Go.Proofs.YthcfmhgihcjloaaGreatDoor.Gx
namespace Go.Proofs.YthcfmhgihcjloaaGreatDoor.Gx
open Go
section
variable {E:Env} {F:Nat->Prop} {φ:cO} {st:St} {w:World}
theorem Lc {P:Program} (a:Addr):(loadCells a 0).run P w=.ok #[] w:=rfl
theorem Gm (Q:Sess E F φ st w) {s n:Nat} {y:AV} {L:List AV} {C:Value} (h:gR st s y=some (n,L)) (t:VRel (Bd F φ st) w φ y C):
  ∃us:List Value,(Builtin.lenOf C).run E.P w=.ok n w/\LRel (Bd F φ st) w φ L us/\us.length=n*s/\∀m,m<=n->(Builtin.firstCells s m C).run E.P w=.ok (us.take<|m*s).toArray w:=by
 have O:∀(us:List Value) (cb o m:Nat),Row w cb o us->m<=n->us.length=n*s->(loadCells ⟨cb,o,none⟩<|m*s).run E.P w=.ok (us.take<|m*s).toArray w:=by
  intro us cb o m i d A;have:=KK (P:=E.P)<|i.take<|m*s;have g:(us.take<|m*s).length=m*s:=by rw[List.length_take,A];exact Nat.min_eq_left<|vm s d
  rwa [g] at this
 unfold gR at h;split at h
 .simp at h;obtain⟨rfl,rfl⟩:=h;cases t;exact⟨[],rfl,.nil,by simp,λm d=>by simp[Builtin.firstCells]⟩
 .rename_i len cs cap;simp only[tC,tG] at h;obtain⟨r,i,S,rfl⟩:=h;subst n;obtain⟨f,k⟩:=DP _ _ _ i
  cases t with
  | isl vs q A z hc p=>
   rename_i a ccap;obtain⟨us,f1,D,G⟩:=DT (B:=Bd F φ st) (w:=w) (φ:=cP) cs (λj v=>w.cell? ⟨a.block,a.off+j,none⟩=some v) λj c K=>⟨vs j,hc j c K,p j c K⟩;have g:(us.take<|len*s).length=len*s:=(by rw[<-(G.take<|len*s).1,<-f,k]);refine⟨us.take<|len*s,rfl,by rw[f];exact(G.weak φ).take _,g,λm d=>?_⟩;by_cases H:m*s=0
   .simp[Builtin.firstCells,H,Lc]
   have T:cs≠[]:=λe=>(by subst e;simp at f;subst f;simp at k;have:m*s<=len*s:=vm s d;omega);obtain⟨R,J⟩:=z T;obtain⟨ab,u,X⟩:=a;simp only at R J D;subst J;have U:Row w ab u (us.take<|len*s):=(show Row w ab u us from D).take _;simp only[Builtin.firstCells];exact O _ ab u m U d g
 .rename_i b off len cap;split at h
  .rename_i cs hcs;simp only[tC,tG] at h;obtain⟨r,i,S,rfl⟩:=h;subst n;obtain⟨f,k⟩:=DP _ _ _ i
   cases t with
   | sl hp ho A q hg=>
    rename_i cb co o ccap;obtain⟨Z,o',us,M,N,W⟩:=IF Q hcs<|.ptr (off:=off) hp;simp at M;obtain⟨rfl,rfl⟩:=M;have g:(us.take<|len*s).length=len*s:=(by rw[<-(N.take<|len*s).1,<-f,k]);refine⟨us.take<|len*s,rfl,by rw[f];exact N.take _,g,λm d=>?_⟩
    rcases ho with H | rfl
    .obtain rfl:m=0:=(by omega);simp[Builtin.firstCells,Lc]
    simp only[Builtin.firstCells];exact O _ cb (co+off) m (W.take _) d g
  cases h
 .rename_i l;split at h
  .rename_i hs;subst hs;simp at h;obtain⟨rfl,rfl⟩:=h;cases t;have V:(⟨l.toArray⟩:ByteArray).size=l.length:=(by simp[ByteArray.size]);refine⟨l.map λb=>.int .u8 b.toNat,by simp[Builtin.lenOf,V],⟨by simp,λj x v q p=>?_⟩,by simp,λm d=>?_⟩
   .simp at q p;obtain⟨b,z,rfl⟩:=q;obtain⟨Y,I,rfl⟩:=p;rw[z] at I;cases I;exact .int _ _
   have:((⟨l.toArray⟩:ByteArray).extract 0 m).data=(l.take m).toArray:=(by apply vw;simp[ByteArray.data_extract]);simp[Builtin.firstCells,List.map_take]
  cases h
 cases h
theorem OW (need a:Nat) (h:a<need):Builtin.nextslicecap need a<=2*need+1024:=by
 unfold Builtin.nextslicecap;split
 .omega
 split
 .omega
 have od:∀(r c:Nat),c<=need->Builtin.growBy need r c<=2*need+1024:=by
  intro r
  induction r with
  | zero=>intro c b;simp[Builtin.growBy];omega
  | succ r e=>
   intro c b;simp only[Builtin.growBy];split
   .omega
   by_cases d:c+(c+768) / 4<=need
   .exact e _ d
   have:∀(r c:Nat),need<=c->Builtin.growBy need r c=c:=by
    intro r c b
    cases r with
    | zero=>rfl
    | succ r=>simp only[Builtin.growBy];rw[if_pos b]
   rw[this _ _<|by omega];omega
 exact od 4 a<|by omega
theorem wW {P:Program} {argTypes:Array TypeId} {ty r s e:TypeId} {c:TypeDesc} {i:TypeInfo} {z:AV} {h:Option Addr} {a b n:Nat} {g:Value} {old m:List Value}
  (t:argTypes[0]?=some r) (u:argTypes[1]?=some s) (K:P.underlying r=some (.slice e)) (M:P.underlying s=some c) (l:∀k,c≠.int k)
  (d:P.info? e=some i) (N:gQ P e=some z) (G:(Builtin.lenOf g).run P w=.ok n w) (B:¬(a+n<=b)) (j:(2*(a+n)+1024)*(i.bytes+1)<=70368744177664)
  (I:(Builtin.firstCells i.size a<|.slice h a b).run P { w with drawn:=w.drawn+1 }=.ok old.toArray { w with drawn:=w.drawn+1 })
  (H:(Builtin.firstCells i.size n g).run P { w with drawn:=w.drawn+1 }=.ok m.toArray { w with drawn:=w.drawn+1 }):
  ∃(f:Nat) (rest:Array Value),a+n<=f/\rest.size=(f - (a+n))*((i.zero.map (·.cells.size)).getD 0)/\
   (Builtin.append_ argTypes ty #[.slice h a b,g]).run P w=
     .ok (.slice (some ⟨w.1.size,0,none⟩) (a+n) f) (bN { w with drawn:=w.drawn+1 }<|.cells (old++m++rest.toList).toArray e):=by
 obtain⟨T,v,o,p,U⟩:=IE N;rw[d] at o;cases o;have L:eG P e=some i.size:=by simp[eG,d]
 have O:∀w,(zeroValue e).run P w=.ok v w:=λw=>by simp[zeroValue,DS d,p]
 have x:(2*(a+n)+1024)*i.bytes<=70368744177664:=vD (Nat.mul_le_mul_left _<|Nat.le_succ _) j;have Q:2*(a+n)+1024<=70368744177664:=vD (Nat.le_mul_of_pos_right _<|Nat.succ_pos _) j;have S:Builtin.nextslicecap (a+n) b*i.bytes<=70368744177664:=vD (vm _<|OW _ _<|by omega) x
 have R:(match c with | .int _=>true | _=>false)=false:=by
  cases c<;>first | rfl | exact absurd rfl (l _)
 refine⟨a+n+w.tape w.drawn (.appendCap (a+n) b e) % (2^63 - (a+n)),Builtin.zeroCells v.cells<|w.tape w.drawn (.appendCap (a+n) b e) % (2^63 - (a+n)),Nat.le_add_right _ _,?_,?_⟩
 .simp[Builtin.zeroCells,p]
 have y:¬(((a+n:Nat):Int) > IntKind.i64.max):=by simp[IntKind.max,IntKind.signed,IntKind.bits];omega
 have A:¬(Builtin.nextslicecap (a+n) b*i.bytes > 2^48):=by omega
 have D:(Question.appendCap (a+n) b e).forced=false:=rfl;have C:∀q:Question,q.forced=false->(choose q).run P w=.ok (q.cut<|w.tape w.drawn q) { w with drawn:=w.drawn+1 }:=by intro q J;simp[choose,Sem.run,J]
 simp only[Builtin.append_,t,u]
 cases c with
 | int k=>exact absurd rfl (l k)
 | _=>
  simp only[vR,vO,tY,Sem.run_bind,e4 K,e4 M,Result.andThen_ok,km L,Sem.run_pure,if_false,tM,
   G,B,Sem.run_ite,y,false_and,DS d,A,C _ D,Question.cut,run_askRoom,I,H,O,newRow,run_newObj,Bool.not_false,if_true]
  simp[bN];congr 2;apply vw;simp
theorem Ld {P:Program} {argTypes:Array TypeId} {ty h i e:TypeId} {c:TypeDesc} {size:Nat} {a:Addr} {b d n:Nat} {f:Value} {g:List Value} {w':World}
  (j:argTypes[0]?=some h) (l:argTypes[1]?=some i) (r:P.underlying h=some (.slice e)) (u:P.underlying i=some c) (q:∀k,c≠.int k)
  (t:eG P e=some size) (o:(Builtin.lenOf f).run P w=.ok n w) (m:b+n<=d)
  (p:(Builtin.firstCells size n f).run P w=.ok g.toArray w) (s:(storeCells (a.add<|b*size) g).run P w=.ok () w'):
  (Builtin.append_ argTypes ty #[.slice (some a) b d,f]).run P w=.ok (.slice (some a) (b+n) d) w':=by
 simp only[Builtin.append_,j,l]
 cases c with
 | int k=>exact absurd rfl (q k)
 | _=>
  simp only[vR,vO,tY,Sem.run_bind,e4 r,e4 u,Result.andThen_ok,km t,Sem.run_pure,if_false,tM,
   o,m,Sem.run_ite,Bool.not_false,if_true,p,s]
def mb (E:Env) (F:Nat->Prop) (φ:cO) (st:St) (w:World) (s:Sem Value) (v:AV) (st':St):Prop:=
 ∃u φ' w',s.run E.P w=.ok u w'/\Sess E F φ' st' w'/\Ext φ st w φ' st' w'/\VRel (Bd F φ' st') w' φ' v u
theorem OX (a:Sess E F φ st w):Sess E F φ st { w with drawn:=w.drawn+1 }/\Ext φ st w φ st { w with drawn:=w.drawn+1 }:=
 a.same_heap rfl ⟨rfl,rfl,rfl⟩
theorem wX (i:Sess E F φ st w) {s need a:Nat} {cs:List AV} {us:List Value} {rest:Array Value} {e:TypeId} (d:LRel (Bd F φ st) w φ cs us) (v:cs.length=need*s) (o:need<=a)
  (p:rest.size=(a - need)*s):
  ∃φ',Sess E F φ' (st++[.own cs]) (bN w<|.cells (us++rest.toList).toArray e)/\Ext φ st w φ' (st++[.own cs]) (bN w<|.cells (us++rest.toList).toArray e)/\
   VRel (Bd F φ'<|st++[.own cs]) (bN w<|.cells (us++rest.toList).toArray e) φ' (.sl st.length 0 need<|.gr s) (.slice (some ⟨w.1.size,0,none⟩) need a):=by
 obtain⟨n,h⟩:=i.ghost<|.own cs;have k:=i.fresh<|tE st.length
 obtain⟨q,r⟩:=n.realize (b:=st.length) (ab:=.own cs) (by simp) rfl k (.cells (us++rest.toList).toArray e) (λt g=>by
  refine⟨_,e,BB w _,λj c l=>?_⟩;have f:j<us.length:=by have:=iZ l;have:=d.1;omega
  refine⟨us[j],by simp[tI f,f],?_⟩;have:=(d.2 j c _ l<|tD f)
  exact(h.val this).mono g (BC k))
 refine⟨_,q,ID h r rfl,?_⟩;refine .sl (cb:=w.1.size) (co:=0) (by simp[bJ]) (.inr rfl) o (λc e=>by cases e) λx m=>?_;cases m;right;refine⟨_,e,(0,0),BB w _,?_⟩;have u:=d.1;have:(a - need)*s+need*s=a*s:=by rw[<-vF];congr 1;omega
 simp[p];omega
theorem Sess.move (k:Sess E F φ st w) {b cb co off:Nat} {cs:List AV} (n:st[b]?=some (.own cs)) (r:φ b=some (cb,co)):
  Sess E F (bJ φ st.length cb<|co+off) (st.set b .dead++[.own<|cs.drop off]) w/\Ext φ st w (bJ φ st.length cb<|co+off) (st.set b .dead++[.own<|cs.drop off]) w:=by
 have J:=k.fresh<|tE st.length;have A:=BC (cb:=cb) (co:=co+off) J;have I:=iZ n
 have u:∀(x:Nat) f,(st.set b .dead++[.own<|cs.drop off])[x]?=some f->(x=st.length/\f=.own (cs.drop off))\/(x=b/\f=.dead)\/(x≠b/\x<st.length/\st[x]?=some f):=by
  intro x f q
  rcases EY q with⟨d,a⟩ | ⟨rfl,rfl⟩
  .simp at d;rw[tQ] at a;by_cases e:b=x
   .subst e;simp[I] at a;exact .inr<|.inl ⟨rfl,a.symm⟩
   simp[e] at a;exact .inr<|.inr ⟨λy=>e y.symm,d,a⟩
  exact .inl ⟨by simp,rfl⟩
 have p:∀x,x<st.length->bJ φ st.length cb (co+off) x=φ x:=λx q=>by simp[bJ,vW q]
 have s:bJ φ st.length cb (co+off) st.length=some (cb,co+off):=by simp[bJ]
 have B:∀c,iW (bJ φ st.length cb<|co+off) (st.set b .dead++[.own<|cs.drop off]) c↔iW φ st c:=by
  intro c;constructor
  .rintro⟨x,f,l,d,a,i⟩
   rcases u x f d with⟨rfl,rfl⟩ | ⟨rfl,rfl⟩ | ⟨hne,m,d⟩
   .rw[s] at i;cases i;exact⟨b,_,co,n,rfl,r⟩
   .cases a
   rw[p x m] at i;exact⟨x,f,l,d,a,i⟩
  rintro⟨x,f,l,d,a,i⟩;by_cases e:x=b
  .subst e;rw[r] at i;cases i;exact⟨st.length,.own<|cs.drop off,co+off,by simp,rfl,s⟩
  have m:=iZ d;exact⟨x,f,l,by rw[tI<|by simpa using m,vk λy=>e y.symm];exact d,a,by rw[p x m];exact i⟩
 have z:Bd F (bJ φ st.length cb<|co+off) (st.set b .dead++[.own<|cs.drop off])=Bd F φ st:=funext λc=>by simp only[Bd,B]
 have D:Ext φ st w (bJ φ st.length cb<|co+off) (st.set b .dead++[.own<|cs.drop off]) w:=
  ⟨⟨A,tE _,λ_ _ _=>rfl,λc _ o=>(B c).1 o,λ_ c _ _ h=>⟨c,h,rfl⟩,by simp,rfl,rfl,rfl⟩,λb n=>p b n⟩
 have g:Goes (Bd F φ st) w (Bd F φ st) w:=by have:=D.goes (F:=F);rwa [z] at this
 refine⟨⟨?_,?_,?_,?_,?_⟩,D⟩
 .intro x f c l d a;rw[z]
  rcases u x f d with⟨rfl,rfl⟩ | ⟨rfl,rfl⟩ | ⟨hne,m,d⟩
  .rw[s] at a;cases a;obtain⟨cells,t,N,O⟩:=k.blk b _ cb co n r;refine⟨cells,t,N,λj c L=>?_⟩;obtain⟨v,P,Q⟩:=O (off+j) c (by simpa using L);exact⟨v,by rw[tP];exact P,Q.mono g A⟩
  .trivial
  rw[p x m] at a;exact(k.blk x f c l d a).other g A rfl (λ_=>(k.lt x c l a).1)
 .intro x x' f ax' c c1 c2 d a i h4 h5 h6
  rcases u x f d with⟨rfl,rfl⟩ | ⟨rfl,rfl⟩ | ⟨hne,m,d⟩
  .rw[s] at h5;cases h5
   rcases u x' ax' i with⟨rfl,rfl⟩ | ⟨rfl,rfl⟩ | ⟨hne',hlt',i⟩
   .rfl
   .cases h4
   rw[p x' hlt'] at h6;exact absurd (k.inj x' b ax' _ cb c2 co i h4 n rfl h6 r) hne'
  .cases a
  rw[p x m] at h5
  rcases u x' ax' i with⟨rfl,rfl⟩ | ⟨rfl,rfl⟩ | ⟨hne',hlt',i⟩
  .rw[s] at h6;cases h6;exact absurd (k.inj x b f _ cb c1 co d a n rfl h5 r) hne
  .cases h4
  rw[p x' hlt'] at h6;exact k.inj x x' f ax' c c1 c2 d a i h4 h5 h6
 .intro x c l q;by_cases e:x=st.length
  .subst e;rw[s] at q;cases q;exact⟨(k.lt b cb co r).1,by simp⟩
  have M:φ x=some (c,l):=(by simpa [bJ,e] using q);have:=k.lt x c l M;exact⟨this.1,by simp;omega⟩
 .rw[z];intro H G K;exact(k.glob H G K).mono g (λ_ _ h=>h)
 intro c C;exact⟨(k.fout c C).1,λo=>(k.fout c C).2<|(B c).1 o⟩
theorem OY (p:Sess E F φ st w) {b cb co k:Nat} {cs f:List AV} {us:List Value} {cells:Array Value} {t:TypeId} (i:st[b]?=some (.own cs)) (m:φ b=some (cb,co))
  (a:w.1[cb]?=some (.cells cells t (0,0))) (I:k<=cs.length) (A:co+k+us.length<=cells.size) (l:LRel (Bd F φ st) w φ f us) (z:f.all ea=true):
  ∃w',(storeCells ⟨cb,co+k,none⟩ us).run E.P w=.ok () w'/\Sess E F φ (st.set b<|.own<|cs.take k++f) w'/\Ext φ st w φ (st.set b<|.own<|cs.take k++f) w':=by
 obtain⟨G,s,n,y⟩:=p.blk b _ cb co i m;rw[a] at n;cases n;have r:=IN (P:=E.P) us 0 w cells (o:=co+k) a (by omega)<|l.oneV z;simp only[vL] at r;refine⟨_,r,?_⟩;have B:iW φ st cb:=⟨b,_,co,i,rfl,m⟩;refine p.change i rfl rfl m (λc s x q=>?_) ?_
 .rw[a] at q;cases q;exact⟨_,rfl,E4 _ _ _⟩
 have g:Goes (Bd F φ st) w (Bd F φ st) (bZ w cb<|.cells (dG cells (co+k) us) t (0,0)):=
  DX (.inr B) a (λc s x a=>by cases a;exact⟨_,rfl,E4 _ _ _⟩)
 refine⟨_,t,zx a,λj c d=>?_⟩;rw[IM us cells (co+k) (co+j) A]
 rcases tH j k with e | H
 .rw[if_neg<|by omega];rw[tI<|by simp;omega,vG,if_pos e] at d;obtain⟨v,C,D⟩:=y j c d;exact⟨v,C,D.mono g λ_ _ h=>h⟩
 rw[vH<|by simp;omega] at d;have u:(cs.take k).length=k:=(by simp;omega);rw[u] at d;have J:=iZ d;have K:=l.1;rw[if_pos<|by omega,show co+j - (co+k)=j - k by omega];have e:j - k<us.length:=(by omega);exact⟨us[j - k],tD e,(l.2 (j - k) c _ d<|tD e).mono g λ_ _ h=>h⟩
end
end Go.Proofs.YthcfmhgihcjloaaGreatDoor.Gx
namespace Go.Proofs.YthcfmhgihcjloaaGreatDoor.Gx
open Go
section
variable {E:Env} {F:Nat->Prop} {φ:cO} {st:St} {w:World}
theorem BE (A:Sess E F φ st w) {argTypes:Array TypeId} {ty r t e:TypeId} {h:TypeDesc} {i:TypeInfo} {z:AV} {g:Option Addr} {a d n:Nat} {f:Value} {old c:List AV} {o m:List Value}
  (x:argTypes[0]?=some r) (y:argTypes[1]?=some t) (Q:E.P.underlying r=some (.slice e)) (T:E.P.underlying t=some h) (I:∀k,h≠.int k)
  (j:E.P.info? e=some i) (l:gQ E.P e=some z) (aa:(cellsOf z).length=i.size) (G:∀w,(Builtin.lenOf f).run E.P w=.ok n w) (D:¬(a+n<=d))
  (C:(2*(a+n)+1024)*(i.bytes+1)<=70368744177664) {b:World} (S:w={ b with drawn:=b.drawn+1 })
  (N:(Builtin.firstCells i.size a<|.slice g a d).run E.P w=.ok o.toArray w)
  (H:(Builtin.firstCells i.size n f).run E.P w=.ok m.toArray w) (L:LRel (Bd F φ st) w φ old o) (K:LRel (Bd F φ st) w φ c m)
  (M:old.length=a*i.size) (J:c.length=n*i.size):
  ∃u φ' w',(Builtin.append_ argTypes ty #[.slice g a d,f]).run E.P b=.ok u w'/\Sess E F φ' (st++[.own<|old++c]) w'/\Ext φ st w φ' (st++[.own<|old++c]) w'/\
   VRel (Bd F φ'<|st++[.own<|old++c]) w' φ' (.sl st.length 0 (a+n)<|.gr i.size) u:=by
 subst S;obtain⟨U,rest,W,X,Y⟩:=wW (P:=E.P) (w:=b) (ty:=ty) x y Q T I j l (G b) D C N H;obtain⟨i',v,p,V,q⟩:=IE l;rw[j] at p;cases p;have R:v.cells.size=i.size:=by have:=((zw (B:=λ_=>False) (w:=b) (φ:=cP) q).cells<|DQ q).1;simp at this;omega
 have O:rest.size=(U - (a+n))*i.size:=by rw[X,V];simp[R]
 obtain⟨φ',Z,s2,s3⟩:=wX (e:=e) A (L.append K) (need:=a+n) (s:=i.size) (by simp[M,J,vF]) W O;exact⟨_,φ',_,Y,Z,s2,s3⟩
theorem OZ (p:Sess E F φ st w) {argTypes:Array TypeId} {ty sT:TypeId} {x y v:AV} {N O:Value} {M:St} (h:oN E.P st sT argTypes[1]? x y=some (v,M))
  (C:argTypes[0]?=some sT) (q:VRel (Bd F φ st) w φ x N) (hy:VRel (Bd F φ st) w φ y O):
  mb E F φ st w (Builtin.append_ argTypes ty #[N,O]) v M:=by
 unfold oN at h;split at h
 .cases h
 .rename_i e dx hni hu g;simp only[tL] at g;obtain⟨xT,D,g⟩:=g;have H:∀k,dx≠.int k:=λk e=>hni k e;split at h
  .cases h
  rename_i i X;have al:eG E.P e=some i.size:=(by simp[eG,X]);split at h
  .rename_i n new l old hsy hsx;obtain⟨nu,P,Q,R,y4⟩:=Gm p hsy hy;obtain⟨ou,x1,x2,x3,x4⟩:=Gm p hsx q;have ae:=y4 n<|tE _;have a4:=x4 l<|tE _;rw[show n*i.size=nu.length from R.symm,vA] at ae;rw[show l*i.size=ou.length from x3.symm,vA] at a4;have Z:new.length=n*i.size:=(by rw[Q.1,R]);have ab:old.length=l*i.size:=(by rw[x2.1,x3]);split at h
   .cases h
   .rename_i m hcond;simp only[tJ,Nat.ble_eq] at hcond;obtain⟨V,I⟩:=hcond;unfold KF at I;split at I
    .rename_i z hz1;have am:(cellsOf z).length=i.size:=vj I;obtain⟨B,j⟩:=OX p;have a8:=j.list x2;have a7:=j.list Q
     have ak:∀w,(Builtin.lenOf O).run E.P w=.ok (m+1) w:=by
      intro w'
      cases hy<;>simp[gR] at hsy<;>simp[Builtin.lenOf] at P ⊢<;>first | exact P | skip
     obtain⟨a2,ap,ai,aj,aq⟩:=Gm B hsy<|j.val hy;obtain⟨a3,an,ag,ah,ao⟩:=Gm B hsx<|j.val q;clear ap an;have T:=aq (m+1)<|tE _;have S:=ao l<|tE _;rw[show (m+1)*i.size=a2.length from aj.symm,vA] at T;rw[show l*i.size=a3.length from ah.symm,vA] at S
     have U:∀af ad,N=.slice af l ad->¬(l+(m+1)<=ad)->(v,M)=od st i.size (l+(m+1)) (old++new)->
       mb E F φ st w (Builtin.append_ argTypes ty #[N,O]) v M:=by
      intro af ad f G he;subst f;simp only[od,tG] at he;obtain⟨rfl,rfl⟩:=he;obtain⟨u,φ',w',r1,r2,r3,K⟩:=BE B (ty:=ty) C D hu g H X hz1 am ak G V rfl S T ag ai ab Z;exact⟨u,φ',w',r1,r2,j.trans r3,K⟩
     unfold uD at h;split at h
     .
      simp only[tN] at h;cases q;simp[gR] at hsx;obtain⟨rfl,rfl⟩:=hsx;exact U none 0 rfl (by omega) (by rw[<-h];simp)
     .rename_i b off len c
      cases q with
      | sl hp ho hl hxx hg=>
       rename_i cb co o ccap;have G:ccap=c:=hxx c rfl;subst G
       have s:len=l:=by
        simp only[gR] at hsx;split at hsx
        .simp only[tC,tG] at hsx;obtain⟨_,_,e,_⟩:=hsx;exact e
        cases hsx
       subst s;split at h
       .rename_i d;have d:len+(m+1)<=ccap:=Nat.ble_eq ▸ d;rw[get?_eq] at h;split at h
        .rename_i cs f;split at h
         .rename_i cs' W hw;simp only[tN,tG] at h;obtain⟨rfl,rfl⟩:=h;have aa:o=co+off:=ho.resolve_left (by omega);subst aa;obtain⟨w',s1,s2,L⟩:=K3 p f hp hw Q W;refine⟨_,φ,w',Ld C D hu g H al P d ae<|by rw[uZ,tP];exact s1,by rw[ip];exact s2,by rw[ip];exact L,?_⟩;rw[ip];exact .sl hp (.inr rfl) d (λc e=>by cases e;rfl) λsz e=>by cases e
         cases h
        cases h
       rename_i d;have d:¬(len+(m+1)<=ccap):=(by intro Y;rw[vS Y] at d;cases d);simp only[tN] at h;exact U _ _ rfl d h.symm
     .rename_i b off len z';rw[get?_eq] at h;split at h
      .rename_i cs f;split at h
       .rename_i hcond;simp only[tJ,Nat.ble_eq] at hcond;obtain⟨⟨ac,W⟩,aw⟩:=hcond;have ac:z'=i.size:=vj ac;subst ac;simp only[tN] at h;have h:=h.symm
        cases q with
        | sl hp ho hl hxx hg=>
         rename_i cb co o ccap
         have s:len=l:=by
          simp only[gR] at hsx;split at hsx
          .simp only[tC,tG] at hsx;obtain⟨_,_,e,_⟩:=hsx;exact e
          cases hsx
         subst s;have ay:old=(cs.drop off).take (len*i.size):=(by simp only[gR,dN,get?_eq,f] at hsx;simp only[tC,tG] at hsx;obtain⟨r,q1,_,rfl⟩:=hsx;have:=(DP _ _ _ q1).1;rw[BA] at this;exact this);by_cases d:len+(m+1)<=ccap
         .
          have aa:o=co+off:=ho.resolve_left (by omega);subst aa
          rcases hg _ rfl with a9 | ⟨cells,t,fz,g1,g2⟩
          .omega
          obtain⟨a6,t',A,_⟩:=p.blk b _ cb co f hp;rw[A] at g1;cases g1;have az:co+(off+len*i.size)+nu.length<=cells.size:=(by have a5:nu.length=(m+1)*i.size:=R;have ax:(len+(m+1))*i.size<=ccap*i.size:=vm _ d;rw[vF,<-a5] at ax;clear R aj ah x3 Z ab V;omega);obtain⟨w',s1,s2,L⟩:=OY p f hp A aw az Q W;have ar:(st.set b<|.own<|cs.take (off+len*i.size)++new)[b]?=some (.own<|cs.take (off+len*i.size)++new):=(by simp[iZ f]);obtain⟨m1,J⟩:=s2.move (off:=off) ar hp;have av:(cs.take (off+len*i.size)++new).drop off=old++new:=(by rw[List.drop_append_of_le_length<|by simp;omega,ay,List.drop_take];congr 2;omega);rw[av] at m1 J;simp only[List.set_set,tZ] at m1 J;simp only[od,tG,ip,tZ] at h;obtain⟨rfl,rfl⟩:=h;refine⟨_,_,w',Ld C D hu g H al P d ae<|by rw[uZ,tP];exact s1,m1,L.trans J,?_⟩;refine .sl (cb:=cb) (co:=co+off) (by simp[bJ]) (.inr rfl) d (λc e=>by cases e) λsz e=>?_;cases e;right;obtain⟨c2,z1,z2⟩:=(L.trans J).shape cb cells t (0,0) A;exact⟨c2,t,(0,0),z1,by omega⟩
         
         obtain⟨A,k2⟩:=B.retire (ab':=.dead) f rfl rfl (λ_ _ _=>trivial);have a1:=k2.list ag;have a0:=k2.list ai;simp only[od,tG,ip,tZ] at h;obtain⟨rfl,rfl⟩:=h;obtain⟨u,φ',w',r1,r2,r3,K⟩:=BE A (ty:=ty) C D hu g H X hz1 am ak d V rfl S T a1 a0 ab Z;simp only[tZ] at K;exact⟨u,φ',w',r1,r2,(j.trans k2).trans r3,K⟩
       cases h
      cases h
     .rename_i len cs c
      cases q with
      | isl vs hxx hl f G hv=>
       rename_i a ccap;have au:ccap=c:=hxx c rfl;subst au;have s:len=l:=(by simp only[gR,tC,tG] at hsx;obtain⟨_,_,e,_⟩:=hsx;exact e);subst s;split at h
       .cases h
       rename_i d;have d:¬(len+(m+1)<=ccap):=(by intro Y;rw[vS Y] at d;cases d);simp only[tN] at h;exact U _ _ rfl d h.symm
     cases h
    cases I
   cases h
  cases h
 cases h
end
end Go.Proofs.YthcfmhgihcjloaaGreatDoor.Gx
namespace Go.Proofs.YthcfmhgihcjloaaGreatDoor.Gx
open Go
section
variable {E:Env} {F:Nat->Prop} {φ:cO} {st:St} {w:World}
theorem wY {P:Program} {e:TypeId} {k a:AV} {u c:Value} (h:dr P e k=true) (d:sameKey k a=true) (f:VRel (Bd F φ st) w φ k u) (g:VRel (Bd F φ st) w φ a c) (i:dr P e a=true):
  (Instr.keyThatStays c u).run P w=.ok u w:=by
 have:Instr.sameBits 10000 c u=true:=by
  rcases DW h with⟨s,rfl,hu⟩ | ⟨j,m,rfl,hu⟩ | ⟨b,rfl,hu⟩<;>
   rcases DW i with⟨s',rfl,hu'⟩ | ⟨j',m',rfl,hu'⟩ | ⟨b',rfl,hu'⟩<;>
   (rw[hu] at hu';cases hu'<;>cases f<;>cases g<;>simp[sameKey] at d<;>subst d<;>simp[Instr.sameBits,wT])
 simp[Instr.keyThatStays,this]
theorem Le {k:AV}:∀{es:List AEnt} {i n:Nat} {v:AV},jw k es i=some (n,v)->i<=n/\∃e,es[n - i]?=some e/\e.val=v/\sameKey k e.key=true
 | [],i,n,v,h=>by simp[jw] at h
 | e::es,i,n,v,h=>by
  unfold jw at h;split at h
  .rename_i hs;simp at h;obtain⟨rfl,rfl⟩:=h;exact⟨tE _,e,by simp,rfl,hs⟩
  obtain⟨f,a,b,c,d⟩:=Le h;refine⟨by omega,a,?_,c,d⟩;have:n - i=(n - (i+1))+1:=(by omega);rw[this];simpa using b
theorem O1 (I:Sess E F φ st w) {t:TypeId} {m k v:AV} {um r uv:Value} {L:St} (h:ia E.P st t m k v=some L) (S:VRel (Bd F φ st) w φ m um)
  (q:VRel (Bd F φ st) w φ k r) (O:VRel (Bd F φ st) w φ v uv):
  ∃w',(Instr.mapUpdate t um r uv).run E.P w=.ok () w'/\Sess E F φ L w'/\Ext φ st w φ L w':=by
 unfold ia at h;split at h
 .rename_i kT eT b hu;rw[get?_eq] at h;split at h
  .rename_i es clock hb;split at h
   .rename_i hcond;simp only[tJ] at hcond
    cases S with
    | map hp=>
     rename_i cb co;obtain⟨ces,l,o⟩:=I.blk b _ cb co hb hp
     have s:∃d,E.P.underlying kT=some d:=by
      rcases DW hcond.1 with⟨_,_,hu⟩ | ⟨_,_,_,hu⟩ | ⟨_,_,hu⟩<;>exact⟨_,hu⟩
     obtain⟨d,s⟩:=s;have u:=KY s hcond.1 q es ces.toList 0 (by simpa using o.1) (λj e c p a=>o.2 j e c p<|by simpa using a) hcond.2;have z:∀c t f,Obj.map ces clock≠.cells c t f:=(by simp);have N:iW φ st cb:=⟨b,_,co,hb,rfl,hp⟩;split at h
     .rename_i n v0 y;rw[y] at u;obtain⟨ab,X,q2⟩:=u;rw[get?_eq] at h;split at h
      .rename_i e p;simp at h;subst h;obtain⟨_,Z,K,r2,Y⟩:=Le y;simp at K;rw[p] at K;cases K;have T:n<ces.size:=(by have:=iZ p;have:=o.1;omega);have J:ces[n]?=some ces[n]:=(by simp[T]);obtain⟨V,k2,W⟩:=o.2 n e _ p J;have Q:dr E.P kT e.key=true:=tV.1 hcond.2 _<|tX p;have U:=wY hcond.1 Y q V Q;refine⟨bZ w cb<|.map (ces.modify n λx=>{ x with key:=r,val:=uv }) clock,?_,?_⟩
       .simp[Instr.mapUpdate,e4 hu,se l z,KX hcond.1 q,Instr.findKey,e4 s,X,J,U,CN l z]
       rw[ip,ip];refine I.change hb rfl rfl hp (λc t H a=>by rw[l] at a;cases a) ?_
       have g:Goes (Bd F φ st) w (Bd F φ st) (bZ w cb<|.map (ces.modify n λx=>{ x with key:=r,val:=uv }) clock):=
        DX (.inr N) l (λc t H a=>by cases a)
       refine⟨_,zx l,by simp[o.1],λj G D i a=>?_⟩;rw[tQ] at i;rw[Array.getElem?_modify] at a;by_cases M:n=j
       .subst M;simp[iZ p] at i;simp[J] at a;subst i;subst a;exact⟨q.mono g λ_ _ h=>h,O.mono g λ_ _ h=>h,W⟩
       simp[M] at i a;obtain⟨A,B,C⟩:=o.2 j G D i a;exact⟨A.mono g λ_ _ h=>h,B.mono g λ_ _ h=>h,C⟩
      cases h
     rename_i y;rw[y] at u;simp only at u;simp at h;subst h;refine⟨bZ w cb<|.map (ces.push { key:=r,val:=uv,born:=clock })<|clock+1,?_,?_⟩
     .simp[Instr.mapUpdate,e4 hu,se l z,KX hcond.1 q,Instr.findKey,e4 s,u,CN l z]
     rw[ip];refine I.change hb rfl rfl hp (λc t H a=>by rw[l] at a;cases a) ?_
     have g:Goes (Bd F φ st) w (Bd F φ st) (bZ w cb<|.map (ces.push { key:=r,val:=uv,born:=clock })<|clock+1):=
      DX (.inr N) l (λc t H a=>by cases a)
     refine⟨_,zx l,by simp[o.1],λj G D i a=>?_⟩
     rcases Nat.lt_trichotomy j es.length with R | P | aa
     .rw[tI R] at i;rw[vE,if_neg<|by have:=o.1;omega] at a;obtain⟨A,B,C⟩:=o.2 j G D i a;exact⟨A.mono g λ_ _ h=>h,B.mono g λ_ _ h=>h,C⟩
     .subst P;simp at i;rw[vE,if_pos o.1] at a;simp at a;subst i;subst a;exact⟨q.mono g λ_ _ h=>h,O.mono g λ_ _ h=>h,rfl⟩
     rw[tF<|by simp;omega] at i;cases i
   cases h
  cases h
 cases h
theorem IP (d:Sess E F φ st w) {ab:AB} (j:jK ab=true) (o:Obj)
  (i:∀(a:Nat->Prop) (φ':cO),(∀b x,φ b=some x->φ' b=some x)->Goes (Bd F φ st) w a (bN w o)->ORel E.P a (bN w o) φ' w.1.size 0 ab):
  Sess E F (bJ φ st.length w.1.size 0) (st++[ab]) (bN w o)/\Ext φ st w (bJ φ st.length w.1.size 0) (st++[ab]) (bN w o)/\bJ φ st.length w.1.size 0 st.length=some (w.1.size,0):=by
 obtain⟨e,f⟩:=d.ghost ab;have c:=d.fresh<|tE st.length;have h:Bd F φ (st++[ab])=Bd F φ st:=funext λcb=>by simp only[Bd,IC c]
 obtain⟨k,l⟩:=e.realize (b:=st.length) (ab:=ab) (by simp) j c o (λa g=>i a _ (BC c)<|by rw[h] at g;exact g);exact⟨k,ID f l rfl,by simp[bJ]⟩
theorem O2 (d:Sess E F φ st w) {t:TypeId} {x v:AV} {g:Value} {f:St} (h:uc E.P st t x=some (v,f)) (m:VRel (Bd F φ st) w φ x g):
  mb E F φ st w (Instr.range t g) v f:=by
 have n:∀{φ':cO} {w':World} {c:St},φ' st.length=some (w.1.size,0)->VRel (Bd F φ' c) w' φ' (.ptr st.length 0) (.pointer<|some ⟨w.1.size,0,none⟩):=by intro φ' w' c a;have:=VRel.ptr (B:=Bd F φ' c) (w:=w') (off:=0) a;simpa using this
 unfold uc at h;split at h
 .rename_i k e b hu;rw[get?_eq] at h;split at h
  .rename_i es clock hb;simp at h;obtain⟨rfl,rfl⟩:=h
   cases m with
   | map a=>rename_i cb co;obtain⟨ces,i,u⟩:=d.blk b _ cb co hb a;obtain⟨o,p,q⟩:=IP d (ab:=.iter (some b) clock [] clock) rfl (.mapIter (some cb) clock #[] clock) (λr φ' l _=>⟨rfl,some cb,BB w _,(λh=>by cases h),(λs j=>by cases j;exact⟨cb,co,rfl,l _ _ a⟩)⟩);exact⟨_,_,_,by simp[Instr.range,e4 hu,se i,bN],o,p,n q⟩
  cases h
 cases h
theorem IQ {B:Nat->Prop} {x y z:AV} {u v t:Value} (e:VRel B w φ x u) (f:VRel B w φ y v) (g:VRel B w φ z t):VRel B w φ (.tup [x,y,z]) (.tuple #[u,v,t]):=
 .tup rfl (λj a b c d=>by
  match j with
  | 0=>simp at c d;subst c;subst d;exact e
  | 1=>simp at c d;subst c;subst d;exact f
  | 2=>simp at c d;subst c;subst d;exact g
  | j+3=>simp at c)
theorem IR {B:Nat->Prop} {x:AV} {u:Value} (e:VRel B w φ x u):VRel B w φ (.tup [x]) (.tuple #[u]):=
 .tup rfl (λj a b c d=>by
  match j with
  | 0=>simp at c d;subst c;subst d;exact e
  | j+1=>simp at c)
theorem Gn {B:Nat->Prop}:∀{es:List AEnt} {ces:List MapEntry} (p:Nat->Bool),es.length=ces.length->
  (∀(j:Nat) e c,es[j]?=some e->ces[j]?=some c->VRel B w φ e.key c.key/\VRel B w φ e.val c.val/\e.born=c.born)->
  (es.filter λe=>p e.born).length=(ces.filter λc=>p c.born).length/\
  (∀(j:Nat) e c,(es.filter λe=>p e.born)[j]?=some e->(ces.filter λc=>p c.born)[j]?=some c->VRel B w φ e.key c.key/\VRel B w φ e.val c.val/\e.born=c.born)
 | [],ces,p,hl,hr=>by have:ces=[]:=tU hl.symm;subst this;exact⟨rfl,λj e c h=>by simp at h⟩
 | e::es,[],p,hl,hr=>by simp at hl
 | e::es,c::ces,p,hl,hr=>by
  obtain⟨i1,i⟩:=Gn (es:=es) (ces:=ces) p (by simpa using hl) (λj e c b a=>hr (j+1) e c (by simpa using b)<|by simpa using a);have f:=hr 0 e c rfl rfl
  cases d:p e.born with
  | true=>
   have g:p c.born=true:=(by rw[<-f.2.2];exact d);simp only[List.filter_cons,d,g,if_true];refine⟨by simp[i1],λj l k b a=>?_⟩
   cases j with
   | zero=>simp at b a;subst b;subst a;exact f
   | succ j=>exact i j l k (by simpa using b)<|by simpa using a
  | false=>have g:p c.born=false:=(by rw[<-f.2.2];exact d);simp only[List.filter_cons,d,g,if_false,tM];exact⟨i1,i⟩
theorem O3 (C:Sess E F φ st w) {x v:AV} {X:Value} {W:St} {U:Bool} {ty:TypeId} (h:wC st x U=some (v,W)) (hx:VRel (Bd F φ st) w φ x X):
  mb E F φ st w (Instr.next X U ty) v W:=by
 unfold wC at h;split at h
 .rename_i r;rw[get?_eq] at h
  cases hx with
  | ptr hp=>
   rename_i cb co;split at h
   .rename_i m since seen last hb;rw[get?_eq] at h;split at h
    .rename_i es clock hm;obtain⟨Z,cm,o,h2,h3⟩:=C.blk r _ cb co hb hp;subst Z;obtain⟨k,y,rfl,T⟩:=h3 m rfl;obtain⟨ces,V,q⟩:=C.blk m _ k y hm T;split at h
     .cases h
     rename_i P;simp only at h;have L:∀c t f,Obj.mapIter (some k) since seen.toArray last≠.cells c t f:=(by simp);have S:∀c t f,Obj.map ces clock≠.cells c t f:=(by simp);have u:=Gn (B:=Bd F φ st) (w:=w) (φ:=φ) (es:=es) (ces:=ces.toList) (λb=>!seen.contains b) (by simpa using q.1) (λj e c s d=>q.2 j e c s<|by simpa using d);have i:=Gn (B:=Bd F φ st) (w:=w) (φ:=φ) (λb=>decide (b<since)) u.1 u.2;have p:=Gn (B:=Bd F φ st) (w:=w) (φ:=φ) (λb=>decide (since<=b)) u.1 u.2
     have Q:es.isEmpty=ces.isEmpty:=by
      have:=q.1
      cases es with
      | nil=>simp at this;simp[Array.isEmpty,this.symm]
      | cons a l=>have H:ces.size≠0:=(by simp at this;omega);simp[Array.isEmpty,H]
     have aa:es.all (λe=>decide (last<=e.born))=ces.all (·.born>=last):=by
      rw[<-Array.all_toList];have z:es.length=ces.toList.length:=(by simpa using q.1);have M:∀(j:Nat) e c,es[j]?=some e->ces.toList[j]?=some c->e.born=c.born:=λj e c s d=>(q.2 j e c s<|by simpa using d).2.2;generalize ces.toList=g at z M;clear u i p P h hm q Q
      induction es generalizing g with
      | nil=>simp at z;simp[tU z.symm]
      | cons e es ih=>
       cases g with
       | nil=>simp at z
       | cons c g=>simp only[List.all_cons];rw[ih g (by simpa using z) λj e c s d=>M (j+1) e c (by simpa using s)<|by simpa using d,M 0 e c rfl rfl]
     have R:(!seen.toArray.isEmpty&&!ces.isEmpty&&ces.all (·.born>=last))=false:=(by have n:seen.toArray.isEmpty=seen.isEmpty:=(by simp);rw[n,<-Q,<-aa];simpa using P);have ae:∀(l:Array MapEntry),(l.filter λe=>!seen.toArray.contains e.born).toList=l.toList.filter λe=>!seen.contains e.born:=(by intro l;simp);generalize I:ces.filter (λe=>!seen.toArray.contains e.born)=g;have O:g.toList=ces.toList.filter λe=>!seen.contains e.born:=(by rw[<-I,ae]);generalize K:g.filter (λe=>decide (e.born<since))=A;have ad:A.toList=(ces.toList.filter λe=>!seen.contains e.born).filter λe=>decide (e.born<since):=(by rw[<-K,<-O];simp);generalize J:g.filter (λe=>decide (e.born>=since))=D;have ac:D.toList=(ces.toList.filter λe=>!seen.contains e.born).filter λe=>decide (since<=e.born):=(by rw[<-J,<-O];simp[ge_iff_le]);rw[<-ad] at i;rw[<-ac] at p;split at h
     .rename_i ho hn;simp only[tN,tG] at h;obtain⟨rfl,rfl⟩:=h;rw[ho] at i;rw[hn] at p;have n:A=#[]:=(by have:=i.1;simp at this;exact vf this.symm);have G:D=#[]:=(by have:=p.1;simp at this;exact vf this.symm);refine⟨.tuple #[.bool false],φ,w,?_,C,Ext.refl _ _ _,IR<|.bool _⟩;simp only[Instr.next,Sem.run_bind,se o L,Result.andThen_ok,se V S,R,tM,if_false,I,K,J,n,G];simp[choose,Sem.run,Question.forced]
     .rename_i e ho hn;simp only[tN,tG] at h;obtain⟨rfl,rfl⟩:=h;rw[ho] at i;rw[hn] at p;have G:D=#[]:=(by have:=p.1;simp at this;exact vf this.symm);obtain⟨c,n⟩:∃c,A=#[c]:=(by have H:=i.1;have:A.toList.length=1:=(by simpa using H.symm);obtain⟨c,d⟩:=List.length_eq_one_iff.1 this;exact⟨c,by apply vw;simpa using d⟩);rw[n] at i;obtain⟨k1,k2,k3⟩:=i.2 0 e c rfl rfl;refine⟨.tuple #[.bool true,c.key,c.val],φ,bZ w cb<|.mapIter (some k) since (seen.toArray.push c.born) clock,?_,?_⟩
      .simp only[Instr.next,Sem.run_bind,se o L,Result.andThen_ok,se V S,R,tM,if_false,I,K,J,n,G];simp[choose,Sem.run,Question.forced,CN o L]
      rw[ip]
      have af:Goes (Bd F φ st) w (Bd F φ st) (bZ w cb<|.mapIter (some k) since (seen.toArray.push c.born) clock):=
       DX (.inr ⟨r,_,0,hb,rfl,hp⟩) o (λc t Y d=>by cases d)
      obtain⟨s1,N⟩:=C.change (ab':=.iter (some m) since (seen++[e.born]) clock) (o':=.mapIter (some k) since (seen.toArray.push c.born) clock) hb rfl rfl hp
       (λc t Y d=>by rw[o] at d;cases d) ⟨rfl,some k,by rw[zx o,k3];simp,(λh=>by cases h),(λb' ab=>by cases ab;exact⟨k,y,rfl,T⟩)⟩
      exact⟨s1,N,IQ (.bool _) (N.val k1)<|N.val k2⟩
     cases h
    cases h
   cases h
 cases h
theorem O4 (q:Sess E F φ st w) {x v:AV} {u:Value} (h:ud st x=some v) (I:VRel (Bd F φ st) w φ x u):
  BD E.P w (Bd F φ st) φ (Instr.entry u) v:=by
 unfold ud at h;split at h
 .rename_i r;rw[get?_eq] at h
  cases I with
  | ptr hp=>
   rename_i cb co;split at h
   .rename_i m since seen stepped hb;rw[get?_eq] at h;split at h
    .rename_i es clock stamp hm hst;split at h
     .rename_i hcl;subst hcl;simp only[tC] at h;obtain⟨e,a,rfl⟩:=h;obtain⟨z,M,A,N,B⟩:=q.blk r _ cb co hb hp;subst z;obtain⟨o,y,rfl,H⟩:=B m rfl;obtain⟨ces,L,n⟩:=q.blk m _ o y hm H;have O:seen.toArray.back?=some stamp:=by simp[hst]
      have C:∃c,ces.find? (λx=>x.born==stamp)=some c/\VRel (Bd F φ st) w φ e.key c.key/\VRel (Bd F φ st) w φ e.val c.val:=by
       rw[<-Array.find?_toList];have g:es.length=ces.toList.length:=(by simpa using n.1);have i:∀(j:Nat) e c,es[j]?=some e->ces.toList[j]?=some c->VRel (Bd F φ st) w φ e.key c.key/\VRel (Bd F φ st) w φ e.val c.val/\e.born=c.born:=λj e c a b=>n.2 j e c a (by simpa using b);generalize ces.toList=d at g i;clear hm n
       induction es generalizing d with
       | nil=>simp at a
       | cons p es J=>
        cases d with
        | nil=>simp at g
        | cons c d=>
         obtain⟨k,l,K⟩:=i 0 p c rfl rfl;rw[List.find?_cons] at a ⊢;rw[<-K]
         cases s:p.born==stamp with
         | true=>rw[s] at a;simp at a;subst a;exact⟨c,rfl,k,l⟩
         | false=>rw[s] at a;exact J a d (by simpa using g) λj e c a b=>i (j+1) e c (by simpa using a)<|by simpa using b
      obtain⟨c,b,k,l⟩:=C;have D:∀c t f,Obj.mapIter (some o) since seen.toArray clock≠.cells c t f:=(by simp);have G:∀c t f,Obj.map ces clock≠.cells c t f:=(by simp);refine⟨.tuple #[c.key,c.val],?_,IK k l⟩;simp[Instr.entry,se A D,hst,se L G,b]
     cases h
    cases h
   cases h
 cases h
end
end Go.Proofs.YthcfmhgihcjloaaGreatDoor.Gx
namespace Go.Proofs.YthcfmhgihcjloaaGreatDoor.Gx
open Go
section
variable {E:Env} {F:Nat->Prop} {φ:cO} {w:World}
def wZ (E:Env) (F:Nat->Prop) (φ:cO) (w:World) (f:AV->St->Option (AV × St)):Prop:=
 ∀(v:AV) (st:St) (v':AV) (st':St) (u:Value),f v st=some (v',st')->Sess E F φ st w->VRel (Bd F φ st) w φ v u->
  Sess E F φ st' w/\Ext φ st w φ st' w/\VRel (Bd F φ st') w cP v' u
theorem Ext0.val0 {φ':cO} {st a:St} {w':World} (h:Ext0 φ st w φ' a w') {v:AV} {u:Value} (b:VRel (Bd F φ st) w cP v u):VRel (Bd F φ' a) w' cP v u:=
 b.mono h.goes (λ_ _ h=>h)
theorem Ext0.list0 {φ':cO} {st a:St} {w':World} (h:Ext0 φ st w φ' a w') {l:List AV} {us:List Value} (b:LRel (Bd F φ st) w cP l us):LRel (Bd F φ' a) w' cP l us:=
 b.mono h.goes (λ_ _ h=>h)
theorem CO {f:AV->St->Option (AV × St)} (e:wZ E F φ w f):∀{l:List AV} {st a:St} {b:List AV} {us:List Value},oc f l st=some (b,a)->Sess E F φ st w->
  LRel (Bd F φ st) w φ l us->Sess E F φ a w/\Ext φ st w φ a w/\LRel (Bd F φ a) w cP b us
 | [],st,a,b,us,h,hS,hl=>by simp[oc] at h;obtain⟨rfl,rfl⟩:=h;rw[hl.inv_nil];exact⟨hS,Ext.refl _ _ _,.nil⟩
 | v::l,st,a,b,us,h,hS,hl=>by
  unfold oc at h;split at h
  .rename_i v1 st1 h1;split at h
   .rename_i l1 st2 h2;simp at h;obtain⟨rfl,rfl⟩:=h;obtain⟨u,o,rfl,m,n⟩:=hl.inv_cons;obtain⟨g,c,i⟩:=e _ _ _ _ _ h1 hS m;obtain⟨j,d,k⟩:=CO e h2 g<|c.list n;exact⟨j,c.trans d,.cons (d.val0 i) k⟩
   cases h
  cases h
structure FrzRow (B:Nat->Prop) (w:World) (cb co:Nat) (cs:List AV):Prop where
 out:¬B cb
 row:∃(cells:Array Value) (t:TypeId) (fz:Nat × Nat),w.1[cb]?=some (.cells cells t fz)/\∀(j:Nat) c,cs[j]?=some c->∃v,cells[co+j]?=some v/\VRel B w cP c v
theorem Lf {f:AV->St->Option (AV × St)} (J:wZ E F φ w f) {b:Nat} {st m:St} {cs:List AV} {cb co:Nat} (h:oM f b st=some (cs,m)) (l:Sess E F φ st w) (g:φ b=some (cb,co)):
  Sess E F φ m w/\Ext φ st w φ m w/\FrzRow (Bd F φ m) w cb co cs:=by
 unfold oM at h;rw[get?_eq] at h;split at h
 .rename_i cs0 k;split at h
  .rename_i cs' st1 h1;rw[get?_eq] at h;split at h
   .rename_i cs1 hb1;simp at h;obtain⟨rfl,rfl⟩:=h;obtain⟨cells,t,N,O⟩:=l.blk b _ cb co k g;obtain⟨us,R,G,H⟩:=DT (B:=Bd F φ st) (w:=w) (φ:=φ) cs0 (λj v=>cells[co+j]?=some v) O;obtain⟨n,A,q⟩:=CO J h1 l H;rw[ip]
    have r:∀(o d:Nat),φ b=some (o,d)->ORel E.P (Bd F φ<|st1.set b<|.frz cs') w φ o d (.frz cs'):=by
     intro o d z;rw[g] at z;cases z;have L:iW φ st1 cb:=⟨b,_,co,hb1,rfl,g⟩
     have K:¬Bd F φ (st1.set b<|.frz cs') cb:=by
      rintro(hF | ⟨x,C,d,a,i,p⟩)
      .exact(n.fout cb hF).2 L
      rw[tQ] at a;by_cases e:b=x
      .subst e;simp[iZ hb1] at a;subst a;cases i
      simp[e] at a;exact e<|n.inj b x _ C cb co d hb1 rfl a i g p
     refine⟨K,cells,t,(0,0),N,λj c s=>?_⟩;have u:j<us.length:=(by have:=iZ s;have:=q.1;omega);refine⟨us[j],G j _<|tD u,?_⟩;have M:=q.2 j c _ s<|tD u;refine M.mono ⟨λx S k=>⟨λI=>k ?_,rfl⟩,tE _,λ_ c _ _ h=>⟨c,h,rfl⟩⟩ λ_ _ h=>h
     rcases I with hF | ⟨y,D,d,a,i,p⟩
     .exact .inl hF
     rw[tQ] at a;by_cases e:b=y
     .subst e;simp[iZ hb1] at a;subst a;cases i
     simp[e] at a;exact .inr ⟨y,D,d,a,i,p⟩
    obtain⟨P,Q⟩:=n.retire (ab':=.frz cs') hb1 rfl rfl r;have:=r cb co g;exact⟨P,A.trans Q,this.1,this.2⟩
   cases h
  cases h
 .rename_i cs0 k;simp at h;obtain⟨rfl,rfl⟩:=h;have:=l.blk b _ cb co k g;exact⟨l,Ext.refl _ _ _,this.1,this.2⟩
 cases h
theorem FrzRow.iptr {B:Nat->Prop} {cb co off:Nat} {cs:List AV} (h:FrzRow B w cb co cs):VRel B w cP (.iptr<|eh cs off) (.pointer<|some ⟨cb,co+off,none⟩):=by
 obtain⟨g,cells,t,i,e,f⟩:=h;refine Gh (vs:=λj=>cells.getD (co+j) .nilIface) g (DR e) (λj c b=>?_) λj c b=>?_
 .obtain⟨v,a,d⟩:=f j c b;rw[Gf e,a];simp[Array.getD]
  have:co+j<cells.size:=by
   rcases tH (co+j) cells.size with h | h
   .exact h
   simp[tT h] at a
  simp[this] at a ⊢;exact a.symm
 obtain⟨v,a,d⟩:=f j c b
 have:co+j<cells.size:=by
  rcases tH (co+j) cells.size with h | h
  .exact h
  simp[tT h] at a
 simp[Array.getD,this] at a ⊢;rw[a];exact d
theorem Gp:∀(n:Nat),wZ E F φ w (fx n)
 | 0=>λv st M C u h=>by simp[fx] at h
 | n+1=>by
  intro v st M C u h s d;have y:=Gp n;have g:some (v,st)=some (M,C)->VRel (Bd F φ st) w cP v u->Sess E F φ C w/\Ext φ st w φ C w/\VRel (Bd F φ C) w cP M u:=by intro Q X;simp at Q;obtain⟨rfl,rfl⟩:=Q;exact⟨s,Ext.refl _ _ _,X⟩
  have H:∀{cs:List AV} {us:Array Value},cs.length=us.size->(∀(j:Nat) x v,cs[j]?=some x->us[j]?=some v->VRel (Bd F φ st) w φ x v)->LRel (Bd F φ st) w φ cs us.toList:=
   λq d=>⟨by simpa using q,λj x v t W=>d j x v t<|by simpa using W⟩
  cases d with
  | bool b=>exact g h<|.bool b
  | int k m=>exact g h<|.int k m
  | str l=>exact g h<|.str l
  | nilptr=>exact g h .nilptr
  | nilsl=>exact g h .nilsl
  | nilmap=>exact g h .nilmap
  | nilfn=>exact g h .nilfn
  | nilif=>exact g h .nilif
  | unk u=>exact g h<|.unk u
  | oint i K=>exact g h<|.oint i K
  | ostr hn=>exact g h<|.ostr hn
  | iptr vs hb q p d=>exact g h<|.iptr vs hb q p d
  | isl vs t q hb p d=>exact g h<|.isl vs t q hb p d
  | map hp=>simp[fx] at h
  | yld hp=>simp[fx] at h
  | ptr hp=>rename_i b off cb co;simp only[fx,tC,tG] at h;obtain⟨⟨cs,D⟩,i,rfl,rfl⟩:=h;obtain⟨G,I,J⟩:=Lf y i s hp;exact⟨G,I,J.iptr⟩
  | sl hp ho q hxx hg=>
   rename_i b off len N cb co o ccap;simp only[fx,tC,tG] at h;obtain⟨⟨cs,D⟩,i,rfl,rfl⟩:=h;obtain⟨G,I,J⟩:=Lf y i s hp;refine⟨G,I,?_⟩
   have P:∀c,gd N=some c->ccap=c:=by
    intro c p
    cases N with
    | ex U=>simp[gd] at p;subst p;exact hxx _ rfl
    | gr z=>simp[gd] at p
   by_cases O:len=0
   .subst O;simp only[if_true];exact .isl (λ_=>.nilIface) P (Nat.zero_le _) (λe=>absurd rfl e) (λj c L=>by simp at L) λj c L=>by simp at L
   simp only[O,if_false];have V:o=co+off:=ho.resolve_left (by omega);subst V;have:=J.iptr (off:=off)
   cases this with
   | iptr vs hb hl' p d=>exact .isl vs P q (λ_=>⟨hb,rfl⟩) p d
  | func ha p hav hcv=>
   rename_i f a c a' U;simp only[fx] at h;split at h
   .rename_i G D i;simp only[tC,tG] at h;obtain⟨⟨c1,aa⟩,K,rfl,rfl⟩:=h;obtain⟨A,r,B⟩:=CO y i s<|H ha hav;obtain⟨Z,S,T⟩:=CO y K A<|r.list<|H p hcv;refine⟨Z,r.trans S,?_⟩;have R:=S.list0 B
    exact .func (by have:=R.1;simpa using this) (by have:=T.1;simpa using this)
     (λj x v t d=>R.2 j x v t<|by simpa using d) (λj x v t d=>T.2 j x v t<|by simpa using d)
   cases h
  | iface d=>simp only[fx,tC,tG] at h;obtain⟨⟨v1,D⟩,i,rfl,rfl⟩:=h;obtain⟨A,r,B⟩:=y _ _ _ _ _ i s d;exact⟨A,r,.iface B⟩
  | agg q d=>simp only[fx,tC,tG] at h;obtain⟨⟨Y,D⟩,i,rfl,rfl⟩:=h;obtain⟨A,r,B⟩:=CO y i s<|H q d;exact⟨A,r,by simpa using VRel.of_list B⟩
  | tup q d=>simp only[fx,tC,tG] at h;obtain⟨⟨Y,D⟩,i,rfl,rfl⟩:=h;obtain⟨A,r,B⟩:=CO y i s<|H q d;exact⟨A,r,by simpa using VRel.of_list_tup B⟩
end
end Go.Proofs.YthcfmhgihcjloaaGreatDoor.Gx
namespace Go.Proofs.YthcfmhgihcjloaaGreatDoor.Gx
open Go
section
variable {E:Env} {F:Nat->Prop} {φ:cO} {st:St} {w:World}
end
