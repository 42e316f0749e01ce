import Derived.Test.YthcfmhgihcjloaaGreatDoorGxA
import Derived.Laws.Sem
import Derived.Laws.Strings
namespace Go.Proofs.YthcfmhgihcjloaaGreatDoor.Gx
open Go
section
variable {P:Program} {w:World}
theorem e4 {t:TypeId} {d:TypeDesc} (h:P.underlying t=some d):(underlying t).run P w=.ok d w:=by simp[underlying,h]
theorem DS {t:TypeId} {i:TypeInfo} (h:P.info? t=some i):(typeInfo t).run P w=.ok i w:=by simp[typeInfo,h]
theorem km {t:TypeId} {n:Nat} (h:eG P t=some n):(sizeOf t).run P w=.ok n w:=by unfold eG at h;simp at h;obtain⟨i,a,rfl⟩:=h;simp[sizeOf,DS a]
theorem Ge {t:TypeId} {b:Bool} (h:zN P t=some b):(isAgg t).run P w=.ok b w:=by
 unfold zN at h
 cases a:P.underlying t with
 | none=>simp[a] at h
 | some d=>rw[a] at h;cases d<;>simp at h<;>subst h<;>simp[isAgg,e4 a]
theorem IE {t:TypeId} {z:AV} (h:gQ P t=some z):∃i v,P.info? t=some i/\i.zero=some v/\wn v=some z:=by unfold gQ at h;simp[tL] at h;obtain⟨v,⟨i,a,b⟩,c⟩:=h;exact⟨i,v,a,b,c⟩
theorem EZ {t:TypeId} {z:AV} (h:gQ P t=some z):∃v,(zeroValue t).run P w=.ok v w/\wn v=some z:=by obtain⟨i,v,a,b,c⟩:=IE h;exact⟨v,by simp[zeroValue,DS a,b],c⟩
end
def Row (w:World) (cb o:Nat) (us:List Value):Prop:=∀(j:Nat) u,us[j]?=some u->w.cell? ⟨cb,o+j,none⟩=some u
theorem Row.drop {w:World} {cb o:Nat} {us:List Value} (h:Row w cb o us) (n:Nat):Row w cb (o+n) (us.drop n):=by
 intro j u a;have:=h (n+j) u<|by simpa using a
 rwa [<-tP] at this
theorem Row.take {w:World} {cb o:Nat} {us:List Value} (h:Row w cb o us) (n:Nat):Row w cb o (us.take n):=by
 intro j u a;rw[vG] at a;split at a
 .exact h j u a
 cases a
theorem uZ (cb o n:Nat):(⟨cb,o,none⟩:Addr).add n=⟨cb,o+n,none⟩:=by
 unfold Addr.add;split
 .rename_i h;subst h;rfl
 rfl
theorem KJ {P:Program} {w:World} {cb o:Nat}:∀(us:List Value) (i:Nat) (a:Array Value),Row w cb (o+i) us->
  (loadCellsFrom ⟨cb,o,none⟩ i us.length a).run P w=.ok (a++us.toArray) w
 | [],i,a,_=>by simp[loadCellsFrom]
 | u::us,i,a,h=>by
  have b:=h 0 u rfl;simp only[vL] at b;have c:Row w cb (o+(i+1)) us:=by have:=h.drop 1;simpa [tP] using this
  simp[loadCellsFrom,uZ,b,KJ us (i+1) (a.push u) c]
theorem KK {P:Program} {w:World} {cb o:Nat} {us:List Value} (h:Row w cb o us):
  (loadCells ⟨cb,o,none⟩ us.length).run P w=.ok us.toArray w:=by
 have:=KJ (P:=P) us 0 #[] (o:=o) (by simpa using h);simpa [loadCells] using this
theorem DT {B:Nat->Prop} {w:World} {φ:cO}:∀(cs:List AV) (X:Nat->Value->Prop),(∀(j:Nat) c,cs[j]?=some c->∃v,X j v/\VRel B w φ c v)->
  ∃us:List Value,us.length=cs.length/\(∀(j:Nat) u,us[j]?=some u->X j u)/\LRel B w φ cs us
 | [],X,_=>⟨[],rfl,λj u h=>by simp at h,.nil⟩
 | c::cs,X,h=>by
  obtain⟨v,g,f⟩:=h 0 c rfl;obtain⟨us,b,d,e⟩:=DT cs (λj=>X<|j+1) (λj c a=>h (j+1) c<|by simpa using a);refine⟨v::us,by simp[b],λj u a=>?_,.cons f e⟩
  cases j with
  | zero=>simp at a;subst a;exact g
  | succ j=>simp at a;exact d j u a
theorem VRel.weak {B:Nat->Prop} {w:World} {v:AV} {u:Value} (h:VRel B w cP v u) (φ:cO):VRel B w φ v u:=
 h.mono ⟨λ_ _ a=>⟨a,rfl⟩,tE _,λ_ c _ _ h=>⟨c,h,rfl⟩⟩ (λ_ _ h=>by simp[cP] at h)
theorem LRel.weak {B:Nat->Prop} {w:World} {l:List AV} {us:List Value} (h:LRel B w cP l us) (φ:cO):LRel B w φ l us:=
 ⟨h.1,λj x v b a=>(h.2 j x v b a).weak φ⟩
theorem Gf {w:World} {cb o:Nat} {cells:Array Value} {t:TypeId} {a:Nat × Nat} (h:w.1[cb]?=some (.cells cells t a)):w.cell? ⟨cb,o,none⟩=cells[o]?:=by simp[World.cell?,h]
section
variable {E:Env} {F:Nat->Prop} {φ:cO} {st:St} {w:World}
theorem IF (p:Sess E F φ st w) {a:AV} {u:Value} {cs:List AV} (h:dN st a=some cs) (m:VRel (Bd F φ st) w φ a u):
  ∃cb o us,u=.pointer (some ⟨cb,o,none⟩)/\LRel (Bd F φ st) w φ cs us/\Row w cb o us:=by
 cases m with
 | ptr hp=>
  rename_i b off cb co;simp only[dN,get?_eq] at h;split at h
  .rename_i e hb;simp at h;subst h;obtain⟨cells,t,i,k⟩:=p.blk b _ cb co hb hp;obtain⟨us,n,f,g⟩:=DT (B:=Bd F φ st) (w:=w) (φ:=φ) e (λj v=>cells[co+j]?=some v) k;have l:Row w cb co us:=λj u d=>(by rw[Gf i];exact f j u d);refine⟨cb,co+off,us.drop off,rfl,?_,l.drop off⟩;rw[BA];exact g.drop off
  .rename_i e hb;simp at h;subst h;obtain⟨_,cells,t,q,i,k⟩:=p.blk b _ cb co hb hp;obtain⟨us,n,f,g⟩:=DT (B:=Bd F φ st) (w:=w) (φ:=cP) e (λj v=>cells[co+j]?=some v) k;have l:Row w cb co us:=λj u d=>(by rw[Gf i];exact f j u d);refine⟨cb,co+off,us.drop off,rfl,?_,l.drop off⟩;rw[BA];exact(g.weak φ).drop off
  cases h
 | iptr vs hb hl hc m=>rename_i e cb o;simp[dN] at h;subst h;obtain⟨us,n,f,g⟩:=DT (B:=Bd F φ st) (w:=w) (φ:=cP) e (λj v=>w.cell? ⟨cb,o+j,none⟩=some v) λj c d=>⟨vs j,hc j c d,m j c d⟩;exact⟨cb,o,us,rfl,g.weak φ,f⟩
 | _=>simp[dN] at h
theorem KL (f:Sess E F φ st w) {t:TypeId} {a v:AV} {u:Value} (h:ju E.P st t a=some v) (g:VRel (Bd F φ st) w φ a u):
  ∃x,(Instr.loadAt t u).run E.P w=.ok x w/\VRel (Bd F φ st) w φ v x:=by
 unfold ju at h;split at h
 .rename_i cs h1 h2;obtain⟨cb,o,us,rfl,b,d⟩:=IF f h1 g;split at h
  .rename_i n hn;simp at h;obtain⟨r,k,rfl⟩:=h;obtain⟨e,i⟩:=DP _ _ _ k;have j:(us.take n).length=n:=(by rw[<-(b.take n).1,<-e,i]);refine⟨.agg (us.take n).toArray,?_,VRel.of_list<|e ▸ b.take n⟩;have:=KK (P:=E.P)<|d.take n;rw[j] at this;simp[Instr.loadAt,Instr.sureAddr,loadVar,Ge h2,km hn,this]
  cases h
 .rename_i c cs h1 h2;simp at h;subst h;obtain⟨cb,o,us,rfl,b,d⟩:=IF f h1 g;obtain⟨x,m,rfl,l,_⟩:=b.inv_cons;have:=d 0 x rfl;simp only[vL] at this;exact⟨x,by simp[Instr.loadAt,Instr.sureAddr,loadVar,Ge h2,this],l⟩
 cases h
def bR (tmps:Array Value):Operand->Value
 | .tmp t=>tmps.getD t undef
 | .const v=>v
 | .global g=>.pointer<|some ⟨g,0,none⟩
 | .func f=>.func (.func f) #[] #[]
theorem Gg {B:Nat->Prop} {tm:List AV} {tmps:Array Value} (h:LRel B w φ tm tmps.toList) (t:Nat):VRel B w φ (fD tm t) (tmps.getD t undef):=by
 rw[zv]
 rcases tH t tm.length with c | c
 .have a:t<tmps.size:=by have:=h.1;simp at this;omega
  have d:tm[t]?=some tm[t]:=tD c;have b:tmps.toList[t]?=some tmps[t]:=by simp[a]
  have:=h.2 t _ _ d b;simpa [d,a,Array.getD] using this
 have a:tmps.size<=t:=by have:=h.1;simp at this;omega
 have b:tmps.getD t undef=undef:=by simp[Array.getD,Nat.not_lt.2 a]
 simp[tF c,b];exact VRel.undef
theorem fC (b:Sess E F φ st w) {fr:Fr} {tmps:Array Value} (d:LRel (Bd F φ st) w φ fr.tm tmps.toList) {x:Operand} {v:AV} (h:ev E fr x=some v):
  VRel (Bd F φ st) w φ v (bR tmps x):=by
 cases x with
 | tmp t=>simp[ev] at h;subst h;exact Gg d t
 | const c=>exact zw h
 | global g=>simp[ev] at h;obtain⟨cs,a,rfl⟩:=h;exact(b.glob g cs a).weak φ
 | func f=>simp[ev] at h;subst h;exact .func rfl rfl (λj x v h=>by simp at h) (λj x v h=>by simp at h)
theorem DU (a:Sess E F φ st w) {fr:Fr} {tmps:Array Value} (b:LRel (Bd F φ st) w φ fr.tm tmps.toList):∀{xs:List Operand} {vs:List AV},oO E fr xs=some vs->
  LRel (Bd F φ st) w φ vs (xs.map<|bR tmps)
 | [],vs,h=>by simp[oO] at h;subst h;exact .nil
 | x::xs,vs,h=>by
  unfold oO at h;split at h
  .rename_i v vs' h1 h2;simp at h;subst h;exact .cons (fC a b h1)<|DU a b h2
  cases h
def CJ (B:Nat->Prop) (w:World) (φ:cO) (l:List (Nat × AV)) (us:List (Nat × Value)):Prop:=
 l.map (·.1)=us.map (·.1)/\LRel B w φ (l.map (·.2)) (us.map (·.2))
theorem IG (a:Sess E F φ st w) {fr:Fr} {tmps:Array Value} (b:LRel (Bd F φ st) w φ fr.tm tmps.toList):∀{xs:List (Nat × Operand)} {vs:List (Nat × AV)},zP E fr xs=some vs->
  CJ (Bd F φ st) w φ vs (xs.map fun(i,x)=>(i,bR tmps x))
 | [],vs,h=>by simp[zP] at h;subst h;exact⟨rfl,.nil⟩
 | (i,x)::xs,vs,h=>by
  unfold zP at h;split at h
  .rename_i v vs' h1 h2;simp at h;subst h;have:=IG a b h2;exact⟨by simp;simpa using this.1,.cons (fC a b h1) this.2⟩
  cases h
theorem Gh {B:Nat->Prop} {cs:List AV} {cb o n:Nat} {vs:Nat->Value} (b:¬B cb) (e:cb<w.1.size)
  (d:∀(j:Nat) c,cs[j]?=some c->w.cell? ⟨cb,o+j,none⟩=some (vs j)) (f:∀(j:Nat) c,cs[j]?=some c->VRel B w cP c (vs j)):
  VRel B w φ (.iptr<|eh cs n) (.pointer<|some ⟨cb,o+n,none⟩):=by
 rw[BA];refine .iptr (λj=>vs<|n+j) b e (λj c a=>?_) (λj c a=>f _ c<|by simpa using a);rw[tP];exact d _ c<|by simpa using a
theorem OD {B:Nat->Prop} {t:TypeId} {f:Nat} {a v:AV} {u:Value} (h:gW E.P t a f=some v) (d:VRel B w φ a u):
  ∃x,(Instr.fieldAt t u f).run E.P w=.ok x w/\VRel B w φ v x:=by
 unfold gW at h;split at h
 .rename_i o ft hf;unfold j0 at hf;split at hf
  .rename_i fs hu;simp at hf;obtain⟨c,e,rfl,rfl⟩:=hf;split at h
   .rename_i n b off hn;simp at h;subst h
    cases d with
    | ptr hp=>rename_i cb co;exact⟨.pointer<|some ⟨cb,co+off+c.offset,none⟩,by simp[Instr.fieldAt,e4 hu,e,Instr.sureAddr,fieldPlace,km hn,uZ],by rw[tP];exact .ptr hp⟩
   .rename_i n cs hn;simp at h;subst h
    cases d with
    | iptr vs hb hl hc hv=>rename_i cb o;exact⟨.pointer<|some ⟨cb,o+c.offset,none⟩,by simp[Instr.fieldAt,e4 hu,e,Instr.sureAddr,fieldPlace,km hn,uZ],Gh hb hl hc hv⟩
   cases h
  cases hf
 cases h
theorem E0 {i:AV} {len n:Nat} (h:wq i len=some n):∃k,i=.int k n/\n<len:=by
 unfold wq at h;split at h
 .rename_i k m;split at h
  .rename_i hb;simp at h;subst h;exact⟨k,rfl,by simpa [vT] using hb⟩
  cases h
 cases h
theorem OE {B:Nat->Prop} {t:TypeId} {x i v:AV} {u ui:Value} (h:hH E.P t x i=some v) (j:VRel B w φ x u) (g:VRel B w φ i ui):
  ∃r,(Instr.indexAt t u ui).run E.P w=.ok r w/\VRel B w φ v r:=by
 unfold hH at h;split at h
 .rename_i e hu;split at h
  .rename_i s b off len cap hs;simp at h;obtain⟨n,f,rfl⟩:=h;obtain⟨k,rfl,d⟩:=E0 f;cases g
   cases j with
   | sl hp ho hl hxx hg=>rename_i cb co o ccap;have C:o=co+off:=ho.resolve_left (by omega);subst C;have H:(0:Int)<=(n:Int)/\(n:Int)<(len:Int):=(by omega);exact⟨.pointer<|some ⟨cb,co+off+n*s,none⟩,by simp[Instr.indexAt,asIntOf,e4 hu,d,km hs,uZ],by rw[tP];exact .ptr hp⟩
  .rename_i s len cs cap hs;split at h
   .rename_i n f;split at h
    .cases h
    rename_i c G p;simp at h;subst h;obtain⟨k,rfl,d⟩:=E0 f;cases g
    cases j with
    | isl vs hxx hl hb hc hv=>
     rename_i a ccap;have q:cs≠[]:=λe=>(by subst e;simp[BA] at p);obtain⟨l,m⟩:=hb q;obtain⟨ab,y,D⟩:=a;simp only at l m hc;subst m
     have A:ab<w.1.size:=by
      cases cs with
      | nil=>exact absurd rfl q
      | cons z _=>exact lt_of_cell?<|hc 0 z rfl
     refine⟨.pointer<|some ⟨ab,y+n*s,none⟩,by simp[Instr.indexAt,asIntOf,e4 hu,d,km hs,uZ],?_⟩;rw[<-p];exact Gh l A hc hv
   cases h
  cases h
 .rename_i len e hu;split at h
  .rename_i s b off hs;simp at h;obtain⟨n,f,rfl⟩:=h;obtain⟨k,rfl,d⟩:=E0 f;cases g
   cases j with
   | ptr hp=>rename_i cb co;exact⟨.pointer<|some ⟨cb,co+off+n*s,none⟩,by simp[Instr.indexAt,asIntOf,e4 hu,Instr.sureAddr,d,km hs,uZ],by rw[tP];exact .ptr hp⟩
  .rename_i s cs hs;simp at h;obtain⟨n,f,rfl⟩:=h;obtain⟨k,rfl,d⟩:=E0 f;cases g
   cases j with
   | iptr vs hb hl hc hv=>rename_i cb o;exact⟨.pointer<|some ⟨cb,o+n*s,none⟩,by simp[Instr.indexAt,asIntOf,e4 hu,Instr.sureAddr,d,km hs,uZ],Gh hb hl hc hv⟩
  cases h
 cases h
end
end Go.Proofs.YthcfmhgihcjloaaGreatDoor.Gx
namespace Go.Proofs.YthcfmhgihcjloaaGreatDoor.Gx
open Go
section
variable {E:Env} {F:Nat->Prop} {φ:cO} {st:St} {w:World} {B:Nat->Prop}
theorem KM {t:TypeId} {cs:List AV} {off:Nat} {v:AV} {us:Array Value} (h:uB E.P t cs off=some v) (b:LRel B w φ cs us.toList):
  ∃r,(part t us off).run E.P w=.ok r w/\VRel B w φ v r:=by
 unfold uB at h;split at h
 .rename_i ha;split at h
  .rename_i n hn;simp at h;obtain⟨r,g,rfl⟩:=h;obtain⟨a,i⟩:=DP _ _ _ g;rw[BA] at a;refine⟨.agg<|us.extract off<|off+n,by simp[part,Ge ha,km hn],?_⟩;have:=VRel.of_list<|(b.drop off).take n;rw[<-a] at this;have d:((us.toList.drop off).take n).toArray=us.extract off (off+n):=by apply vw;simp[Array.toList_extract]
   rwa [d] at this
  cases h
 .rename_i ha;rw[get?_eq] at h;have f:=b.1;have j:=iZ h;have c:off<us.size:=by simp at f;omega
  have a:us.toList[off]?=some us[off]:=by simp[c]
  have e:us[off]?=some us[off]:=by simp[c]
  exact⟨us[off],by simp[part,Ge ha,e],b.2 off v _ h a⟩
 cases h
theorem KN {cs:List AV} {u:Value} (h:VRel B w φ (.agg cs) u):∃us:Array Value,u=.agg us/\LRel B w φ cs us.toList:=by
 cases h with
 | agg hl hv=>exact⟨_,rfl,by simpa using hl,λj x v b a=>hv j x v b<|by simpa using a⟩
theorem KO {cs:List AV} {u:Value} (h:VRel B w φ (.tup cs) u):∃us:Array Value,u=.tuple us/\LRel B w φ cs us.toList:=by
 cases h with
 | tup hl hv=>exact⟨_,rfl,by simpa using hl,λj x v b a=>hv j x v b<|by simpa using a⟩
theorem OF {t:TypeId} {f:Nat} {a v:AV} {u:Value} (h:s8 E.P t a f=some v) (d:VRel B w φ a u):
  ∃r,(Instr.field t u f).run E.P w=.ok r w/\VRel B w φ v r:=by
 unfold s8 at h;split at h
 .rename_i o ft cs hf;unfold j0 at hf;split at hf
  .rename_i fs hu;simp at hf;obtain⟨i,e,rfl,rfl⟩:=hf;obtain⟨us,rfl,g⟩:=KN d;obtain⟨r,b,c⟩:=KM h g;exact⟨r,by simp[Instr.field,e4 hu,e,asAgg,b],c⟩
  cases hf
 cases h
theorem OG {t:TypeId} {x i v:AV} {l ui:Value} (h:s9 E.P t x i=some v) (j:VRel B w φ x l) (g:VRel B w φ i ui):
  ∃r,(Instr.index t l ui).run E.P w=.ok r w/\VRel B w φ v r:=by
 unfold s9 at h;split at h
 .rename_i len e cs hu;split at h
  .rename_i s n hs hn;obtain⟨k,rfl,a⟩:=E0 hn;cases g;obtain⟨us,rfl,m⟩:=KN j;obtain⟨r,c,d⟩:=KM h m;exact⟨r,by simp[Instr.index,asIntOf,e4 hu,a,km hs,c],d⟩
  cases h
 .rename_i s hu;split at h
  .rename_i k n;cases g;cases j;simp at h;obtain⟨b,f,rfl⟩:=h;rw[get?_eq] at f;have a:=iZ f;have c:(⟨s.toArray⟩:ByteArray)[n]?=some b:=(by have d:n<(⟨s.toArray⟩:ByteArray).size:=(by simpa [ByteArray.size] using a);rw[getElem?_pos (⟨s.toArray⟩:ByteArray) n d];have:s[n]=b:=(by simpa [tD a] using f);simp[<-this,ByteArray.getElem_eq_getElem_data]);exact⟨.int .u8 b.toNat,by simp[Instr.index,asIntOf,e4 hu,c],.int _ _⟩
  cases h
 cases h
theorem KP {x:Option AV} {d y n:Nat} (h:F' x d y=some n):(x=none/\n=d)\/(∃k,x=some (.int k n)/\n<=y):=by
 unfold F' at h;split at h
 .simp at h;exact .inl ⟨rfl,h.symm⟩
 .rename_i k m;split at h
  .rename_i hb;simp at h;subst h;exact .inr ⟨k,rfl,by simpa using hb⟩
  cases h
 cases h
def ORl (B:Nat->Prop) (w:World) (φ:cO) (x:Option AV) (u:Option Value):Prop:=
 match x,u with
 | none,none=>True
 | some x,some u=>VRel B w φ x u
 | _,_=>False
theorem ORl.int {k:IntKind} {n:Int} {u:Option Value} (h:ORl B w φ (some<|.int k n) u):u=some (.int k n):=by
 cases u with
 | none=>exact h.elim
 | some u=>have h:VRel B w φ (.int k n) u:=h;cases h;rfl
theorem ORl.none {u:Option Value} (h:ORl B w φ none u):u=none:=by
 cases u with
 | none=>rfl
 | some u=>exact h.elim
theorem IH {P:Program} {w:World} {k:IntKind} {n y:Nat} (c:BoundsCode) (h:n<=y):(Instr.sliceBound (.int k n) y c).run P w=.ok n w:=by simp[Instr.sliceBound,asIntOf,h]
theorem DV {len:Nat} {f:Option Nat} {ccap:Nat} {H A t:Option AV} {l h:Nat} {m:Option Nat} {I i J:Option Value} (G:Bool)
  (s:∀c,f=some c->ccap=c) (Q:len<=ccap) (a:hM len f H A t=some (l,h,m))
  (u:ORl B w φ H I) (y:ORl B w φ A i) (L:ORl B w φ t J):
  ∃g,(Instr.sliceBounds G len ccap I i J).run E.P w=.ok (l,h,g) w/\l<=h/\h<=g/\g<=ccap/\(∀c,m=some c->g - l=c)/\(m=none->g=ccap/\h<=len):=by
 unfold hM at a
 have z:∀n,n<=f.getD len->n<=ccap:=by
  intro n b
  cases f with
  | none=>simp at b;omega
  | some c=>simp at b;have:=s c rfl;omega
 cases t with
 | none=>
  have K:=L.none;subst K;simp only[uC] at a;split at a
  .cases a
  rename_i q M;split at a
  .cases a
  rename_i R O;simp at a;obtain⟨rfl,rfl,rfl⟩:=a
  have N:(∃x,(match i,(none:Option Value) with
    | some v,some _=>Instr.sliceBound v ccap .slice3B
    | some v,none=>Instr.sliceBound v ccap (if G then .sliceAcap else .sliceAlen)
    | none,none=>pure len
    | none,some _=>stuck x:Sem Nat).run E.P w=.ok q w)/\q<=ccap/\(f=none->q<=len):=by
   rcases KP M with⟨rfl,rfl⟩ | ⟨k,rfl,hle⟩
   .have p:=y.none;subst p;exact⟨⟨ "",by simp⟩,Q,λ_=>tE _⟩
   have p:=y.int;subst p;exact⟨⟨ "",by simp[IH _<|z _ hle]⟩,z _ hle,λe=>by subst e;simpa using hle⟩
  obtain⟨⟨_,d⟩,C,D⟩:=N
  rcases KP O with⟨rfl,rfl⟩ | ⟨k,rfl,hle⟩
  .have o:=u.none;subst o;refine⟨ccap,?_,by omega,C,tE _,?_,?_⟩
   .cases i with
    | none=>simp[Instr.sliceBounds] at d ⊢;exact d
    | some v=>simp[Instr.sliceBounds] at d ⊢;rw[d];rfl
   .intro c hc;simp only[tC] at hc;obtain⟨j,r,rfl⟩:=hc;rw[s j r]
   intro b;simp at b;exact⟨rfl,D b⟩
  have o:=u.int;subst o;refine⟨ccap,?_,hle,C,tE _,?_,?_⟩
  .cases i with
   | none=>simp[Instr.sliceBounds] at d ⊢;subst d;simp[IH _ hle]
   | some v=>simp[Instr.sliceBounds] at d ⊢;rw[d];simp[IH _ hle]
  .intro c hc;simp at hc;obtain⟨j,r,rfl⟩:=hc;rw[s j r]
  intro b;simp at b;exact⟨rfl,D b⟩
 | some S=>cases a
theorem II {b off s l h len cb co o ccap a:Nat} {f:Cap} (j:φ b=some (cb,co)) (q:ccap=0\/o=co+off) (_hl:len<=ccap)
  (u:l<=h) (v:h<=a) (x:a<=ccap) (k:∀c,f=.ex c->a - l=c)
  (p:∀d,f=.gr d->d=s/\a=ccap/\(ccap=0\/∃cells t g,w.1[cb]?=some (.cells cells t g)/\co+off+ccap*s<=cells.size)):
  VRel B w φ (.sl b (off+l*s) (h - l) f) (.slice (some (if a=l then⟨cb,o,none⟩ else(⟨cb,o,none⟩:Addr).add (l*s))) (h - l)<|a - l):=by
 by_cases e:a=l
 .rw[if_pos e];exact .sl j (.inl<|by omega) (by omega) k λd _=>.inl<|by omega
 rw[if_neg e,uZ];have y:o=co+off:=q.resolve_left (by omega);refine .sl j (.inr<|by omega) (by omega) k λd m=>?_;obtain⟨rfl,rfl,i⟩:=p d m
 rcases i with i | ⟨cells,t,g,n,r⟩
 .exact .inl (by omega)
 refine .inr ⟨cells,t,g,n,?_⟩;have:(a - l)*d+l*d=a*d:=(by rw[<-vF];congr 1;omega);omega
theorem KQ {s l h ccap d:Nat} {cs:List AV} {g:Option Nat} {a:Addr} {vs:Nat->Value}
  (u:l<=h) (v:h<=d) (_h3:d<=ccap) (f:∀c,g=some c->d - l=c)
  (o:cs≠[]->¬B a.block/\a.spot=none) (m:∀(j:Nat) c,cs[j]?=some c->w.cell? ⟨a.block,a.off+j,none⟩=some (vs j))
  (q:∀(j:Nat) c,cs[j]?=some c->VRel B w cP c (vs j)):
  VRel B w φ (.isl (h - l) (if h - l=0 then [] else eh cs<|l*s) g) (.slice (some (if d=l then a else a.add<|l*s)) (h - l)<|d - l):=by
 by_cases e:h - l=0
 .rw[if_pos e];exact .isl (λ_=>.nilIface) f (by omega) (λe=>absurd rfl e) (λj c b=>by simp at b) λj c b=>by simp at b
 rw[if_neg e,if_neg<|by omega,BA];by_cases n:cs.drop (l*s)=[]
 .rw[n];exact .isl (λ_=>.nilIface) f (by omega) (λe=>absurd rfl e) (λj c b=>by simp at b) λj c b=>by simp at b
 have p:cs≠[]:=λe=>(by subst e;simp at n);obtain⟨i,k⟩:=o p;obtain⟨ab,r,t⟩:=a;simp only at i k m;subst k;rw[uZ];refine .isl (λj=>vs<|l*s+j) f (by omega) (λ_=>⟨i,rfl⟩) (λj c b=>?_) (λj c b=>q _ c<|by simpa using b);simp only[tP];exact m _ c<|by simpa using b
theorem OH {t:TypeId} {x v:AV} {I H J:Option AV} {O:Value} {M L N:Option Value} (h:te E.P t x I H J=some v) (C:VRel B w φ x O)
  (q:ORl B w φ I M) (u:ORl B w φ H L) (y:ORl B w φ J N):
  ∃r,(Instr.sliceAt t O M L N).run E.P w=.ok r w/\VRel B w φ v r:=by
 unfold te at h;split at h
 .rename_i e b off len cap hu
  cases C with
  | sl hp ho hl hxx hg=>
   rename_i cb co o ccap
   have G:∀c,gd cap=some c->ccap=c:=by
    intro c j
    cases cap with
    | ex D=>simp[gd] at j;subst j;exact hxx _ rfl
    | gr z=>simp[gd] at j
   split at h
   .rename_i s l A c hs hb;simp at h;subst h;obtain⟨p,d,f,g,i,k,_⟩:=DV (E:=E) true G hl hb q u y;exact⟨_,by simp[Instr.sliceAt,e4 hu,Instr.slice,d,km hs];split<;>rfl,II hp ho hl f g i (λD e=>by cases e;exact k c rfl) λK e=>by cases e⟩
   .rename_i s l A hs hb;split at h
    .rename_i z;split at h
     .rename_i hz;subst hz;simp at h;subst h;obtain⟨p,d,f,g,i,_,Q⟩:=DV (E:=E) true G hl hb q u y
      exact⟨_,by simp[Instr.sliceAt,e4 hu,Instr.slice,d,km hs];split<;>rfl,
       II hp ho hl f g i (λD e=>by cases e) (λK e=>by cases e;exact⟨rfl,(Q rfl).1,hg _ rfl⟩)⟩
     cases h
    cases h
   cases h
 .rename_i e len cs cap hu
  cases C with
  | isl vs hxx hl hb j hv=>
   rename_i a ccap;split at h
   .rename_i s l A m hs hsb;simp at h;subst h;obtain⟨p,d,f,g,i,k,_⟩:=DV (E:=E) true hxx hl hsb q u y;exact⟨_,by simp[Instr.sliceAt,e4 hu,Instr.slice,d,km hs];split<;>rfl,KQ f g i k hb j hv⟩
   cases h
 .rename_i e hu;cases C;split at h
  .rename_i s x hs hsb;obtain⟨l,A,m⟩:=x;simp at h;subst h;obtain⟨p,d,f,g,i,_,_⟩:=DV (E:=E) (B:=B) (w:=w) (φ:=φ) true (ccap:=0) (by simp) (tE _) hsb q u y;obtain rfl:p=0:=(by omega);obtain rfl:A=0:=(by omega);obtain rfl:l=0:=(by omega);exact⟨.slice none 0 0,by simp[Instr.sliceAt,e4 hu,Instr.slice,d,km hs],.nilsl⟩
  cases h
 .rename_i n e b off hu
  cases C with
  | ptr hp=>
   rename_i cb co;split at h
   .rename_i s l A c hs hb;simp at h;subst h;obtain⟨p,d,f,g,i,k,_⟩:=DV (E:=E) (B:=B) (w:=w) (φ:=φ) false (ccap:=n) (by simp) (tE _) hb q u y
    exact⟨_,by simp[Instr.sliceAt,e4 hu,Instr.sureAddr,d,km hs],
     II (len:=n) hp (.inr rfl) (tE _) f g i (λD e=>by cases e;exact k c rfl) (λK e=>by cases e)⟩
   cases h
 .rename_i n e cs hu
  cases C with
  | iptr vs hb hl j hv=>
   rename_i cb o;split at h
   .rename_i s l A c hs hsb;simp at h;subst h;obtain⟨p,d,f,g,i,k,_⟩:=DV (E:=E) (B:=B) (w:=w) (φ:=φ) false (ccap:=n) (by simp) (tE _) hsb q u y
    exact⟨_,by simp[Instr.sliceAt,e4 hu,Instr.sureAddr,d,km hs],
     KQ (a:=⟨cb,o,none⟩) f g i (λD e=>by cases e;exact k c rfl) (λ_=>⟨hb,rfl⟩) j hv⟩
   cases h
 cases h
end
end Go.Proofs.YthcfmhgihcjloaaGreatDoor.Gx
namespace Go.Proofs.YthcfmhgihcjloaaGreatDoor.Gx
open Go
section
variable {E:Env} {F:Nat->Prop} {φ:cO} {st:St} {w:World} {B:Nat->Prop}
theorem KR (off:Nat):∀{vs:List AV} {us:List Value} {cs:List AV} {cells:Array Value} (i:Nat),LRel B w φ vs us->LRel B w φ cs cells.toList->
  LRel B w φ (jc cs (off+i) vs) ((us.zipIdx i).foldl (λcs (x:Value × Nat)=>cs.setIfInBounds (off+x.2) x.1) cells).toList
 | [],us,cs,cells,i,h,hc=>by rw[h.inv_nil];simpa [jc] using hc
 | x::vs,us,cs,cells,i,h,hc=>by
  obtain⟨u,d,rfl,a,b⟩:=h.inv_cons;simp only[jc,List.zipIdx_cons,List.foldl_cons];have c:LRel B w φ (fm cs (off+i) x) (cells.setIfInBounds (off+i) u).toList:=by rw[ip,vq];exact hc.set (off+i) a
  have:=KR off (i+1) b c
  rwa [<-tP] at this
theorem Gi {g:Nat->Option (Nat × Nat)}:∀{c:List (Nat × AV)} {a:List (Nat × Value)} {cs r:List AV} {cells:Array Value},k5 g cs c=some r->
  CJ B w φ c a->LRel B w φ cs cells.toList->∃b,Instr.fill g cells a=some b/\LRel B w φ r b.toList
 | [],a,cs,r,cells,h,hp,hc=>by
  have:a=[]:=by have:=hp.1;simp at this;exact this
  subst this;simp[k5] at h;subst h;exact⟨cells,rfl,hc⟩
 | (i,v)::c,a,cs,r,cells,h,hp,hc=>by
  cases a with
  | nil=>have:=hp.1;simp at this
  | cons p us=>
   obtain⟨j,u⟩:=p;have d:=hp.1;simp at d;obtain⟨rfl,l⟩:=d;have f:=hp.2;simp only[List.map_cons] at f;obtain⟨m,n⟩:=f.of_cons;unfold k5 at h;split at h
   .cases h
   rename_i off size z;split at h
   .rename_i hcond;simp at hcond;obtain⟨⟨A,C⟩,k⟩:=hcond;have e:=m.cells (Ga<|by simpa using k);have t:u.cells.size=size:=(by have:=e.1;simp at this;omega);have D:cells.size=cs.length:=by have:=hc.1;simp at this;omega
    have o:LRel B w φ (jc cs off<|cellsOf v) ((u.cells.toList.zipIdx 0).foldl (λcs (x:Value × Nat)=>cs.setIfInBounds (off+x.2) x.1) cells).toList:=
     KR off 0 e hc
    obtain⟨b,q,s⟩:=Gi h ⟨by simpa using l,n⟩ o;refine⟨b,?_,s⟩;unfold Instr.fill;rw[z];have y:(u.cells.size≠size||decide (off+u.cells.size > cells.size))=false:=(by simp[t];omega);simp only[y];rw[<-q];congr 1;rw[<-Array.foldl_toList];simp
   cases h
theorem KS {P:Program} {w:World}:∀{a:List Field} {l:List (Nat × Nat)},gg P a=some l->
  (a.mapM λf=>(do pure (f.offset,<-sizeOf f.type):Sem (Nat × Nat))).run P w=.ok l w
 | [],l,h=>by simp[gg] at h;subst h;simp
 | f::a,l,h=>by
  unfold gg at h;split at h
  .rename_i s l' h1 h2;simp at h;subst h;have:=KS (w:=w) h2;simp[km h1] at this ⊢;simp[this]
  cases h
theorem OI {t:TypeId} {p:List (Nat × AV)} {k:List (Nat × Value)} {v:AV} (h:ti E.P t p=some v) (o:CJ B w φ p k):
  ∃r,(Instr.build t k.toArray).run E.P w=.ok r w/\VRel B w φ v r:=by
 unfold ti at h;split at h
 .rename_i z fs hz hu;split at h
  .rename_i l hl;simp at h;obtain⟨cs,g,rfl⟩:=h;obtain⟨c,j,a⟩:=EZ (w:=w) hz;obtain⟨b,d,f⟩:=Gi (B:=B) (w:=w) (φ:=φ) (cells:=c.cells) g o<|(zw a).cells<|DQ a;refine⟨.agg b,?_,VRel.of_list f⟩;have q:Instr.fill (λi=>l[i]?) c.cells k=some b:=(by rw[<-d];congr 1;funext i;simp[get?_eq]);have m:=KS (w:=w) hl;simp[Instr.build,j,e4 hu,vK] at m ⊢;simp[m,q]
  cases h
 .rename_i z n e hz hu;split at h
  .rename_i s hs;simp at h;obtain⟨cs,g,rfl⟩:=h;obtain⟨c,j,a⟩:=EZ (w:=w) hz;obtain⟨b,d,f⟩:=Gi (B:=B) (w:=w) (φ:=φ) (cells:=c.cells) g o<|(zw a).cells<|DQ a;exact⟨.agg b,by simp[Instr.build,j,e4 hu,km hs,d],VRel.of_list f⟩
  cases h
 cases h
theorem IJ (a b:Int):ltI a b=decide (a<b):=by
 unfold ltI;split
 .rename_i a b;rw[tR];simp
 .rename_i a b;simp;omega
 .rename_i a b;simp;omega
 rename_i a b;rw[tR];simp;omega
theorem CM (a b:Int):eqI a b=(a==b):=by
 unfold eqI;split
 .rename_i a b;rw[tR];simp;omega
 .rename_i a b;rw[tR];simp
 rename_i c d;cases a<;>cases b
 .exact absurd rfl (c _ _ rfl)
 .rw[tR];simp
 .rw[tR];simp
 exact absurd rfl (d _ _ rfl)
theorem Gj (k:IntKind) (b:Nat) (h:∀n:Int,-(b:Int)<=n->n<b->k.wrap n=n) (n:Int):oA k b n=k.wrap n:=by
 unfold oA;split
 .rename_i m;split
  .rename_i a;have a:m<b:=(by simpa [vT] using a);exact(h _ (by simp only[Int.ofNat_eq_natCast];omega)<|by simp only[Int.ofNat_eq_natCast];omega).symm
  rfl
 rename_i m;split
 .rename_i a;have a:m<b:=(by simpa [vT] using a);exact(h _ (by omega)<|by omega).symm
 rfl
theorem Gk (k:IntKind) (a:Nat) (h:∀m:Nat,k.wrap (m:Int)=((m % a:Nat):Int)) (n:Int):oB k a n=k.wrap n:=by
 unfold oB;split
 .rename_i m;exact(h m).symm
 rfl
theorem KT (k:IntKind) (n:Int):o5 k n=k.wrap n:=by
 cases k
 .exact Gj .i8 128 (λn a b=>by simp[IntKind.wrap,IntKind.signed,IntKind.bits];split<;>omega) n
 .exact Gj .i16 32768 (λn a b=>by simp[IntKind.wrap,IntKind.signed,IntKind.bits];split<;>omega) n
 .exact Gj .i32 2147483648 (λn a b=>by simp[IntKind.wrap,IntKind.signed,IntKind.bits];split<;>omega) n
 .exact Gj .i64 9223372036854775808 (λn a b=>by simp[IntKind.wrap,IntKind.signed,IntKind.bits];split<;>omega) n
 .exact Gk .u8 256 (λm=>by simp[IntKind.wrap,IntKind.signed,IntKind.bits]) n
 .exact Gk .u16 65536 (λm=>by simp[IntKind.wrap,IntKind.signed,IntKind.bits]) n
 .exact Gk .u32 4294967296 (λm=>by simp[IntKind.wrap,IntKind.signed,IntKind.bits]) n
 exact Gk .u64 18446744073709551616 (λm=>by simp[IntKind.wrap,IntKind.signed,IntKind.bits]) n
theorem Gl {P:Program} {e:BinOp} {t:TypeId} {x y:Operand} {a b:Value} (h:∀c d,¬(a=.agg c/\b=.agg d)) (f:¬(a=.nilIface/\b=.nilIface)):
  (eqGuard e t x y a b).run P w=.ok () w:=by
 unfold eqGuard
 cases e<;>try rfl
 all_goals
  cases a<;>first
   | rfl
   | (cases b<;>first | rfl | exact absurd ⟨rfl,rfl⟩ f | exact absurd ⟨rfl,rfl⟩<|h _ _)
theorem OJ {P:Program} {c:BinOp} {t:TypeId} {k:IntKind} {a b:Int} {v:AV} (h:ua c k a b=some v):
  ∃r,(binOp c t (.int k a)<|.int k b).run P w=.ok r w/\VRel B w φ v r:=by
 cases c<;>simp[ua] at h<;>subst h
 all_goals simp only[binOp,ne_eq,not_true_eq_false,if_false,Op.intArith,Op.intCmp,Sem.run_pure]
 all_goals refine⟨_,rfl,?_⟩
 all_goals first
  | (rw[KT];exact .int _ _)
  | (rw[IJ];exact .bool _)
  | (rw[CM];exact .bool _)
  | skip
 .rw[IJ];have:(!decide (b<a))=decide (a<=b):=by rw[tR];simp
  rw[this];exact .bool _
 rw[IJ];have:(!decide (a<b))=decide (a>=b):=by rw[tR];simp
 rw[this];exact .bool _
end
end Go.Proofs.YthcfmhgihcjloaaGreatDoor.Gx
namespace Go.Proofs.YthcfmhgihcjloaaGreatDoor.Gx
open Go
section
variable {E:Env} {F:Nat->Prop} {φ:cO} {st:St} {w:World} {B:Nat->Prop}
theorem zS {b c:Bool} (h:b=c):VRel B w φ (.bool b) (.bool c):=by rw[h];exact .bool c
theorem OL {P:Program} {c:BinOp} {t:TypeId} {a b:List UInt8} {v:AV} (h:ub c a b=some v):
  ∃r,(binOp c t (.string ⟨a.toArray⟩)<|.string ⟨b.toArray⟩).run P w=.ok r w/\VRel B w φ v r:=by
 cases c<;>simp[ub] at h
 all_goals (subst h;simp only[binOp,Op.stringOp,ByteArray.toList_mk,Sem.run_pure];exact⟨_,rfl,zS<|by simp⟩)
theorem KU {P:Program} {c:BinOp} {t:TypeId} {d e:Operand} {x y v:AV} {a b:Value} (h:kb P c t d e x y=some v) (f:VRel B w φ x a) (g:VRel B w φ y b):
  ∃r,(do eqGuard c t d e a b;binOp c t a b:Sem Value).run P w=.ok r w/\VRel B w φ v r:=by
 unfold kb at h;split at h
 .rename_i a' b' h1 h2;rw[IA h1 f,IA h2 g];split at h
  .rename_i r hr;exact⟨r,Gb _ hr w,zw h⟩
  cases h
 cases h
theorem wR {P:Program} {t:TypeId} {a b:Value} {r:Bool} (h:∀d,(Op.equalIn (d+1) t a b).run P w=.ok r w):(Op.equal t a b).run P w=.ok r w:=h 9999
theorem KV {P:Program} {d:TypeDesc} {t:TypeId} {x y:AV} {a b:Value} {r:Bool} (f:P.underlying t=some d) (h:wt d x y=some r) (g:VRel B w φ x a) (i:VRel B w φ y b):
  (Op.equal t a b).run P w=.ok r w/\(∀c d,¬(a=.agg c/\b=.agg d))/\¬(a=.nilIface/\b=.nilIface)/\
  (∀e,e=.eql\/e=.neq->binOp e t a b=(match e with | .eql=>do pure (.bool<|<-Op.equal t a b) | _=>do pure (.bool<|!(<-Op.equal t a b)))):=by
 unfold wt at h
 split at h<;>try (cases h;done)
 all_goals
  split at h<;>first
   | (cases h;done)
   | (simp at h;subst h
      cases g<;>cases i<;>
      exact⟨wR λd=>by simp[Op.equalIn,e4 f],by simp,by simp,by rintro e (rfl | rfl)<;>rfl⟩)
theorem OM {P:Program} {i:BinOp} {t:TypeId} {m n:Operand} {x y v:AV} {a b:Value} (h:tu i (P.underlying t) x y=some v) (k:VRel B w φ x a) (l:VRel B w φ y b):
  ∃r,(do eqGuard i t m n a b;binOp i t a b:Sem Value).run P w=.ok r w/\VRel B w φ v r:=by
 unfold tu at h;split at h
 .cases h
 rename_i d j;split at h
 .rename_i b' hb;simp at h;subst h;obtain⟨c,e,f,g⟩:=KV j hb k l;exact⟨.bool b',by simp[Gl e f,g .eql<|.inl rfl,c],.bool _⟩
 .rename_i b' hb;simp at h;subst h;obtain⟨c,e,f,g⟩:=KV j hb k l;exact⟨.bool<|!b',by simp[Gl e f,g .neq<|.inr rfl,c],.bool _⟩
 cases h
theorem wS {a b:IntKind} (h:Nat.beq (ww a) (ww b)=true):a=b:=by
 cases a<;>cases b<;>first | rfl | (simp[ww] at h)
theorem rngBin_sound {a:BinOp} {d c n b:Int} {r:Bool} {k:IntKind} (h:rngBin d c b a=some r) (e:d<=n) (f:n<=c):ua a k n b=some (.bool r):=by
 cases a<;>simp only[rngBin,IJ] at h<;>first | (cases h;done) | skip
 all_goals simp only[ua,IJ,CM]
 all_goals repeat' split at h
 all_goals first | (cases h;done) | skip
 all_goals simp_all
 all_goals omega
theorem neBin_sound {d:BinOp} {f:List (List UInt8)} {a b:List UInt8} {v:AV} (h:neBin d f b=some v) (g:a∉f):ub d a b=some v/\ub d b a=some v:=by
 unfold neBin at h;split at h
 .rename_i hany;have c:a≠b:=by rintro rfl;rw[List.any_eq_true] at hany;obtain⟨x,i,e⟩:=hany;simp at e;subst e;exact g i
  split at h
  .simp at h;subst h;simp[ub,c,Ne.symm c]
  .simp at h;subst h;simp[ub,c,Ne.symm c]
  cases h
 cases h
theorem ON {P:Program} {g:BinOp} {t:TypeId} {i l:Operand} {x y v:AV} {a b:Value} (h:Ct P g t i l x y=some v) (e:VRel B w φ x a) (f:VRel B w φ y b):
  ∃r,(do eqGuard g t i l a b;binOp g t a b:Sem Value).run P w=.ok r w/\VRel B w φ v r:=by
 unfold Ct at h;split at h
 .rename_i k a' j b';split at h
  .rename_i v' hk hv;simp at h;subst h;obtain rfl:=wS hk;cases e;cases f;obtain⟨r,c,d⟩:=OJ (P:=P) (t:=t) (w:=w) (B:=B) (φ:=φ) hv;exact⟨r,by simp[Gl,c],d⟩
  exact KU h e f
 .cases e;cases f;obtain⟨r,c,d⟩:=OL (P:=P) (t:=t) (w:=w) (B:=B) (φ:=φ) h;exact⟨r,by simp[Gl,c],d⟩
 .rename_i k lo hi j b';split at h
  .rename_i v' hk hv;simp at h;subst h;have m:=wS hk;subst m
   cases e with
   | oint g1 g2=>cases f;obtain⟨r,c,d⟩:=OJ (P:=P) (t:=t) (w:=w) (B:=B) (φ:=φ)<|rngBin_sound (k:=k) hv g1 g2;exact⟨r,by simp[Gl,c],d⟩
  cases h
 .cases e with
  | ostr hn=>cases f;obtain⟨r,c,d⟩:=OL (P:=P) (t:=t) (w:=w) (B:=B) (φ:=φ) (neBin_sound h hn).1;exact⟨r,by simp[Gl,c],d⟩
 .cases f with
  | ostr hn=>cases e;obtain⟨r,c,d⟩:=OL (P:=P) (t:=t) (w:=w) (B:=B) (φ:=φ) (neBin_sound h hn).2;exact⟨r,by simp[Gl,c],d⟩
 split at h
 .rename_i v' hv;simp at h;subst h;exact OM hv e f
 exact KU h e f
theorem OO {P:Program} {c:UnOp} {x v:AV} {a:Value} (h:Is P c x=some v) (b:VRel B w φ x a):∃r,(Op.unary c a).run P w=.ok r w/\VRel B w φ v r:=by
 unfold Is at h;split at h
 .simp at h;subst h;cases b;exact⟨_,rfl,.bool _⟩
 split at h
 .rename_i a' ha;rw[IA ha b];split at h
  .rename_i r hr;exact⟨r,Gb _ hr w,zw h⟩
  cases h
 cases h
theorem OP {P:Program} {s d:TypeId} {x v:AV} {a:Value} (h:wB P s d x=some v) (b:VRel B w φ x a):∃r,(convert s d a).run P w=.ok r w/\VRel B w φ v r:=by
 unfold wB at h;split at h
 .split at h
  .rename_i ds k hs hd;simp at h;subst h;cases b;exact⟨_,by simp[convert,e4 hs,e4 hd,Conv.intToInt];rfl,by rw[KT];exact .int _ _⟩
  cases h
 .split at h
  .rename_i ds hs hd;simp at h;subst h;cases b;exact⟨_,by simp[convert,e4 hs,e4 hd],.str _⟩
  cases h
 cases h
theorem KW {P:Program} {f:Array TypeId->TypeId->Array Value->Sem Value} {a:Array TypeId} {t:TypeId} {xs:List AV} {v:AV} {us:List Value} (h:kc P f a t xs=some v)
  (b:LRel B w φ xs us):∃r,(f a t us.toArray).run P w=.ok r w/\VRel B w φ v r:=by
 unfold kc at h;split at h
 .rename_i vs hvs;rw[Iz hvs b];split at h
  .rename_i r hr;exact⟨r,Gb _ hr w,zw h⟩
  cases h
 cases h
theorem se {P:Program} {r:Nat} {o:Obj} (h:w.1[r]?=some o) (a:∀c t f,o≠.cells c t f):(getObj r).run P w=.ok o w:=by
 cases o<;>first | exact absurd rfl (a _ _ _) | simp[getObj,Sem.run,h]
theorem CN {P:Program} {r:Nat} {o o':Obj} (h:w.1[r]?=some o) (a:∀c t f,o≠.cells c t f):(setObj r o').run P w=.ok () (bZ w r o'):=by
 cases o<;>first | exact absurd rfl (a _ _ _) | simp[setObj,Sem.run,h,bZ]
theorem OQ (l:Sess E F φ st w) {g:Array TypeId} {t:TypeId} {x v:AV} {us:List Value} {a:Value} {y:TypeId} (d:g[0]?=some t) (h:ws E.P st t x=some v)
  (f:VRel (Bd F φ st) w φ x a):∃r,(Builtin.len_ g y (a::us).toArray).run E.P w=.ok r w/\VRel (Bd F φ st) w φ v r:=by
 unfold ws at h;have c:((a::us).toArray:Array Value)[0]?=some a:=by simp
 split at h
 .rename_i s hu;simp at h;subst h;cases f;have m:(⟨s.toArray⟩:ByteArray).size=s.length:=by simp[ByteArray.size]
  exact⟨.int .i64 s.length,by simp only[Builtin.len_,d,c];simp[e4 hu,goInt,m],.int _ _⟩
 .rename_i n e hu;simp at h;subst h;exact⟨.int .i64 n,by simp only[Builtin.len_,d,c];simp[e4 hu,goInt],.int _ _⟩
 .rename_i hu;simp at h;subst h;cases f;exact⟨.int .i64 0,by simp only[Builtin.len_,d,c];simp[e4 hu,goInt],.int _ _⟩
 .rename_i n _ hu;simp at h;subst h;cases f;exact⟨.int .i64 n,by simp only[Builtin.len_,d,c];simp[e4 hu,goInt],.int _ _⟩
 .rename_i n _ _ hu;simp at h;subst h;cases f;exact⟨.int .i64 n,by simp only[Builtin.len_,d,c];simp[e4 hu,goInt],.int _ _⟩
 .rename_i hu;simp at h;subst h;cases f;exact⟨.int .i64 0,by simp only[Builtin.len_,d,c];simp[e4 hu,goInt],.int _ _⟩
 .rename_i k e b hu;rw[get?_eq] at h;split at h
  .rename_i es clock hb;simp at h;subst h
   cases f with
   | map hp=>rename_i cb co;obtain⟨ces,i,j,_⟩:=l.blk b _ cb co hb hp;exact⟨.int .i64 es.length,by simp only[Builtin.len_,d,c];simp[e4 hu,se i,goInt,j],.int _ _⟩
  cases h
 cases h
theorem wT (a b:List UInt8):((⟨a.toArray⟩:ByteArray)==⟨b.toArray⟩)=(a==b):=by show(a.toArray==b.toArray)=(a==b);rw[tR];simp
theorem DW {P:Program} {a:TypeId} {k:AV} (h:dr P a k=true):
  (∃s,k=.str s/\P.underlying a=some .string)\/(∃j n,k=.int j n/\P.underlying a=some (.int j))\/(∃b,k=.bool b/\P.underlying a=some .bool):=by
 unfold dr at h;split at h
 .rename_i hu;exact .inl ⟨_,rfl,hu⟩
 .rename_i j k' n hu;simp at h;subst h;exact .inr<|.inl ⟨_,_,rfl,hu⟩
 .rename_i hu;exact .inr<|.inr ⟨_,rfl,hu⟩
 cases h
theorem KX {P:Program} {a:TypeId} {k:AV} {u:Value} (h:dr P a k=true) (c:VRel B w φ k u) (e:Bool):(Instr.checkKey e 10000 a u).run P w=.ok () w:=by
 have key:∀n,(Instr.checkKey e (n+1) a u).run P w=.ok () w:=by
  intro n
  rcases DW h with⟨s,rfl,hu⟩ | ⟨j,m,rfl,hu⟩ | ⟨b,rfl,hu⟩<;>cases c<;>simp[Instr.checkKey,e4 hu]
 exact key 9999
theorem KY {P:Program} {f:TypeId} {d:TypeDesc} {k:AV} {u:Value} (a:P.underlying f=some d) (h:dr P f k=true) (l:VRel B w φ k u):
  ∀(es:List AEnt) (ces:List MapEntry) (i:Nat),es.length=ces.length->(∀(j:Nat) e c,es[j]?=some e->ces[j]?=some c->VRel B w φ e.key c.key/\VRel B w φ e.val c.val/\e.born=c.born)->
  es.all (λe=>dr P f e.key)=true->
  match jw k es i with
  | some (n,v)=>∃uv,Instr.findNow d u ces i=some (some (n,uv))/\VRel B w φ v uv
  | none=>Instr.findNow d u ces i=some none
 | [],ces,i,hl,_,_=>by have:ces=[]:=tU hl.symm;subst this;simp[jw,Instr.findNow]
 | e::es,ces,i,hl,hr,ha=>by
  cases ces with
  | nil=>simp at hl
  | cons c ces=>
   simp at ha;obtain⟨g,r⟩:=ha;obtain⟨q,z,G⟩:=hr 0 e c rfl rfl;have y:=KY a h l es ces (i+1) (by simpa using hl) (λj e c x t=>hr (j+1) e c (by simpa using x)<|by simpa using t)<|by simpa using r
   have o:Instr.sameNow d u c.key=some (sameKey k e.key):=by
    obtain⟨D,ev,eb⟩:=e;obtain⟨A,C,cb⟩:=c;simp only at q g
    rcases DW h with⟨s,rfl,hu⟩ | ⟨j,m,rfl,hu⟩ | ⟨b,rfl,hu⟩<;>
     rcases DW g with⟨s',rfl,hu'⟩ | ⟨j',m',rfl,hu'⟩ | ⟨b',rfl,hu'⟩<;>
     (rw[hu] at a hu';cases a;cases hu'<;>cases l<;>cases q<;>simp[Instr.sameNow,sameKey,wT])
   unfold jw
   cases p:sameKey k e.key with
   | true=>simp only[if_true];exact⟨c.val,by simp[Instr.findNow,o,p],z⟩
   | false=>simp only[tM,if_false];rw[show Instr.findNow d u (c::ces) i=Instr.findNow d u ces (i+1) by simp[Instr.findNow,o,p]];exact y
theorem IK {x y:AV} {u v:Value} (e:VRel B w φ x u) (f:VRel B w φ y v):VRel B w φ (.tup [x,y]) (.tuple #[u,v]):=
 .tup rfl (λj a b c d=>by
  match j with
  | 0=>simp at c d;subst c;subst d;exact e
  | 1=>simp at c d;subst c;subst d;exact f
  | j+2=>simp at c)
end
end Go.Proofs.YthcfmhgihcjloaaGreatDoor.Gx
namespace Go.Proofs.YthcfmhgihcjloaaGreatDoor.Gx
open Go
section
variable {E:Env} {F:Nat->Prop} {φ:cO} {st:St} {w:World}
theorem IL (b:Sess E F φ st w) {fr:Fr} {tmps:Array Value} (c:LRel (Bd F φ st) w φ fr.tm tmps.toList) {x:Option Operand} {v:Option AV} (h:zO E fr x=some v):
  ORl (Bd F φ st) w φ v (x.map<|bR tmps):=by
 cases x with
 | none=>simp[zO] at h;subst h;trivial
 | some x=>simp[zO] at h;obtain⟨a,d,rfl⟩:=h;exact fC b c d
def BD (P:Program) (w:World) (B:Nat->Prop) (φ:cO) (s:Sem Value) (v:AV):Prop:=∃u,s.run P w=.ok u w/\VRel B w φ v u
theorem zy {P:Program} {B:Nat->Prop} {s:Sem Value} {v:AV} (h:BD P w B φ s v):
  ∃u,(do pure (Next.value<|<-s):Sem Next).run P w=.ok (.value u) w/\VRel B w φ v u:=by
 obtain⟨u,a,b⟩:=h;exact⟨u,by simp[a],b⟩
theorem OR (k:Sess E F φ st w) {fr:Fr} {tmps:Array Value} (l:LRel (Bd F φ st) w φ fr.tm tmps.toList) {c:Call} {y:TypeId} {v:AV} (h:ej c E fr st=some v):
  ∃u,(do let d <-resolve (bR tmps) c y;invoke d.target d.args:Sem Next).run E.P w=.ok (.value u) w/\VRel (Bd F φ st) w φ v u:=by
 obtain⟨callee,args,argTypes⟩:=c;unfold ej at h
 cases callee with
 | value f=>simp[iJ] at h
 | invoke r m=>simp[iJ] at h
 | builtin b=>
  simp only at h;have j:∀{vs:List AV},oO E fr args.toList=some vs->LRel (Bd F φ st) w φ vs (args.map<|bR tmps).toList:=by intro vs o;have:=DU k l o;simpa using this
  cases b<;>simp only[ei,iJ] at h<;>first | (cases h;done) | skip
  .
   unfold wG at h;split at h
   .rename_i x xs t i ht;obtain⟨u,us,n,p,_⟩:=(j i).inv_cons;obtain⟨r,a,g⟩:=OQ k (us:=us) (y:=y) ht h p;refine⟨r,?_,g⟩;have e:args.map (bR tmps)=(u::us).toArray:=(by rw[<-n]);simp only[resolve,e];simp[invoke,builtin,a]
   cases h
  .unfold Cx at h;simp only[tL] at h;obtain⟨xs,i,h⟩:=h;obtain⟨r,a,g⟩:=KW h<|j i;exact⟨r,by simp[resolve,invoke,builtin,Builtin.max_] at a ⊢;simp[a],g⟩
  unfold Cw at h;simp only[tL] at h;obtain⟨xs,i,h⟩:=h;obtain⟨r,a,g⟩:=KW h<|j i;exact⟨r,by simp[resolve,invoke,builtin,Builtin.min_] at a ⊢;simp[a],g⟩
theorem KZ (g:Sess E F φ st w) {fr:Fr} {tmps:Array Value} (k:LRel (Bd F φ st) w φ fr.tm tmps.toList) {o:Oper} {v:AV} (h:dt o.op E fr st=some v):
  ∃u,(execOp (bR tmps) o).run E.P w=.ok (.value u) w/\VRel (Bd F φ st) w φ v u:=by
 obtain⟨O,G,ty,V,N,Q⟩:=o;simp only at h
 cases G<;>simp only[dt,iJ] at h<;>first | (cases h;done) | skip
 case move x=>exact⟨_,rfl,fC g k h⟩
 case assign x=>exact⟨_,rfl,fC g k h⟩
 case pick c a b=>
  unfold wD at h;split at h
  .rename_i a' b' q z h3;simp at h;subst h;have A:=fC g k q;generalize p:bR tmps c=C at A;cases A;exact⟨bR tmps a,by simp[execOp,p,asBool],fC g k z⟩
  .rename_i a' b' q z h3;simp at h;subst h;have A:=fC g k q;generalize p:bR tmps c=C at A;cases A;exact⟨bR tmps b,by simp[execOp,p,asBool],fC g k h3⟩
  cases h
 case build t J=>
  unfold ue at h;simp only[tL] at h;obtain⟨ps,M,h⟩:=h;obtain⟨r,q,z⟩:=OI h<|IG g k M;refine zy ⟨r,?_,z⟩;have e:(J.toList.map fun(i,x)=>(i,bR tmps x)).toArray=J.map fun(i,x)=>(i,bR tmps x):=by apply vw;simp
  rw[<-e];exact q
 case load t a=>
  unfold o6 at h;split at h
  .rename_i a' m;exact zy<|KL g h<|fC g k m
  cases h
 case nilCheck x=>
  unfold Cu at h;split at h
  .rename_i b o' n;simp at h;subst h;have l:=fC g k n;generalize p:bR tmps x=C at l;have D:=l;cases l;exact⟨_,by simp[execOp,p],D⟩
  .rename_i cs n;simp at h;subst h;have l:=fC g k n;generalize p:bR tmps x=C at l;have D:=l;cases l;exact⟨_,by simp[execOp,p],D⟩
  .rename_i f a c n;simp at h;subst h;have l:=fC g k n;generalize p:bR tmps x=C at l;have D:=l;cases l;exact⟨_,by simp[execOp,p],D⟩
  cases h
 case binOp G t x y W=>
  unfold Cv at h;split at h
  .rename_i a b m hb;exact zy<|ON h (fC g k m)<|fC g k hb
  cases h
 case unOp G t x=>unfold It at h;simp only[tL] at h;obtain⟨a,m,h⟩:=h;exact zy<|OO h<|fC g k m
 case convert s d x=>unfold wE at h;simp only[tL] at h;obtain⟨a,m,h⟩:=h;exact zy<|OP h<|fC g k m
 case makeFunc fn a c=>
  unfold wF at h;split at h
  .rename_i f a' c' m A;simp at h;subst h;have q:=DU g k m;have z:=DU g k A;refine⟨.func (.func f) (a.map<|bR tmps)<|c.map<|bR tmps,by simp[execOp,Instr.makeFunc],?_⟩
   exact .func (by have:=q.1;simpa using this) (by have:=z.1;simpa using this)
    (λj x v n l=>q.2 j x v n<|by simpa using l) (λj x v n l=>z.2 j x v n<|by simpa using l)
  cases h
 case slice t x T R U=>
  unfold ug at h;split at h
  .rename_i x' lo' hi' mx' n hlo hhi hmx;exact zy<|OH h (fC g k n) (IL g k hlo) (IL g k hhi)<|IL g k hmx
  cases h
 case fieldAddr t x f=>
  unfold uh at h;split at h
  .rename_i a m;exact zy<|OD h<|fC g k m
  cases h
 case field t x f=>unfold ui at h;simp only[tL] at h;obtain⟨a,m,h⟩:=h;exact zy<|OF h<|fC g k m
 case indexAddr t x i=>
  unfold uj at h;split at h
  .rename_i a b m hb;exact zy<|OE h (fC g k m)<|fC g k hb
  cases h
 case index t x i=>
  unfold um at h;split at h
  .rename_i a b m hb;exact zy<|OG h (fC g k m)<|fC g k hb
  cases h
 case extract t i=>
  unfold lq at h;split at h
  .rename_i vs n;have l:=fC g k n;generalize p:bR tmps t=C at l;obtain⟨us,rfl,H⟩:=KO l;rw[get?_eq] at h;have S:=iZ h;have I:i<us.size:=(by have:=H.1;simp at this;omega);have K:us.toList[i]?=some us[i]:=(by simp[I]);have L:us[i]?=some us[i]:=(by simp[I]);exact⟨us[i],by simp[execOp,p,Instr.extract,L],H.2 i v _ h K⟩
  cases h
 case call c=>exact OR g k h
end
