import Derived.Deep.AppendLies
import Derived.WalkSpells
import Derived.Deep.Cut
import Derived.Great.BuildSlice
import Derived.Test.YthcfmhgihcjloaaGreatDoorPk05
namespace Go.Proofs.YthcfmhgihcjloaaGreatDoor
open Go Go.RowKit Tryz
def Keeps (A:Nat->Prop) (w w':World):Prop:=∀b,A b->w'.1[b]?=w.1[b]?
theorem Keeps.cell {A:Nat->Prop} {w w':World} (h:Keeps A w w') {b o:Nat} (d:A b):w'.cell? ⟨b,o,none⟩=w.cell? ⟨b,o,none⟩:=by unfold World.cell?;rw[show ({ block:=b,off:=o,spot:=none }:Addr).block=b from rfl,h b d]
theorem Keeps.range {A:Nat->Prop} {w w':World} (h:Keeps A w w') {b o:Nat} {cs:List Value} (d:A b) (f:w.rangeAt b o cs):w'.rangeAt b o cs:=
 λj v hv=>(h.cell d).trans<|f j v hv
theorem Keeps.trans {A:Nat->Prop} {w w' f:World} (h:Keeps A w w') (g:Keeps A w' f):Keeps A w f:=λb d=>(g b d).trans<|h b d
theorem Keeps.mono {A A':Nat->Prop} {w w':World} (h:Keeps A' w w') (d:∀b,A b->A' b):Keeps A w w':=λb f=>h b<|d b f
theorem Keeps.refl (A:Nat->Prop) (w:World):Keeps A w w:=λ_ _=>rfl
theorem QR {w w':World} {B:Nat} (h:Below B w w'):Keeps (·<B) w w':=λb d=>h.block b d
def SlA (w:World) (A:Nat->Prop) (v:Value) (xs:List Int):Prop:=
 cB xs/\xs.length<=549755813888/\∃q cap,v=.slice q xs.length cap/\xs.length<=cap/\(xs=[]\/∃b o,q=some ⟨b,o,none⟩/\A b/\∀i,i<xs.length->w.cell? ⟨b,o+i,none⟩=some (.int .u32<|xs.getD i 0))
theorem SlA.keep {w w':World} {A A':Nat->Prop} (j:Keeps A w w') (f:∀b,A b->A' b) {v:Value} {xs:List Int} (h:SlA w A v xs):SlA w' A' v xs:=by obtain⟨h1,h2,q,cap,h3,h4,h5⟩:=h;refine⟨h1,h2,q,cap,h3,h4,h5.imp id ?_⟩;rintro⟨b,o,e,d,g⟩;exact⟨b,o,e,f b d,λi hi=>(j.cell d).trans<|g i hi⟩
theorem SlA.ok {w:World} {A:Nat->Prop} (d:∀b,A b->b<w.1.size) {v:Value} {xs:List Int} (h:SlA w A v xs):Sl w v xs:=by obtain⟨h1,h2,q,cap,h3,h4,h5⟩:=h;refine⟨h1,h2,q,cap,h3,h4,h5.imp id ?_⟩;rintro⟨b,o,e,g,f⟩;exact⟨b,o,e,d b g,f⟩
theorem Sl.toA {w:World} {v:Value} {xs:List Int} (h:Sl w v xs):SlA w (·<w.1.size) v xs:=h
def ExA (w:World) (A:Nat->Prop):Ex->Nd->Prop
 | .non,_=>False
 | .mk k f ng nu de m n ar,d=>(d.k=k/\d.f=f/\d.neg=ng/\d.m=m/\d.sn=n)/\SlA w A (.slice d.aq d.an d.ac) nu/\SlA w A (.slice d.cq d.cn d.cc) de/\nu.length<=1048576/\de.length<=1048576/\n<=1099511627776/\
  (n=0\/∃b o,d.sq=some ⟨b,o,none⟩/\A b/\∃ds:Nat->Nd,∀i,i<n->NdAt w b (o+i*7) (ds i)/\ExA w A (ar i) (ds i))
theorem NdAt.keep {w w':World} {A:Nat->Prop} {b o:Nat} {d:Nd} (h:NdAt w b o d) (g:Keeps A w w') (f:A b):NdAt w' b o d:=
 ⟨(g.cell f).trans h.h0,(g.cell f).trans h.h1,(g.cell f).trans h.h2,(g.cell f).trans h.h3,(g.cell f).trans h.h4,(g.cell f).trans h.h5,(g.cell f).trans h.h6⟩
theorem ExA.keep {w w':World} {A A':Nat->Prop} (j:Keeps A w w') (g:∀b,A b->A' b):∀{x:Ex} {d:Nd},ExA w A x d->ExA w' A' x d:=by
 intro x
 induction x with
 | non=>exact λh=>h.elim
 | mk k f ng nu de m n ar ih=>intro d h;unfold ExA at h ⊢;obtain⟨h1,h2,h3,h4,h5,h6,h7⟩:=h;refine⟨h1,h2.keep j g,h3.keep j g,h4,h5,h6,h7.imp id ?_⟩;rintro⟨b,o,e,r,t,q⟩;exact⟨b,o,e,g b r,t,λi hi=>⟨(q i hi).1.keep j r,ih i (q i hi).2⟩⟩
theorem ExA.ok {w:World} {A:Nat->Prop} (g:∀b,A b->b<w.1.size):∀{x:Ex} {d:Nd},ExA w A x d->ExOk w x d:=by
 intro x
 induction x with
 | non=>exact λh=>h.elim
 | mk k f ng nu de m n ar ih=>intro d h;unfold ExA at h;unfold ExOk;obtain⟨h1,h2,h3,h4,h5,h6,h7⟩:=h;refine⟨h1,h2.ok g,h3.ok g,h4,h5,h6,h7.imp id ?_⟩;rintro⟨b,o,e,r,q,j⟩;exact⟨b,o,e,g b r,q,λi hi=>⟨(j i hi).1,ih i (j i hi).2⟩⟩
theorem ExOk.toA {w:World}:∀{x:Ex} {d:Nd},ExOk w x d->ExA w (·<w.1.size) x d:=by
 intro x
 induction x with
 | non=>exact λh=>h.elim
 | mk k f ng nu de m n ar ih=>intro d h;unfold ExOk at h;unfold ExA;obtain⟨h1,h2,h3,h4,h5,h6,h7⟩:=h;refine⟨h1,h2.toA,h3.toA,h4,h5,h6,h7.imp id ?_⟩;rintro⟨b,o,e,q,j,g⟩;exact⟨b,o,e,q,j,λi hi=>⟨(g i hi).1,ih i (g i hi).2⟩⟩
def PtA (w:World) (A:Nat->Prop) (p:Pt) (d:Va):Prop:=
 d.m=p.m/\d.g=p.g/\SlA w A (.slice d.aq d.an d.ac) p.nu/\SlA w A (.slice d.cq d.cn d.cc) p.de/\p.nu.length<=1048576/\p.de.length<=1048576
theorem PtA.keep {w w':World} {A A':Nat->Prop} (g:Keeps A w w') (f:∀b,A b->A' b) {p:Pt} {d:Va} (h:PtA w A p d):PtA w' A' p d:=
 ⟨h.1,h.2.1,h.2.2.1.keep g f,h.2.2.2.1.keep g f,h.2.2.2.2⟩
theorem PtA.ok {w:World} {A:Nat->Prop} (f:∀b,A b->b<w.1.size) {p:Pt} {d:Va} (h:PtA w A p d):PtOk w p d:=
 ⟨h.1,h.2.1,h.2.2.1.ok f,h.2.2.2.1.ok f,h.2.2.2.2⟩
def BdA (w:World) (A:Nat->Prop) (p:Bd) (d:Bi):Prop:=d.m=p.m/\ExA w A p.x d.nd
theorem BdA.keep {w w':World} {A A':Nat->Prop} (g:Keeps A w w') (f:∀b,A b->A' b) {p:Bd} {d:Bi} (h:BdA w A p d):BdA w' A' p d:=⟨h.1,h.2.keep g f⟩
theorem BdA.ok {w:World} {A:Nat->Prop} (f:∀b,A b->b<w.1.size) {p:Bd} {d:Bi} (h:BdA w A p d):BdOk w p d:=⟨h.1,h.2.ok f⟩
theorem VaAt.keep {w w':World} {A:Nat->Prop} {b o:Nat} {d:Va} (h:VaAt w b o d) (g:Keeps A w w') (f:A b):VaAt w' b o d:=
 ⟨(g.cell f).trans h.h0,(g.cell f).trans h.h1,(g.cell f).trans h.h2,(g.cell f).trans h.h3⟩
theorem BiAt.keep {w w':World} {A:Nat->Prop} {b o:Nat} {d:Bi} (h:BiAt w b o d) (g:Keeps A w w') (f:A b):BiAt w' b o d:=
 ⟨(g.cell f).trans h.h0,(g.cell f).trans h.h1,(g.cell f).trans h.h2,(g.cell f).trans h.h3,(g.cell f).trans h.h4,(g.cell f).trans h.h5,(g.cell f).trans h.h6,(g.cell f).trans h.h7⟩
def PtsA (w:World) (A:Nat->Prop) (q:Option Addr) (n:Nat) (ps:Nat->Pt):Prop:=
 n<=1099511627776/\(n=0\/∃b o,q=some ⟨b,o,none⟩/\A b/\∃ds:Nat->Va,∀i,i<n->VaAt w b (o+i*4) (ds i)/\PtA w A (ps i) (ds i))
theorem PtsA.keep {w w':World} {A A':Nat->Prop} (g:Keeps A w w') (d:∀b,A b->A' b) {q:Option Addr} {n:Nat} {ps:Nat->Pt} (h:PtsA w A q n ps):PtsA w' A' q n ps:=by refine⟨h.1,h.2.imp id ?_⟩;rintro⟨b,o,e,j,k,f⟩;exact⟨b,o,e,d b j,k,λi hi=>⟨(f i hi).1.keep g j,(f i hi).2.keep g d⟩⟩
theorem PtsA.ok {w:World} {A:Nat->Prop} (d:∀b,A b->b<w.1.size) {q:Option Addr} {n:Nat} {ps:Nat->Pt} (h:PtsA w A q n ps):PtsOk w q n ps:=by refine⟨h.1,h.2.imp id ?_⟩;rintro⟨b,o,e,j,g,f⟩;exact⟨b,o,e,d b j,g,λi hi=>⟨(f i hi).1,(f i hi).2.ok d⟩⟩
theorem PtsOk.toA {w:World} {q:Option Addr} {n:Nat} {ps:Nat->Pt} (h:PtsOk w q n ps):PtsA w (·<w.1.size) q n ps:=h
def BdsA (w:World) (A:Nat->Prop) (q:Option Addr) (n:Nat) (ps:Nat->Bd):Prop:=
 n<=1099511627776/\(n=0\/∃b o,q=some ⟨b,o,none⟩/\A b/\∃ds:Nat->Bi,∀i,i<n->BiAt w b (o+i*8) (ds i)/\BdA w A (ps i) (ds i))
theorem BdsA.keep {w w':World} {A A':Nat->Prop} (g:Keeps A w w') (d:∀b,A b->A' b) {q:Option Addr} {n:Nat} {ps:Nat->Bd} (h:BdsA w A q n ps):BdsA w' A' q n ps:=by refine⟨h.1,h.2.imp id ?_⟩;rintro⟨b,o,e,j,k,f⟩;exact⟨b,o,e,d b j,k,λi hi=>⟨(f i hi).1.keep g j,(f i hi).2.keep g d⟩⟩
theorem BdsA.ok {w:World} {A:Nat->Prop} (d:∀b,A b->b<w.1.size) {q:Option Addr} {n:Nat} {ps:Nat->Bd} (h:BdsA w A q n ps):BdsOk w q n ps:=by refine⟨h.1,h.2.imp id ?_⟩;rintro⟨b,o,e,j,g,f⟩;exact⟨b,o,e,d b j,g,λi hi=>⟨(f i hi).1,(f i hi).2.ok d⟩⟩
theorem BdsOk.toA {w:World} {q:Option Addr} {n:Nat} {ps:Nat->Bd} (h:BdsOk w q n ps):BdsA w (·<w.1.size) q n ps:=by refine⟨h.1,h.2.imp id ?_⟩;rintro⟨b,o,e,g,f,d⟩;exact⟨b,o,e,g,f,λi hi=>⟨(d i hi).1,(d i hi).2.1,(d i hi).2.2.toA⟩⟩
def StA (w:World) (A:Nat->Prop):St->Sd->Prop
 | .non,_=>False
 | .mk s nu de x pn ps bn bs n ki,d=>(d.s=s/\d.pon=pn/\d.arn=bn/\d.kin=n)/\SlA w A (.slice d.aq d.an d.ac) nu/\SlA w A (.slice d.cq d.cn d.cc) de/\nu.length<=1048576/\de.length<=1048576/\
  ExA w A x d.e/\PtsA w A d.poq pn ps/\BdsA w A d.arq bn bs/\n<=1099511627776/\
  (n=0\/∃b o,d.kiq=some ⟨b,o,none⟩/\A b/\∃ds:Nat->Sd,∀i,i<n->w.rangeAt b (o+i*21) (ds i).cells/\StA w A (ki i) (ds i))
theorem StA.keep {w w':World} {A A':Nat->Prop} (g:Keeps A w w') (f:∀b,A b->A' b):∀{x:St} {d:Sd},StA w A x d->StA w' A' x d:=by
 intro x
 induction x with
 | non=>exact λh=>h.elim
 | mk s nu de x pn ps bn bs n ki ih=>intro d h;unfold StA at h ⊢;obtain⟨h1,h2,h3,h4,h5,h6,h7,r,t,q⟩:=h;refine⟨h1,h2.keep g f,h3.keep g f,h4,h5,h6.keep g f,h7.keep g f,r.keep g f,t,q.imp id ?_⟩;rintro⟨b,o,e,k,m,j⟩;exact⟨b,o,e,f b k,m,λi hi=>⟨g.range k (j i hi).1,ih i (j i hi).2⟩⟩
theorem StA.ok {w:World} {A:Nat->Prop} (f:∀b,A b->b<w.1.size):∀{x:St} {d:Sd},StA w A x d->StOk w x d:=by
 intro x
 induction x with
 | non=>exact λh=>h.elim
 | mk s nu de x pn ps bn bs n ki ih=>intro d h;unfold StA at h;unfold StOk;obtain⟨h1,h2,h3,h4,h5,h6,h7,m,q,k⟩:=h;refine⟨h1,h2.ok f,h3.ok f,h4,h5,h6.ok f,h7.ok f,m.ok f,q,k.imp id ?_⟩;rintro⟨b,o,e,r,j,g⟩;exact⟨b,o,e,f b r,j,λi hi=>⟨(g i hi).1,ih i (g i hi).2⟩⟩
theorem StOk.toA {w:World}:∀{x:St} {d:Sd},StOk w x d->StA w (·<w.1.size) x d:=by
 intro x
 induction x with
 | non=>exact λh=>h.elim
 | mk s nu de x pn ps bn bs n ki ih=>intro d h;unfold StOk at h;unfold StA;obtain⟨h1,h2,h3,h4,h5,h6,h7,k,m,j⟩:=h;refine⟨h1,h2.toA,h3.toA,h4,h5,h6.toA,h7.toA,k.toA,m,j.imp id ?_⟩;rintro⟨b,o,e,q,g,f⟩;exact⟨b,o,e,q,g,λi hi=>⟨(f i hi).1,ih i (f i hi).2⟩⟩
set_option maxRecDepth 100000
def bP (w w':World) (b:Nat):Prop:=w.1.size<=b/\b<w'.1.size
theorem QS (cap:Nat) (w:World):cN 71 #[.slice none 0 cap] w λe w'=>e=.returned (.slice none 0 0)/\w'=w:=by have b:=Lib.run_eql_slice_nil (P:=prog) w 28 120 none 0 cap 0 0 underlying28;go_enter func71,ntmps71;go_wp2;go_ret;exact⟨rfl,rfl⟩
theorem fH (w:World) (o:Obj):Below w.1.size w (w.alloc o):=(kE _ _).alloc (kF _) o
theorem QT (a:Addr) (cap:Nat) (w:World):bF w 71 #[.slice (some a) 0 cap] (.slice (some ⟨w.1.size,0,none⟩) 0 0):=by have b:=Lib.run_eql_slice_nil (P:=prog) w 28 120 (some a) 0 cap 0 0 underlying28;go_enter func71,ntmps71;go_wp2;go_ret;exact⟨rfl,fH _ _⟩
theorem Js (w:World) (e:TypeId) (size:Nat):(w.alloc<|Obj.cells #[] e).ownsRow w.1.size e size (.slice (some ⟨w.1.size,0,none⟩) 0 0) 0 []:=
 ⟨by simp,.inr ⟨w.1.size,0,#[],rfl,kF _,kR w _,kF _,kL _,by simp,by simp⟩⟩
theorem QU (b o cap:Nat) (xs:List Int) (w:World) (n:b<w.1.size) (h0:0<xs.length) (E:xs.length<=549755813888)
  (q:∀i,i<xs.length->w.cell? ⟨b,o+i,none⟩=some (.int .u32<|xs.getD i 0)):
  cN 71 #[.slice (some ⟨b,o,none⟩) xs.length cap] w λe w'=>∃g c,e=.returned (.slice (some ⟨g,0,none⟩) xs.length c)/\w'.ownsRow w.1.size 120 1 (.slice (some ⟨g,0,none⟩) xs.length c) xs.length (xs.map<|Value.int .u32)/\Below w.1.size w w':=by
 have C:=Lib.run_eql_slice_nil (P:=prog) w 28 120 (some ⟨b,o,none⟩) xs.length cap 0 0 underlying28;obtain⟨B,hi,x,y,A⟩:=mE (show(prog.info? 120).map (λi=>(i.zero,i.size,i.bytes))=some (some<|.int .u32 0,1,4) by kernel_rfl);have k:∀j u,(xs.map<|Value.int .u32)[j]?=some u->(w.alloc<|Obj.cells #[] 120).cell? ((⟨b,o,none⟩:Addr).add j)=some u:=by intro j u hu;rw[rP,pj _ _ _<|by exact n];rw[mI,pF] at hu;obtain⟨z,f,rfl⟩:=hu;have t:j<xs.length:=(lC.1 f).1;rw[q j t];simp[List.getD,f]
 have h1:∀u∈xs.map (Value.int .u32),u.oneCell'=true:=by intro u hu;obtain⟨z,_,rfl⟩:=m9.1 hu;rfl
 go_enter func71,ntmps71;go_wp2_with (at_builtin;refine wpList_append_lies _ rfl _ _ 28 rfl w.1.size 120 B (.int .u32 0) 1 4 underlying28 hi x y A rfl (by decide) _ 0 [] rfl (Js w 120 1) ⟨b,o,none⟩ xs.length cap (xs.map<|Value.int .u32) rfl (by simp) k h1 h0 (by unfold maxLen;omega) (by omega) (by simp) _ rfl ?_;intro g c G d h D F);go_ret;simp only[mF,mL] at d ⊢;exact⟨g,c,rfl,d,(fH w _).grown h (by simp) λm r=>((Js w 120 1).lt m r).1⟩
theorem GM {w:World} {q:Option Addr} {n c:Nat} {xs:List Int} (h:Sl w (.slice q n c) xs):
  cN 71 #[.slice q n c] w λe w'=>∃q' d,e=.returned (.slice q' n d)/\SlA w' (bP w w') (.slice q' n d) xs/\Below w.1.size w w':=by
 obtain⟨h1,h2,t,cap,hv,h4,h5⟩:=h;simp only[nT] at hv;obtain⟨rfl,rfl,rfl⟩:=hv;by_cases k:xs=[]
 .subst k
  cases q with
  | none=>refine(QS c w).mono ?_;rintro e w' ⟨rfl,rfl⟩;exact⟨none,0,rfl,⟨h1,h2,none,0,rfl,kF _,.inl rfl⟩,kE _ _⟩
  | some a=>refine jR (QT a c w) λw' j=>?_;exact⟨_,0,rfl,⟨h1,h2,_,0,rfl,kF _,.inl rfl⟩,j⟩
 rcases h5 with h5 | ⟨b,o,rfl,r,m⟩
 .exact absurd h5 k
 have h0:0<xs.length:=lG.2 k;refine(QU b o c xs w r h0 h2 m).mono ?_;rintro e w' ⟨g,d,rfl,f,j⟩;refine⟨_,d,rfl,⟨h1,h2,_,d,rfl,?_,.inr ⟨g,0,rfl,?_,λi hi=>?_⟩⟩,j⟩
 .rcases f.2 with⟨hh,_⟩ | ⟨g',c2,cur,hh,_,_,hle,_⟩
  .cases hh
  simp only[nT,mc,tn] at hh;obtain⟨_,_,rfl⟩:=hh;exact hle
 .obtain⟨g',c2,hh,hge,hl⟩:=f.form h0;simp only[nT,mc,tn] at hh;obtain⟨⟨rfl,_⟩,_⟩:=hh;exact⟨hge,hl⟩
 have:=f.cells (g:=g) rfl i (.int .u32<|xs.getD i 0) (by simp[List.getD,hi]);rw[rP] at this;exact this
theorem jP {P:Program} {fn:Func} {p:Tmp} {ty:TypeId} (h:fn.results=#[.cell p ty]) (tmps:Array Value) (w:World) (b:Nat) (cs:List Value) (d:TypeDesc)
  (i:tmps.getD p undef=.pointer (some ⟨b,0,none⟩)) (f:w.rangeAt b 0 cs) (hu:P.underlying ty=some d) (g:d.isRow=true) (hi:(P.info? ty).map (·.size)=some cs.length):
  (results fn tmps).run P w=.ok (.agg cs.toArray) w:=by
 have j:tmps[p]?.getD undef=.pointer (some ⟨b,0,none⟩):=by simpa using i
 simp[results,h,j,asAddr,rQ w b 0 ty cs d f hu g hi]
def Nd.cells (d:Nd):List Value:=[.int .i64 d.k,.int .i64 d.f,.bool d.neg,.slice d.aq d.an d.ac,.slice d.cq d.cn d.cc,.string d.m,.slice d.sq d.sn d.sc]
theorem Mj {α:Type} {s:Nat} {f:α->List Value} (d:∀a,(f a).length=s):∀(L:List α) (i j:Nat) (a:α),L[i]?=some a->j<s->(L.flatMap f)[i*s+j]?=(f a)[j]?
 | [],i,j,a,h,_=>by simp at h
 | b::L,0,j,a,h,hj=>by simp only[mK,mc] at h;subst h;simp only[nU,tq,mF];rw[lW<|by rw[d];exact hj]
 | b::L,i+1,j,a,h,hj=>by simp only[pl] at h;simp only[nU];rw[mz<|by rw[d,Nat.add_mul];omega,d,show(i+1)*s+j - s=i*s+j by rw[Nat.add_mul];omega];exact Mj d L i j a h hj
theorem Mk {α:Type} {s:Nat} {f:α->List Value} (b:∀a,(f a).length=s) {w:World} {base:Nat} {e:TypeId} {g n c:Nat} {L:List α} (h:w.ownsRow base e s (.slice (some ⟨g,0,none⟩) n c) n (L.flatMap f)) {i:Nat} {a:α} (hi:L[i]?=some a):
  w.rangeAt g (0+i*s) (f a):=by
 intro j v hv;have d:j<s:=by rw[<-b a];exact(lC.1 hv).1
 have:=h.cells (g:=g) rfl (i*s+j) v (by rw[Mj b L i j a hi d];exact hv);rw[rP] at this;rw[pW];exact this
theorem zF {w:World} {g:Nat} {cs:List Value} {t:TypeId} {fr:Nat × Nat} (h:w.1[g]?=some (.cells cs.toArray t fr)) {j:Nat} {u:Value}:
  (w.setCell ⟨g,j,none⟩ u).1[g]?=some (.cells (cs.set j u).toArray t fr):=by
 simp[World.setCell,qG,h]
def cH (w0:Nat) (wr:World) (G:Nat) (v:Value) (b:Nat):Prop:=w0<=b/\b<wr.1.size/\b≠G/\v.ownBlock≠some b
theorem QV {w:World} {base:Nat} {e:TypeId} {size n:Nat} {v:Value} {xs:List Value} (h:w.ownsRow base e size v n xs) {a:Addr} {u:Value} (d:v.ownBlock≠some a.block):(w.setCell a u).ownsRow base e size v n xs:=
 h.kept (row:=some a.block) ⟨rfl,rfl,rfl,by simp,λk _ b=>mr w a u k λe=>b<|by rw[e]⟩ (.inr d)
theorem Aj (d:Nd):∀u∈d.cells,u.oneCell'=true:=by
 intro u hu;simp only[Nd.cells,lO,nw,qy] at hu
 rcases hu with rfl | rfl | rfl | rfl | rfl | rfl | rfl<;>rfl
theorem Fq (B g:Nat) (f:B<=g):∀(vs:List Value) (o:Nat) (w0 w:World),Below B w0 w->Below B w0 (w.setCells g o vs)/\(w.setCells g o vs).1.size=w.1.size/\∀b,b≠g->(w.setCells g o vs).1[b]?=w.1[b]?
 | [],o,w0,w,h=>⟨h,rfl,λ_ _=>rfl⟩
 | v::vs,o,w0,w,h=>by obtain⟨h1,h2,h3⟩:=Fq B g f vs (o+1) w0 (w.setCell ⟨g,o,none⟩ v)<|h.setCell (by exact f) v;refine⟨h1,h2.trans<|by simp,λb d=>(h3 b d).trans<|mr _ _ _ _<|by exact d⟩
def gb (ty:TypeId):Prop:=∃d,prog.underlying ty=some d/\d.isRow=false
theorem Ml {ty:TypeId} (f:gb ty) {w:World} {b o:Nat} {v:Value} (g:w.cell? ⟨b,o,none⟩=some v):(loadVar ty ⟨b,o,none⟩).run prog w=.ok v w:=by
 obtain⟨d,hu,i⟩:=f;have h:(isAgg ty).run prog w=.ok false w:=by unfold isAgg;rw[nQ,qf hu w];cases d<;>simp_all
 simp[loadVar,h,g]
theorem QW {ty:TypeId} (hi:(prog.info? ty).map (·.size)=some 1) {w:World} {b o n c:Nat} {q:Option Addr} {u:Value} (f:w.cell? ⟨b,o,none⟩=some u) (g:w.frozen? ⟨b,o,none⟩=false):
  (Instr.storeAt ty (.pointer<|some ⟨b,o,none⟩)<|.slice q n c).run prog w=.ok () (w.setCell ⟨b,o,none⟩<|.slice q n c):=by
 cases hq:prog.info? ty with
 | none=>simp[hq] at hi
 | some i=>
  have h:i.size=1:=by simpa [hq] using hi
  have j:∀m:Mode,(store ⟨b,o,none⟩ (.slice q n c) m).run prog w=.ok () (w.setCell ⟨b,o,none⟩<|.slice q n c):=λm=>by rw[run_store _ _ _ _ _ rfl,f];simp[g]
  have d:(⟨b,o,none⟩:Addr).add 0=⟨b,o,none⟩:=rP b o 0;simp[Instr.storeAt,Instr.sureAddr,storeVar,sizeOf,typeInfo,hq,h,Value.cells,storeCells,d,j]
section
variable {ops:Array Oper} {Q:Exit->Act->World->Prop} {md:Region.Mode} {S:World->Prop} {oi:Oper} {fuel:Nat} {l:Array Bool} {a a2:Act} {w:World}
theorem jQ {ty:TypeId} (f:gb ty) (i s b o:Nat) (v:Value) (hi:ops[i]?=some oi) (d:S w)
  (g:∀z,S z->z.cell? ⟨b,o,none⟩=some v) (h:wpAnyH prog md ops Q S fuel (l.setIfInBounds i true) a2 w)
  (k:oi.op=.load ty (.tmp s):=by rfl) (r:a.eval (.tmp s)=.pointer (some ⟨b,o,none⟩):=by kernel_rfl) (q:Region.wanted oi (yielded ops a.tmps)=true:=by kernel_rfl) (e:a.put oi.dst v=a2:=by simp only[pz];rfl)
  (n:Region.noSelect ops=true:=by kernel_rfl) (j:Region.free md ops l i=true:=by kernel_rfl) (m:(Region.ready md ops l).contains i=true:=by kernel_rfl)
  (hQ:∀(c:List PanicEntry) (a:Act) (w:World),Q (.panic c) (a.put oi.dst v) w->Q (.panic c) a w:=by exact λ_ _ _ h=>h):wpAnyH prog md ops Q S (fuel+1) l a w:=
 mO hi n j m hQ (.inl ⟨q,λz t=>by unfold execOp;simp only[k,r,Instr.loadAt,Instr.sureAddr,nQ,pS,nf,Ml f<|g z t]⟩) d (by rw[e];exact h)
theorem Ee {w0:World} {a0:Act} {l1:Array Bool} {ty:TypeId} (m:gb ty) (cs:List Nat) (f s b o n:Nat) (v:Value) (t:b<w0.1.size) (hv:w0.cell? ⟨b,o,none⟩=some v) (hi:ops[f]?=some oi)
  (k:∀z,Below w0.1.size w0 z->S z) (u:pi prog md ops Q S fuel l1 [f] (λ_ d x _=>f∉d->x f=v) [] cs a0 w0)
  (D:oi.op=.load ty (.tmp s):=by rfl) (G:a0.eval (.tmp s)=.pointer (some ⟨b,o,none⟩):=by kernel_rfl) (B:oi.guard=none:=by rfl) (F:∀i∈cs++[f],bY ops i≠some s:=by decide)
  (E:dA md ops l1 n l cs [f]=true:=by kernel_rfl) (A:eI ops cs [f]=true:=by kernel_rfl) (y:∀c∈cs,c∉[f]:=by decide) (q:cE ops [f] a0 (λ_=>a0.tmps.getD ((bY ops f).getD 0) undef)=a0:=by rfl):wpAnyH prog md ops Q S (fuel+n) l a0 w0:=by
 refine Mh cs [f] n l1 (λ_=>a0.tmps.getD ((bY ops f).getD 0) undef) (λ_ d x _=>f∉d->x f=v) k (λh=>absurd mq h) (λ_ _ _ _ _ _ h=>h) ?_ u E A y q;intro g C _ d x a z r H _;obtain rfl:g=f:=by simpa using C
 refine wpOp_step hi λK j=>?_;rw[kU<|by unfold Region.wanted;rw[B]];have e:a.eval (.tmp s)=.pointer (some ⟨b,o,none⟩):=by rw[<-G];simp only[Act.eval,sw,r s F]
 unfold Oper.wp execOp;simp only[D,e,Instr.loadAt,Instr.sureAddr,nQ,pS,nf,Ml m<|(H.cell t).trans hv];refine j _ _ ⟨v,by unfold bY;rw[hi];rfl,kE _ _,λ_=>by simp[im]⟩
end
def ElT (ty e s by':Nat):Prop:=prog.underlying ty=some (.slice e)/\(prog.info? e).map (λi=>(i.zero.map (·.cells.size),i.size,i.bytes))=some (some s,s,by')/\0<s/\s<=64/\by'<=1024
theorem ElT.out {ty e s by':Nat} (h:ElT ty e s by'):∃(i:TypeInfo) (z:Value),prog.info? e=some i/\i.zero=some z/\i.size=s/\i.bytes=by'/\z.cells.size=s:=by have h2:=h.2.1;rw[pF] at h2;obtain⟨i,hi,h3⟩:=h2;simp only[tp] at h3;obtain⟨h4,h5,h6⟩:=h3;rw[pF] at h4;obtain⟨z,b,h7⟩:=h4;exact⟨i,z,hi,b,h5,h6,h7⟩
section
variable {op:Oper} {a:Act} {w:World} {K:Act->World->Prop} {Q:Exit->Act->World->Prop} {ty e s by':Nat}
theorem GN {n:Nat} (f:eS ty n) (x b o:Nat) (cs:List Value) (g:w.rangeAt b o cs) (j:cs.length=n) (h:K (a.put op.dst<|.agg cs.toArray) w)
  (k:op.op=.load ty (.tmp x):=by rfl) (m:a.eval (.tmp x)=.pointer (some ⟨b,o,none⟩):=by kernel_rfl):Oper.wp prog op a w K Q:=by
 obtain⟨⟨d,hu,i⟩,hi⟩:=f;exact wp_load_mid ty (.tmp x) k b o m cs d g hu i (by rw[j];exact hi) h
theorem C8 (b:ElT ty e s by') (x:Operand) (y:List Value) (m:y.length=s)
  (h:K (a.put op.dst<|.slice (some ⟨w.1.size,0,none⟩) 1 1) (w.alloc<|.cells y.toArray e)) (g:op.op=.buildSlice ty 1 #[(0,x)]:=by rfl) (j:a.eval x=.agg y.toArray:=by kernel_rfl):Oper.wp prog op a w K Q:=by
 obtain⟨i,z,hi,k,d,_,_⟩:=b.out;have h1:=b.2.2.1;have h2:=b.2.2.2.1;refine wp_buildSlice ty e 1 #[(0,x)] g y.toArray i z b.1 hi k (by rw[d];omega) (by rw[d];omega) ?_ h;have f:=Great.fill_whole (s:=s) h1 [Value.agg y.toArray] ((Array.range<|1*s).map (z.cells[·% z.cells.size]!)) (by simp[Value.cells,m]) (by simp);rw[d];simpa [j,Value.cells] using f
theorem bd (t:TypeId) (parts:Array (Nat × Operand)) (cs:List Value) (h:K (a.put op.dst<|.agg cs.toArray) w) (d:op.op=.build t parts:=by rfl) (b:prog.built t (parts.map fun(i,x)=>(i,a.eval x)).toList=some cs.toArray:=by kernel_rfl):Oper.wp prog op a w K Q:=by unfold Oper.wp execOp;simp only[d,nQ,run_build w t _ _ b,nf];exact h
theorem Ak {n:Nat} (d:eS ty n) (x y g:Nat) (cs:List Value) {old:Array Value} {t:TypeId} (f:w.1[g]?=some (.cells old t (0,0))) (b:cs.length=n) (i:old.size=n) (h1:∀u∈cs,u.oneCell'=true) (h:K (a.put op.dst undef) (w.setRow g cs.toArray))
  (j:op.op=.store ty (.tmp x) (.tmp y):=by rfl) (k:a.eval (.tmp x)=.pointer (some ⟨g,0,none⟩):=by kernel_rfl) (m:a.eval (.tmp y)=.agg cs.toArray:=by kernel_rfl):Oper.wp prog op a w K Q:=by
 unfold Oper.wp execOp;simp only[j,k,m,Instr.storeAt,Instr.sureAddr,nQ,pS,nf,run_storeVar_row w g t ty old cs.toArray f (by rw[d.2];simp[b]) (by rw[i];simp[b])<|mh h1];exact h
theorem xC (hi:(prog.info? ty).map (·.size)=some 1) (x:Nat) (y:Operand) (b o n c:Nat) (q:Option Addr) {u:Value} (d:w.cell? ⟨b,o,none⟩=some u) (f:w.frozen? ⟨b,o,none⟩=false) (h:K (a.put op.dst undef) (w.setCell ⟨b,o,none⟩<|.slice q n c))
  (g:op.op=.store ty (.tmp x) y:=by rfl) (i:a.eval (.tmp x)=.pointer (some ⟨b,o,none⟩):=by kernel_rfl) (j:a.eval y=.slice q n c:=by kernel_rfl):Oper.wp prog op a w K Q:=by
 unfold Oper.wp execOp;simp only[g,i,j,nQ,QW hi d f,nf];exact h
end
theorem Al {ops:Array Oper} {rest:List Oper} {op:Oper} {a:Act} {w:World} {Q:Exit->Act->World->Prop} {ty e s by':Nat} (b:ElT ty e s by') (x:Operand) (y:List Value) (j:y.length=s)
  (h:wpList prog ops Q rest (a.put op.dst<|.slice (some ⟨w.1.size,0,none⟩) 1 1) (w.alloc<|.cells y.toArray e)) (g:op.op=.buildSlice ty 1 #[(0,x)]:=by with_reducible rfl) (i:a.eval x=.agg y.toArray:=by kernel_rfl) (f:op.guard=none:=by kernel_rfl):wpList prog ops Q (op::rest) a w:=
 pR f λ_ d=>C8 b x y j (d _ _ h) g i
theorem QX {ops:Array Oper} {rest:List Oper} {op:Oper} {a:Act} {w:World} {Q:Exit->Act->World->Prop} (t:TypeId) (parts:Array (Nat × Operand)) (cs:List Value) (h:wpList prog ops Q rest (a.put op.dst<|.agg cs.toArray) w)
  (g:op.op=.build t parts:=by with_reducible rfl) (d:prog.built t (parts.map fun(i,x)=>(i,a.eval x)).toList=some cs.toArray:=by kernel_rfl) (f:op.guard=none:=by kernel_rfl):wpList prog ops Q (op::rest) a w:=
 pR f λ_ b=>bd t parts cs (b _ _ h) g d
def C9:List Value->Nat->List Value->List Value
 | cs,_,[]=>cs
 | cs,o,v::vs=>C9 (cs.set o v) (o+1) vs
theorem Mm:∀(vs cs:List Value) (o:Nat) {w:World} {g:Nat} {t:TypeId} {fr:Nat × Nat},w.1[g]?=some (.cells cs.toArray t fr)->(w.setCells g o vs).1[g]?=some (.cells (C9 cs o vs).toArray t fr)
 | [],_,_,_,_,_,_,h=>h
 | v::vs,cs,o,w,g,_t,_fr,h=>Mm vs (cs.set o v) (o+1) (w:=w.setCell ⟨g,o,none⟩ v)<|zF h
def Stored (G:Nat) (T:TypeId) (cs:List Value) (w w':World):Prop:=w'.1[G]?=some (.cells cs.toArray T (0,0))/\(∀b,b≠G->w'.1[b]?=w.1[b]?)/\w'.1.size=w.1.size/\∀B w0,Below B w0 w->B<=G->Below B w0 w'
theorem Stored.trans {G:Nat} {T:TypeId} {cs f:List Value} {w w' i:World} (h:Stored G T cs w w') (k:Stored G T f w' i):Stored G T f w i:=⟨k.1,λb d=>(k.2.1 b d).trans<|h.2.1 b d,k.2.2.1.trans h.2.2.1,λB w0 d g=>k.2.2.2 B w0 (h.2.2.2 B w0 d g) g⟩
theorem xD {op:Oper} {a:Act} {w:World} {K:Act->World->Prop} {Q:Exit->Act->World->Prop} {ty n:Nat} (i:eS ty n) (x y G o:Nat) (vs:List Value) {cs:List Value} {T:TypeId} (f:w.1[G]?=some (.cells cs.toArray T (0,0))) (k:vs.length=n) (h1:∀u∈vs,u.oneCell'=true)
  (h:∀w',Stored G T (C9 cs o vs) w w'->K (a.put op.dst undef) w') (z:o+n<=cs.length:=by exact rM rfl) (m:op.op=.store ty (.tmp x) (.tmp y):=by rfl) (r:a.eval (.tmp x)=.pointer (some ⟨G,o,none⟩):=by kernel_rfl) (t:a.eval (.tmp y)=.agg vs.toArray:=by kernel_rfl):Oper.wp prog op a w K Q:=by
 have q:vs.toArray.size=n:=by simpa using k
 refine tv ty (.tmp x) (.tmp y) m G o vs.toArray r t ?_ (by rw[q];exact i.2) (mh h1) ?_
 .intro j hj;rw[pG _ _ _ _ _ _ f];refine⟨?_,rG _ _ _ _ _ f⟩;rw[tf,k8<|by omega];rfl
 refine h _ ⟨Mm vs cs o f,λb d=>?_,?_,λB w0 d g=>?_⟩
 .exact(Fq 0 G (kL _) vs o w w ⟨rfl,rfl,rfl,kF _,λ_ _=>rfl⟩).2.2 b d
 .exact(Fq 0 G (kL _) vs o w w ⟨rfl,rfl,rfl,kF _,λ_ _=>rfl⟩).2.1
 exact(Fq B G g vs o w0 w d).1
theorem Jt {op:Oper} {a:Act} {w:World} {K:Act->World->Prop} {Q:Exit->Act->World->Prop} {ty:Nat} (hi:(prog.info? ty).map (·.size)=some 1) (x:Nat) (y:Operand) (G o n c:Nat) (q:Option Addr) {cs:List Value} {T:TypeId} (f:w.1[G]?=some (.cells cs.toArray T (0,0)))
  (h:∀w',Stored G T (cs.set o<|.slice q n c) w w'->K (a.put op.dst undef) w') (m:o<cs.length:=by exact rM rfl) (i:op.op=.store ty (.tmp x) y:=by rfl) (j:a.eval (.tmp x)=.pointer (some ⟨G,o,none⟩):=by kernel_rfl) (k:a.eval y=.slice q n c:=by kernel_rfl):Oper.wp prog op a w K Q:=
 xC hi x y G o n c q (u:=cs[o]) (by rw[pG _ _ _ _ _ _ f];simp) (rG _ _ _ _ _ f) (h _ ⟨zF f,λb d=>mr _ _ _ _<|by exact d,by simp,λB w0 d g=>d.setCell (by exact g) _⟩) i j k
theorem Am {ops:Array Oper} {rest:List Oper} {op:Oper} {a:Act} {w:World} {Q:Exit->Act->World->Prop} {ty n:Nat} (d:eS ty n) (x y g:Nat) (cs:List Value) {old:Array Value} {t:TypeId} (f:w.1[g]?=some (.cells old t (0,0))) (j:cs.length=n) (k:old.size=n) (h1:∀u∈cs,u.oneCell'=true)
  (h:wpList prog ops Q rest (a.put op.dst undef) (w.setRow g cs.toArray)) (m:op.op=.store ty (.tmp x) (.tmp y):=by with_reducible rfl) (o:a.eval (.tmp x)=.pointer (some ⟨g,0,none⟩):=by kernel_rfl) (q:a.eval (.tmp y)=.agg cs.toArray:=by kernel_rfl) (i:op.guard=none:=by kernel_rfl):wpList prog ops Q (op::rest) a w:=
 pR i λ_ b=>Ak d x y g cs f j k h1 (b _ _ h) m o q
theorem xE {w:World} {a b:Obj}:((w.alloc a).alloc b).1[w.1.size+1]?=some b:=by have h:=kR (w.alloc a) b;simpa using h
theorem iE {w:World} {b o:Nat} {xs cs:List Value} (h:w.rangeAt b o xs) (d g:List Value) (e:xs=d++cs++g):w.rangeAt b (o+d.length) cs:=by
 intro j v hv;have f:j<cs.length:=(lC.1 hv).1
 have:=h (d.length+j) v (by
  rw[e,mJ,mz<|by omega,show d.length+j - d.length=j by omega,lW f]
  exact hv)
 rw[<-this];congr 2;omega
theorem og {w:World} {b:Nat} {cs:List Value} {t:TypeId} (h:w.1[b]?=some (.cells cs.toArray t (0,0))):w.rangeAt b 0 cs:=λj v hv=>by rw[mF,pG _ _ _ _ _ _ h];simpa using hv
theorem oI {w:World} {xs ys:List Value} {t t':TypeId}:((w.alloc<|.cells xs.toArray t).alloc<|.cells ys.toArray t').rangeAt w.1.size 0 xs/\((w.alloc<|.cells xs.toArray t).alloc<|.cells ys.toArray t').rangeAt (w.1.size+1) 0 ys:=
 ⟨og<|((kE _ _).alloc (kF _) _).block w.1.size (by simp) |>.trans (kR w _),og xE⟩
theorem xF {fn:Func} {R:Ending->World->Prop} {a:Act} {w:World} {ty n p b:Nat} {cs:List Value} {t:TypeId} (f:eS ty n) (g:w.1[b]?=some (.cells cs.toArray t (0,0))) (m:cs.length=n) (h:R (.returned<|.agg cs.toArray) w)
  (k:fn.results=#[.cell p ty]:=by rfl) (o:a.tmps.getD p undef=.pointer (some ⟨b,0,none⟩):=by rfl) (i:a.defers=[]:=by rfl):bodyPost prog fn R .ret a w:=by
 obtain⟨⟨d,hu,j⟩,hi⟩:=f;have q:a.tmps[p]?.getD undef=.pointer (some ⟨b,0,none⟩):=by simpa using o
 exact lJ (by simp[results,k,q,asAddr,rQ w b 0 ty cs d (og g) hu j<|by rw[m];exact hi]) i h
theorem oh {B g:Nat} {w0 w:World} (b:Below B w0 w) (d:B<=g) (cs:Array Value):Below B w0 (w.setRow g cs):=
 b.trans ⟨rfl,rfl,rfl,by simp[World.setRow],λk f=>mf w g k cs<|by omega⟩
theorem C' {α:Type} {P:Nat->α->Prop} {L:List α} {k:Nat} {x:α} (d:L.length=k) (h:∀i y,L[i]?=some y->P i y) (b:P k x):∀i y,(L++[x])[i]?=some y->P i y:=by
 intro i y hi
 rcases kS i L.length with h1 | h1
 .rw[lW h1] at hi;exact h i y hi
 rw[mz h1] at hi;obtain⟨h2,h3⟩:=lC.1 hi;have:i=k:=by simp at h2;omega
 subst this;simp at h3;exact h3 ▸ b
theorem Da {α:Type} {f:α->List Value} {s:Nat} (k:∀a,(f a).length=s) {w:World} {B e n c:Nat} {q:Option Addr} {L:List α} (h:w.ownsRow B e s (.slice q n c) n (L.flatMap f)) (_o:L.length=n):
  n=0\/∃g,q=some ⟨g,0,none⟩/\B<=g/\g<w.1.size/\(Value.slice q n c).ownBlock=some g/\∀i a,L[i]?=some a->w.rangeAt g (0+i*s) (f a):=by
 rcases mX n with h0 | h0
 .exact .inl h0
 obtain⟨g,m,b,d,j⟩:=h.form h0;simp only[nT] at b;obtain⟨rfl,_,rfl⟩:=b;exact .inr ⟨g,rfl,d,j,rfl,λi a hi=>Mk k h hi⟩
theorem BP {w0 G:Nat} {v:Value} {w z:World} (f:Below w.1.size w z):Keeps (cH w0 w G v) w z/\∀b,cH w0 w G v b->cH w0 z G v b:=
 ⟨λb d=>f.block b d.2.1,λ_b d=>⟨d.1,kw d.2.1 f.size,d.2.2⟩⟩
theorem BQ {w0 G:Nat} {v:Value} {w z w5 y:World} (h:G<w.1.size) (i:w0<=w.1.size) (f:∀k,v.ownBlock=some k->k<w.1.size) (j:w.1.size<=z.1.size) (g:w5.1.size<=y.1.size):∀b,bP z w5 b->cH w0 y G v b:=λb d=>
 ⟨by have:=d.1;omega,kw d.2 g,by have:=d.1;omega,λe=>by have:=d.1;have:=f b e;omega⟩
theorem Mn {f wr m i:World} {G j g n c e s k:Nat} {T:TypeId} {v:Value} {cs xs ys:List Value} (d:Below f.1.size f wr) (z:f.1.size<=G) (q:wr.1[G]?=some (.cells cs.toArray T (0,0))) (x:wr.ownsRow f.1.size e s v k xs) (u:v.ownBlock≠some G) (h5:Below wr.1.size wr m)
  (y:i.ownsRow f.1.size e s (.slice (some ⟨g,0,none⟩) n c) n ys) (o:m.grownBy i v.ownBlock) (r:v.ownBlock=some g\/g=m.1.size):
  (i.setCell ⟨G,j,none⟩<|.slice (some ⟨g,0,none⟩) n c).1[G]?=some (.cells (cs.set j<|.slice (some ⟨g,0,none⟩) n c).toArray T (0,0))/\(i.setCell ⟨G,j,none⟩<|.slice (some ⟨g,0,none⟩) n c).ownsRow f.1.size e s (.slice (some ⟨g,0,none⟩) n c) n ys/\(Value.slice (some ⟨g,0,none⟩) n c).ownBlock≠some G/\
    Below f.1.size f (i.setCell ⟨G,j,none⟩<|.slice (some ⟨g,0,none⟩) n c)/\Keeps (cH f.1.size m G v) m (i.setCell ⟨G,j,none⟩<|.slice (some ⟨g,0,none⟩) n c)/\(∀b,cH f.1.size m G v b->cH f.1.size (i.setCell ⟨G,j,none⟩<|.slice (some ⟨g,0,none⟩) n c) G (.slice (some ⟨g,0,none⟩) n c) b)/\i.1[G]?=some (.cells cs.toArray T (0,0))/\Keeps (cH f.1.size m G v) m i:=by
 have A:=(kG.1 q).1;have s1:=d.size;have s2:=h5.size;have C:=o.size
 have t:g≠G:=by
  rcases r with h | h
  .exact λe=>u<|e ▸ h
  omega
 have h7:i.1[G]?=some (.cells cs.toArray T (0,0)):=by rw[o.block G (by omega) λe=>u e.symm,h5.block G A];exact q
 have B:(i.setCell ⟨G,j,none⟩<|.slice (some ⟨g,0,none⟩) n c).1.size=i.1.size:=by simp
 refine⟨zF h7,QV y λe=>t<|pD e,λe=>t<|pD e,?_,λb d=>?_,λb d=>?_,h7,λb d=>o.block b d.2.1 λe=>d.2.2.2 e.symm⟩
 .refine Below.setCell ?_ (by exact z) _;exact(d.trans<|h5.mono s1).grown o (by omega) λk e=>(x.lt k e).1
 .rw[mr _ _ _ _<|by exact d.2.2.1,o.block b d.2.1 λe=>d.2.2.2 e.symm]
 refine⟨d.1,by have:=d.2.1;omega,d.2.2.1,λe=>?_⟩;have e:g=b:=pD e
 rcases r with h | h
 .exact d.2.2.2 (by rw[h,e])
 have:=d.2.1;omega
section
variable {ops:Array Oper} {Q:Exit->Act->World->Prop} {md:Region.Mode} {S:World->Prop} {fuel:Nat} {l:Array Bool} {a:Act} {oi oj:Oper}
theorem Ef {o:Oper} {ty e s by':Nat} (A:ElT ty e s by') (h1:(prog.info? ty).map (·.size)=some 1) (i m j p q G f k nb:Nat) {d wr t:World} {T:TypeId} {v:Value} {cs xs y:List Value} (hi:ops[i]?=some oi) (hm:ops[m]?=some o) (hj:ops[j]?=some oj)
  (B:Below d.1.size d wr) (R:d.1.size<=G) (M:wr.1[G]?=some (.cells cs.toArray T (0,0))) (X:cs[f]?=some v) (F:wr.ownsRow d.1.size e s v k xs) (ae:v.ownBlock≠some G) (h5:Below wr.1.size wr t) (hk:k<=1048576)
  (D:∀z,Keeps (cH d.1.size t G v) t z->S z) (N:t.1[nb]?=some (.cells y.toArray e (0,0))) (ly:y.length=s) (oy:∀u∈y,u.oneCell'=true) (hp:a.eval (.tmp p)=v)
  (h:∀g c x,x.1[G]?=some (.cells (cs.set f<|.slice (some ⟨g,0,none⟩) (k+1) c).toArray T (0,0))->x.ownsRow d.1.size e s (.slice (some ⟨g,0,none⟩) (k+1) c) (k+1) (xs++y)->(Value.slice (some ⟨g,0,none⟩) (k+1) c).ownBlock≠some G->
    Below d.1.size d x->Keeps (cH d.1.size t G v) t x->(∀b,cH d.1.size t G v b->cH d.1.size x G (.slice (some ⟨g,0,none⟩) (k+1) c) b)->
    wpAnyH prog md ops Q S fuel (((l.setIfInBounds i true).setIfInBounds m true).setIfInBounds j true) (((a.put oi.dst<|.slice (some ⟨g,0,none⟩) (k+1) c).put o.dst<|.pointer<|some ⟨G,f,none⟩).put oj.dst undef) x)
  (af:oi.op=.call { callee:=.builtin .append,args:=#[.tmp p,.tmp q],argTypes:=#[ty,ty] }:=by rfl) (hq:a.eval (.tmp q)=.slice (some ⟨nb,0,none⟩) 1 1:=by kernel_rfl) (aa:oi.guard=none:=by rfl) (ab:oj.guard=none:=by rfl)
  (ag:oj.op=.store ty (.tmp<|o.dst.getD 0) (.tmp<|oi.dst.getD 0):=by rfl) {E:TypeId} {r n:Nat} (ai:o.op=.fieldAddr E (.tmp r) n:=by rfl) (ac:o.guard=none:=by rfl) (hx:∀v,(a.put oi.dst v).eval (.tmp r)=.pointer (some ⟨G,0,none⟩):=by intro v;kernel_rfl) (hF:∀w,(Instr.fieldAt E (.pointer<|some ⟨G,0,none⟩) n).run prog w=.ok (.pointer<|some ⟨G,f,none⟩) w:=by intro w;go_simp)
  (hr:∀v u,((a.put oi.dst v).put o.dst u).eval (.tmp<|o.dst.getD 0)=u:=by intro v u;kernel_rfl) (W:∀v u,((a.put oi.dst v).put o.dst u).eval (.tmp<|oi.dst.getD 0)=v:=by intro v u;kernel_rfl)
  (hs:Region.noSelect ops=true:=by kernel_rfl) (Y:Region.free md ops (l.setIfInBounds i true) m=true:=by kernel_rfl) (aj:(Region.ready md ops<|l.setIfInBounds i true).contains m=true:=by kernel_rfl) (hQ:∀(c:List PanicEntry) (a:Act) (w:World),Q (.panic c) (a.put o.dst<|.pointer<|some ⟨G,f,none⟩) w->Q (.panic c) a w:=by exact λ_ _ _ h=>h)
  (ri:Region.ready md ops l=[i]:=by kernel_rfl) (rj:Region.ready md ops ((l.setIfInBounds i true).setIfInBounds m true)=[j]:=by kernel_rfl):wpAnyH prog md ops Q S (fuel+3) l a t:=by
 obtain⟨i0,z,ad,hz,ak,V,am⟩:=A.out;have e1:=A.2.2.1;have O:=A.2.2.2.2;have s1:=B.size;have s2:=h5.size;refine dy (fuel:=fuel+2) i hi (λK C=>?_) ri;rw[kU<|by unfold Region.wanted;rw[aa]];have P:t.ownsRow d.1.size e s v k xs:=F.kept (row:=none) ⟨h5.os,h5.tape,h5.output,h5.size,λb B _=>h5.block b B⟩ (by cases v.ownBlock<;>simp);refine wp_append_lies t (.tmp p) (.tmp q) ty af d.1.size e i0 z s by' A.1 ad hz ak V am e1 v k xs hp P ⟨nb,0,none⟩ 1 1 y hq (by rw[ly,Nat.one_mul]) (λj u hu=>World.news_of_block N j u<|by simpa using hu) oy (by decide) (by unfold maxLen;omega) ?_ (by omega) _ rfl ?_
 .exact kJ (tg (show k+1<=1048577 by omega) O) (by decide)
 intro g c w7 L Z U _;obtain⟨m1,m2,m3,m4,H,m6,I,J⟩:=Mn (j:=f) B R M F ae h5 L Z U;refine C.out _ _ (D _ J) λ_=>?_;refine tk (fuel:=fuel+1) m _ hm (D _ J) ?_ (.inl ⟨by unfold Region.wanted;rw[ac],λw _=>by unfold execOp;simp only[ai,hx,hF,nQ,nf,pS]⟩) rfl hs Y aj hQ;refine dy (fuel:=fuel) j hj (λK C=>?_) rj;rw[kU<|by unfold Region.wanted;rw[ab]];refine xC h1 (o.dst.getD 0) (.tmp<|oi.dst.getD 0) G f (k+1) c (some ⟨g,0,none⟩) (u:=v) ?_ (rG _ _ _ _ _ I) (C.out _ _ (D _ H) λ_=>h g c _ m1 m2 m3 m4 H m6) ag (hr _ _) (W _ _);rw[pG _ _ _ _ _ _ I];simpa using X
theorem QY {i:Oper} {rest:List Oper} {ty e s by':Nat} (t:ElT ty e s by') (h1:(prog.info? ty).map (·.size)=some 1) (p q G f k nb:Nat) {d wr m:World} {T:TypeId} {v:Value} {cs xs y:List Value}
  (x:Below d.1.size d wr) (J:d.1.size<=G) (E:wr.1[G]?=some (.cells cs.toArray T (0,0))) (R:cs[f]?=some v) (B:wr.ownsRow d.1.size e s v k xs) (Z:v.ownBlock≠some G) (h5:Below wr.1.size wr m) (hk:k<=1048576)
  (F:m.1[nb]?=some (.cells y.toArray e (0,0))) (ly:y.length=s) (oy:∀u∈y,u.oneCell'=true) (hp:a.eval (.tmp p)=v)
  (h:∀g c o,o.1[G]?=some (.cells (cs.set f<|.slice (some ⟨g,0,none⟩) (k+1) c).toArray T (0,0))->o.ownsRow d.1.size e s (.slice (some ⟨g,0,none⟩) (k+1) c) (k+1) (xs++y)->(Value.slice (some ⟨g,0,none⟩) (k+1) c).ownBlock≠some G->
    Below d.1.size d o->Keeps (cH d.1.size m G v) m o->(∀b,cH d.1.size m G v b->cH d.1.size o G (.slice (some ⟨g,0,none⟩) (k+1) c) b)->
    wpList prog ops Q rest (((a.put oi.dst<|.slice (some ⟨g,0,none⟩) (k+1) c).put i.dst<|.pointer<|some ⟨G,f,none⟩).put oj.dst undef) o)
  (aa:oi.op=.call { callee:=.builtin .append,args:=#[.tmp p,.tmp q],argTypes:=#[ty,ty] }:=by with_reducible rfl) (hq:a.eval (.tmp q)=.slice (some ⟨nb,0,none⟩) 1 1:=by kernel_rfl) (V:oi.guard=none:=by kernel_rfl) (W:oj.guard=none:=by kernel_rfl)
  (ab:oj.op=.store ty (.tmp<|i.dst.getD 0) (.tmp<|oi.dst.getD 0):=by kernel_rfl) {A:TypeId} {r n:Nat} (ac:i.op=.fieldAddr A (.tmp r) n:=by with_reducible rfl) (X:i.guard=none:=by kernel_rfl) (hx:∀v,(a.put oi.dst v).eval (.tmp r)=.pointer (some ⟨G,0,none⟩):=by intro v;kernel_rfl)
  (hF:∀w,(Instr.fieldAt A (.pointer<|some ⟨G,0,none⟩) n).run prog w=.ok (.pointer<|some ⟨G,f,none⟩) w:=by intro w;go_simp)
  (hr:∀v u,((a.put oi.dst v).put i.dst u).eval (.tmp<|i.dst.getD 0)=u:=by intro v u;kernel_rfl) (P:∀v u,((a.put oi.dst v).put i.dst u).eval (.tmp<|oi.dst.getD 0)=v:=by intro v u;kernel_rfl):wpList prog ops Q (oi::i::oj::rest) a m:=by
 obtain⟨i0,z,Y,hz,ad,O,ae⟩:=t.out;have e1:=t.2.2.1;have H:=t.2.2.2.2;have s1:=x.size;have s2:=h5.size;have I:m.ownsRow d.1.size e s v k xs:=B.kept (row:=none) ⟨h5.os,h5.tape,h5.output,h5.size,λb x _=>h5.block b x⟩ (by cases v.ownBlock<;>simp);refine wpList_append_lies m V (.tmp p) (.tmp q) ty aa d.1.size e i0 z s by' t.1 Y hz ad O ae e1 v k xs hp I ⟨nb,0,none⟩ 1 1 y hq (by rw[ly,Nat.one_mul]) (λj u hu=>World.news_of_block F j u<|by simpa using hu) oy (by decide) (by unfold maxLen;omega) ?_ (by omega) _ rfl ?_
 .exact kJ (tg (show k+1<=1048577 by omega) H) (by decide)
 intro g c w7 D U N _;obtain⟨m1,m2,m3,m4,m5,m6,C,m8⟩:=Mn (j:=f) x J E B Z h5 D U N;refine pR X λK L=>?_;unfold Oper.wp execOp;simp only[ac,hx,hF,nQ,nf,pS];refine L _ _<|pR W λK' M=>?_;refine xC h1 (i.dst.getD 0) (.tmp<|oi.dst.getD 0) G f (k+1) c (some ⟨g,0,none⟩) (u:=v) ?_ (rG _ _ _ _ _ C) (M _ _<|h g c _ m1 m2 m3 m4 m5 m6) ab (hr _ _) (P _ _);rw[pG _ _ _ _ _ _ C];simpa using R
end
theorem BR:gb 4:=⟨_,underlying4,rfl⟩
theorem An:gb 28:=⟨_,underlying28,rfl⟩
set_option maxRecDepth 100000 in
set_option maxHeartbeats 4000000 in
theorem Ju {w:World} {g:Bool} {q q':Option Addr} {n c d o:Nat} {nu de:List Int} (h1:Sl w (.slice q n c) nu) (h2:Sl w (.slice q' d o) de):
  cN 101 #[.agg #[.bool g,.slice q n c,.slice q' d o]] w λe w'=>∃q1 c1 q2 c2,e=.returned (.agg #[.bool g,.slice q1 n c1,.slice q2 d c2])/\SlA w' (bP w w') (.slice q1 n c1) nu/\SlA w' (bP w w') (.slice q2 d c2) de/\Below w.1.size w w':=by
 go_enter func101,ntmps101;go_upto_region 1 with fail;generalize x:(w.alloc _).alloc _=i;have B:Below w.1.size w i:=by rw[<-x];exact dF _ _ _
 have R:i.1.size=w.1.size+2:=by rw[<-x];simp
 have N:i.rangeAt w.1.size 0 [.bool g,.slice q n c,.slice q' d o]:=by rw[<-x];exact(oI (ys:=[.bool false,.slice none 0 0,.slice none 0 0])).1
 have M:i.1[w.1.size+1]?=some (.cells #[.bool false,.slice none 0 0,.slice none 0 0] 30 (0,0)):=by rw[<-x];exact xE
 clear x;have A:Below i.1.size i i.drew:=(kE _ _).drew;have r:∀z,Below i.1.size i z->z.rangeAt w.1.size 0 [.bool g,.slice q n c,.slice q' d o]:=λz O=>bU N O (by omega);refine kN (S:=λz=>z.rangeAt w.1.size 0 [.bool g,.slice q n c,.slice q' d o]) (by kernel_rfl) (r _ A) λhh=>?_;refine tk 0 _ rfl hh ?_;refine jQ BR 1 3 w.1.size 0 _ rfl hh (λz h=>h 0 _ rfl) ?_;refine tk 2 _ rfl hh ?_;refine jQ An 3 5 w.1.size 1 _ rfl hh (λz h=>h 1 _ rfl) ?_;refine tk 5 _ rfl hh ?_;refine jQ An 6 8 w.1.size 2 _ rfl hh (λz h=>h 2 _ rfl) ?_;refine dy 4 rfl λK k=>?_;go_simp;refine(GM<|h1.below<|cV B A).mono ?_;rintro e P ⟨q1,c1,rfl,I,L⟩;have y:=cV A L;refine k.out _ _ (r _ y) λ_=>?_;clear k K;refine dy 7 rfl λK k=>?_;go_simp;refine(GM<|h2.below<|cV B y).mono ?_;rintro e m ⟨q2,c2,rfl,J,C⟩;have t:=cV y C;refine k.out _ _ (r _ t) λ_=>?_;clear k K h1 h2;refine dy 8 rfl λK k=>?_;rw[kU<|by kernel_rfl];refine bd 30 _ [.bool g,.slice q1 n c1,.slice q2 d c2]<|k.out _ _ (r _ t) λ_=>?_;clear k K;have E:=(t.block (w.1.size+1)<|by omega).trans M;have G:Below w.1.size w (m.setRow (w.1.size+1) [.bool g,.slice q1 n c1,.slice q2 d c2].toArray):=oh (cV B t) (by omega) _;have D:(m.setRow (w.1.size+1) [.bool g,.slice q1 n c1,.slice q2 d c2].toArray).rangeAt w.1.size 0 [.bool g,.slice q n c,.slice q' d o]:=λj u hu=>(ml<|mf _ _ _ _<|by show w.1.size≠_;omega).trans<|r _ t j u hu;refine dy 9 rfl λK k=>?_;rw[kU<|by kernel_rfl];refine Ak pe 2 11 (w.1.size+1) [.bool g,.slice q1 n c1,.slice q2 d c2] E rfl rfl (by simp[Value.oneCell']) (k.out _ _ D λ_=>?_);clear k K;have F:Keeps (·≠w.1.size+1) m (m.setRow (w.1.size+1) [.bool g,.slice q1 n c1,.slice q2 d c2].toArray):=λb f=>mf _ _ _ _ f;have V:(m.setRow (w.1.size+1) [.bool g,.slice q1 n c1,.slice q2 d c2].toArray).1.size=m.1.size:=by simp
 have s2:i.1.size<=P.1.size:=y.size;have U:=C.size;have T:i.drew.1.size=i.1.size:=rfl;have H:=bC<|nh m _ _ [.bool g,.slice q1 n c1,.slice q2 d c2].toArray _ _ E;clear D r;generalize m.setRow (w.1.size+1) _=W at*;refine kV (by kernel_rfl) ?_ _;simp only[pz];go_wp2_with fail;refine xF (cs:=[.bool g,.slice q1 n c1,.slice q2 d c2]) pe (p:=2) H.out rfl ?_
 exact⟨q1,c1,q2,c2,rfl,I.keep (λb f=>(F b<|by have:=f.1;omega).trans<|C.block b f.2) λb f=>⟨by have:=f.1;omega,by have:=f.2;omega⟩,
  J.keep (λb f=>F b<|by have:=f.1;omega) λb f=>⟨by have:=f.1;omega,by have:=f.2;omega⟩,G⟩
