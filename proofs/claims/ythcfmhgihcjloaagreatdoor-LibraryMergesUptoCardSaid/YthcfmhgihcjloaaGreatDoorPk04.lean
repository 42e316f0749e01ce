import Derived.Deep.CutRange
import Derived.Test.YthcfmhgihcjloaaGreatDoorPk03
namespace Go.Proofs.YthcfmhgihcjloaaGreatDoor
open Go Go.RowKit Tryz
variable {w w':World} {q:Option Addr} {n b:Nat}
structure Pt where
 m:ByteArray
 g:Bool
 nu:List Int
 de:List Int
def Pt.eq (p p':Pt):Bool:=decide (p.m.toList=p'.m.toList)&&eo p.g p.nu p.de p'.g p'.nu p'.de
def PtOk (w:World) (p:Pt) (d:Va):Prop:=
 d.m=p.m/\d.g=p.g/\Sl w (.slice d.aq d.an d.ac) p.nu/\Sl w (.slice d.cq d.cn d.cc) p.de/\p.nu.length<=1048576/\p.de.length<=1048576
theorem PtOk.below (a:Below w.1.size w w') {p:Pt} {d:Va} (h:PtOk w p d):PtOk w' p d:=
 ⟨h.1,h.2.1,h.2.2.1.below a,h.2.2.2.1.below a,h.2.2.2.2⟩
theorem Fk {p f:Pt} {d e:Va} (h:PtOk w p d) (g:PtOk w f e):bF w 41 #[d.val,e.val] (.bool<|p.eq f):=by obtain⟨h1,h2,h3,h4,h5,h6⟩:=h;obtain⟨k1,k2,i,j,k,l⟩:=g;unfold Pt.eq;rw[<-h1,<-h2,<-k1,<-k2];exact Qz λm a=>Jg (h3.below a) (i.below a) (h4.below a) (j.below a) (by omega) (by omega) (by omega)<|by omega
structure Bd where
 m:ByteArray
 x:Ex
def Bd.eq (p p':Bd):Bool:=decide (p.m.toList=p'.m.toList)&&p.x.eq p'.x
def Bi.nd (d:Bi):Nd:=⟨d.ek,d.ef,d.eg,d.eaq,d.ean,d.eac,d.ecq,d.ecn,d.ecc,d.em,d.esq,d.esn,d.esc⟩
def BdOk (w:World) (p:Bd) (d:Bi):Prop:=d.m=p.m/\ExOk w p.x d.nd
theorem BdOk.below (a:Below w.1.size w w') {p:Bd} {d:Bi} (h:BdOk w p d):BdOk w' p d:=⟨h.1,h.2.below a⟩
theorem Fl {p a:Bd} {d e:Bi} (h:BdOk w p d) (f:BdOk w a e):bF w 42 #[d.val,e.val] (.bool<|p.eq a):=by unfold Bd.eq;rw[<-h.1,<-f.1];exact QA λi g=>L8 p.x a.x d.nd e.nd i (h.2.below g)<|f.2.below g
def PtsOk (w:World) (q:Option Addr) (n:Nat) (ps:Nat->Pt):Prop:=
 n<=1099511627776/\(n=0\/∃b o,q=some ⟨b,o,none⟩/\b<w.1.size/\∃ds:Nat->Va,∀i,i<n->VaAt w b (o+i*4) (ds i)/\PtOk w (ps i) (ds i))
theorem PtsOk.below (a:Below w.1.size w w') {q:Option Addr} {n:Nat} {ps:Nat->Pt} (h:PtsOk w q n ps):PtsOk w' q n ps:=by refine⟨h.1,h.2.imp id ?_⟩;rintro⟨b,o,e,f,g,d⟩;exact⟨b,o,e,kw f a.size,g,λi hi=>⟨(d i hi).1.below a f,(d i hi).2.below a⟩⟩
def me (n:Nat) (ps:Nat->Pt) (n':Nat) (ps':Nat->Pt):Bool:=decide (n=n')&&(List.range n).all λi=>(ps i).eq<|ps' i
theorem C3 {q':Option Addr} {a cap cap':Nat} {ps e:Nat->Pt} (h:PtsOk w q n ps) (s:PtsOk w q' a e):
  bF w 43 #[.slice q n cap,.slice q' a cap',.func (.func 41) #[] #[]] (.bool<|me n ps a e):=by
 obtain⟨j,u⟩:=h;obtain⟨x,y⟩:=s;unfold me;by_cases d:n=a
 .subst d;by_cases h0:n=0
  .subst h0;refine(Qw _ _ _ _ _ w).mono ?_;rintro r w' ⟨rfl,rfl⟩;exact⟨by simp,kE _ _⟩
  rcases u with h | ⟨b,o,rfl,t,m,f⟩
  .exact absurd h h0
  rcases y with h | ⟨l,o',rfl,k,es,g⟩
  .exact absurd h h0
  simp only[sj,pg]
  exact Qv b o _ l o' _ n m es (λi=>(ps i).eq<|e i) w j (λi hi=>(f i hi).1) (λi hi=>(g i hi).1) t k
   (λi hi z h2=>Fk ((f i hi).2.below h2)<|(g i hi).2.below h2)
 refine(xq _ _ _ _ _ _ _ w j x d).mono ?_;rintro r w' ⟨rfl,rfl⟩;exact⟨by simp[d],kE _ _⟩
def BdsOk (w:World) (q:Option Addr) (n:Nat) (ps:Nat->Bd):Prop:=
 n<=1099511627776/\(n=0\/∃b o,q=some ⟨b,o,none⟩/\b<w.1.size/\∃ds:Nat->Bi,∀i,i<n->BiAt w b (o+i*8) (ds i)/\BdOk w (ps i) (ds i))
theorem BdsOk.below (a:Below w.1.size w w') {q:Option Addr} {n:Nat} {ps:Nat->Bd} (h:BdsOk w q n ps):BdsOk w' q n ps:=by refine⟨h.1,h.2.imp id ?_⟩;rintro⟨b,o,e,f,g,d⟩;exact⟨b,o,e,kw f a.size,g,λi hi=>⟨(d i hi).1.below a f,(d i hi).2.below a⟩⟩
def mi (n:Nat) (ps:Nat->Bd) (n':Nat) (ps':Nat->Bd):Bool:=decide (n=n')&&(List.range n).all λi=>(ps i).eq<|ps' i
theorem C4 {q':Option Addr} {a cap cap':Nat} {ps e:Nat->Bd} (h:BdsOk w q n ps) (s:BdsOk w q' a e):
  bF w 44 #[.slice q n cap,.slice q' a cap',.func (.func 42) #[] #[]] (.bool<|mi n ps a e):=by
 obtain⟨j,u⟩:=h;obtain⟨x,y⟩:=s;unfold mi;by_cases d:n=a
 .subst d;by_cases h0:n=0
  .subst h0;refine(Qy _ _ _ _ _ w).mono ?_;rintro r w' ⟨rfl,rfl⟩;exact⟨by simp,kE _ _⟩
  rcases u with h | ⟨b,o,rfl,t,m,f⟩
  .exact absurd h h0
  rcases y with h | ⟨l,o',rfl,k,es,g⟩
  .exact absurd h h0
  simp only[sj,pg]
  exact Qx b o _ l o' _ n m es (λi=>(ps i).eq<|e i) w j (λi hi=>(f i hi).1) (λi hi=>(g i hi).1) t k
   (λi hi z h2=>Fl ((f i hi).2.below h2)<|(g i hi).2.below h2)
 refine(xr _ _ _ _ _ _ _ w j x d).mono ?_;rintro r w' ⟨rfl,rfl⟩;exact⟨by simp[d],kE _ _⟩
set_option maxRecDepth 100000
theorem C6:∃d,prog.underlying 42=some d/\d.isRow=true:=by
 have h:(prog.underlying 42).map TypeDesc.isRow=some true:=by kernel_rfl
 cases a:prog.underlying 42 with
 | none=>rw[a] at h;cases h
 | some d=>rw[a] at h;exact⟨d,rfl,by simpa using h⟩
theorem Eb:(prog.info? 42).map (·.size)=some 21:=by kernel_rfl
theorem bU {B o:Nat} {cs:List Value} (h:w.rangeAt b o cs) (d:Below B w w') (a:b<B):w'.rangeAt b o cs:=
 λj v hv=>fg d a<|h j v hv
theorem GI {P:Program} {ops:Array Oper} {rest:List Oper} {op:Oper} {a:Act} {w0:World} {Q:Exit->Act->World->Prop} {c:Array Value} (g:op.guard=none) (ty:TypeId) (x y:Operand) (i:op.op=.store ty x y)
  (cells:Array Value) (H:Nat) (d:w0.1.size=H) (j:a.eval x=.pointer (some ⟨H,0,none⟩)) (k:a.eval y=.agg cells)
  (f:c.size=cells.size) (hi:(P.info? ty).map (·.size)=some cells.size) (h1:cells.all (·.oneCell')=true)
  (h:wpList P ops Q rest (a.put op.dst undef) (w0.alloc<|.cells cells ty)):wpList P ops Q (op::rest) a (w0.alloc<|.cells c ty):=
 pR g λ_ e=>by subst d;unfold Oper.wp execOp;simp only[i,j,k,Instr.storeAt,Instr.sureAddr,nQ,pS,nf,run_storeVar_new w0 ty c cells hi f h1];exact e _ _ h
theorem oe (w:World) (cs:List Value) (t:TypeId):(w.alloc<|.cells cs.toArray t).rangeAt w.1.size 0 cs:=by have h:=World.rangeAt_of_block (kR w<|.cells cs.toArray t) 0 cs.length;simpa using h
theorem QB (b o cap l a Q n:Nat) (xs ys:Nat->List Value) (P:Nat->Bool) (w:World) (hn:n<=1099511627776)
  (E:∀i,i<n->w.rangeAt b (o+i*21) (xs i)) (F:∀i,i<n->w.rangeAt l (a+i*21) (ys i)) (S:b<w.1.size) (T:l<w.1.size)
  (G:∀i,i<n->(xs i).length=21/\(xs i).toArray.all (·.oneCell')=true) (H:∀i,i<n->(ys i).length=21/\(ys i).toArray.all (·.oneCell')=true)
  (B:∀i,i<n->∀N,Below w.1.size w N->bF N 25 #[.agg (xs i).toArray,.agg (ys i).toArray] (.bool<|P i)):
  bF w 45 #[.slice (some ⟨b,o,none⟩) n cap,.slice (some ⟨l,a,none⟩) n Q,.func (.func 25) #[] #[]] (.bool<|(List.range n).all P):=by
 go_enter func45,ntmps45;go_wp2
 go_loopw [17] (λi wr=>∃k:Nat,k<=n/\i=.int .i64 k/\(∀j,j<k->P j=true)/\Below w.1.size w wr) (λi _=>n - (intOf i).toNat)
 case atStart=>exact⟨0,kL _,rfl,λj z=>by omega,kE _ _⟩
 case round=>
  obtain⟨k,hk,rfl,C,s⟩:=hrel;have A:Hid (∀j,j<k->P j=true):=C;clear C;by_cases g:k<n
  .have am:(k:Int)<(n:Int):=(by omega);have R:=B k g;have L:=E k g;have M:=F k g;obtain⟨u,I⟩:=G k g;obtain⟨t,J⟩:=H k g;clear E F B G H;generalize xs k=f at*;generalize ys k=m at*;have W:=s.size;have X:wr.rangeAt b (o+k*21) f:=bU L s S;have Y:wr.rangeAt l (a+k*21) m:=bU M s T;obtain⟨d,hu,y⟩:=C6;have x:=bC hu;have Z:=bC I;have jx:=bC J;have r:∀o a,Below w.1.size w ((wr.alloc o).alloc a):=λo a=>(s.alloc W _).alloc (by simp;omega) _;clear hu I J L M
   go_wp2_with (first
    | (with_reducible refine nI ?gq1 42 (.tmp 20) ?hoq1 b (o+k*21) ?hxq1 f d ?hcq1 ?huq1 ?hdq1 ?hiq1 ?_
       case hoq1=>with_reducible rfl
       case gq1=>rfl
       case hxq1=>rfl
       case hcq1=>exact X
       case huq1=>exact x.out
       case hdq1=>exact y
       case hiq1=>(rw[u];exact Eb))
    | (with_reducible refine GI ?gq2 42 (.tmp 8) (.tmp 21) ?hoq2 f.toArray wr.1.size rfl ?hxq2 ?hyq2 ?hcq2 ?hiq2 ?h1q2 ?_
       case hoq2=>with_reducible rfl
       case gq2=>rfl
       case hxq2=>rfl
       case hyq2=>rfl
       case hcq2=>simp[u]
       case hiq2=>(simp only[nD,u];exact Eb)
       case h1q2=>exact Z.out)
    | (with_reducible refine nI ?gq3 42 (.tmp 24) ?hoq3 l (a+k*21) ?hxq3 m d ?hcq3 ?huq3 ?hdq3 ?hiq3 ?_
       case hoq3=>with_reducible rfl
       case gq3=>rfl
       case hxq3=>rfl
       case hcq3=>exact mV Y _
       case huq3=>exact x.out
       case hdq3=>exact y
       case hiq3=>(rw[t];exact Eb))
    | (with_reducible refine GI ?gq4 42 (.tmp 9) (.tmp 25) ?hoq4 m.toArray (wr.1.size+1) (by simp) ?hxq4 ?hyq4 ?hcq4 ?hiq4 ?h1q4 ?_
       case hoq4=>with_reducible rfl
       case gq4=>rfl
       case hxq4=>rfl
       case hyq4=>rfl
       case hcq4=>simp[t]
       case hiq4=>(simp only[nD,t];exact Eb)
       case h1q4=>exact jx.out)
    | (with_reducible refine nI ?gq5 42 (.tmp 8) ?hoq5 wr.1.size 0 ?hxq5 f d ?hcq5 ?huq5 ?hdq5 ?hiq5 ?_
       case hoq5=>with_reducible rfl
       case gq5=>rfl
       case hxq5=>rfl
       case hcq5=>exact mV (oe _ _ _) _
       case huq5=>exact x.out
       case hdq5=>exact y
       case hiq5=>(rw[u];exact Eb))
    | (with_reducible refine nI ?gq6 42 (.tmp 9) ?hoq6 (wr.1.size+1) 0 ?hxq6 m d ?hcq6 ?huq6 ?hdq6 ?hiq6 ?_
       case hoq6=>with_reducible rfl
       case gq6=>rfl
       case hxq6=>rfl
       case hcq6=>(have K:=oe (wr.alloc<|.cells f.toArray 42) m 42;rw[show (wr.alloc<|.cells f.toArray 42).1.size=wr.1.size+1 by simp] at K;exact K)
       case huq6=>exact x.out
       case hdq6=>exact y
       case hiq6=>(rw[t];exact Eb))
    | (go_at_call 25;refine(R _ ?_).mono ?_;exact r _ _;rintro e w5 ⟨rfl,D⟩))
   .go_ret;have V:P k=false:=(by cases h:P k<;>simp_all);have O:(List.range n).all P=false:=(by rw[lV];exact⟨k,kP.2 g,by simp[V]⟩);rw[O];exact⟨rfl,(r _ _).trans<|D.mono (r _ _).size⟩
   go_roundw
   case rel=>
    refine⟨k+1,by omega,by go_num,λj z=>?_,(r _ _).trans<|D.mono (r _ _).size⟩
    rcases kS j k with h | h
    .exact A.out j h
    have:j=k:=(by omega);subst this;cases h:P j<;>simp_all
   case measure=>simp[intOf];omega
  have U:k=n:=(by omega);subst U;go_wp2;go_ret;refine⟨?_,s⟩;have:(List.range k).all P=true:=(by rw[lj];intro j z;exact A.out j<|kP.1 z);rw[this];rfl
theorem xt (q q':Option Addr) (m n cap cap':Nat) (a:Value) (w:World) (_hm:m<=1099511627776) (_hn:n<=1099511627776) (h:¬m=n):cN 45 #[.slice q m cap,.slice q' n cap',a] w λe w'=>e=.returned (.bool false)/\w'=w:=by
 have d:¬(m:Int)=(n:Int):=by omega
 go_enter func45,ntmps45;go_wp2;go_ret;exact⟨rfl,rfl⟩
theorem QC (q q':Option Addr) (cap cap':Nat) (a:Value) (w:World):cN 45 #[.slice q 0 cap,.slice q' 0 cap',a] w λe w'=>e=.returned (.bool true)/\w'=w:=by go_enter func45,ntmps45;go_wp2;refine my ?_;go_wp2;go_ret;exact⟨rfl,rfl⟩
set_option maxHeartbeats 16000000
structure Sc where
 ru:Int
 nm:ByteArray
 ot:ByteArray
 g:Bool
 kk:Int
 nn:Int
 pr:Int
 en:ByteArray
 ve:Int
structure Sd where
 s:Sc
 aq:Option Addr
 an:Nat
 ac:Nat
 cq:Option Addr
 cn:Nat
 cc:Nat
 e:Nd
 poq:Option Addr
 pon:Nat
 poc:Nat
 arq:Option Addr
 arn:Nat
 arc:Nat
 kiq:Option Addr
 kin:Nat
 kic:Nat
def Sd.cells (d:Sd):List Value:=[.int .i64 d.s.ru,.string d.s.nm,.string d.s.ot,.bool d.s.g,.slice d.aq d.an d.ac,.slice d.cq d.cn d.cc,.int .i64 d.s.kk,.int .i64 d.s.nn,.int .i64 d.s.pr,
 .int .i64 d.e.k,.int .i64 d.e.f,.bool d.e.neg,.slice d.e.aq d.e.an d.e.ac,.slice d.e.cq d.e.cn d.e.cc,.string d.e.m,.slice d.e.sq d.e.sn d.e.sc,
 .slice d.poq d.pon d.poc,.string d.s.en,.int .i64 d.s.ve,.slice d.arq d.arn d.arc,.slice d.kiq d.kin d.kic]
def Sd.val (d:Sd):Value:=.agg d.cells.toArray
theorem Sd.len (d:Sd):d.cells.length=21:=rfl
theorem Sd.one (d:Sd):d.cells.toArray.all (·.oneCell')=true:=by
 refine mh ?_;intro v hv;simp only[Sd.cells,lO,nw,qy] at hv
 rcases hv with rfl | rfl | rfl | rfl | rfl | rfl | rfl | rfl | rfl | rfl | rfl | rfl | rfl | rfl | rfl | rfl | rfl | rfl | rfl | rfl | rfl<;>rfl
inductive St where
 | non
 | mk (s:Sc) (nu de:List Int) (x:Ex) (pn:Nat) (ps:Nat->Pt) (bn:Nat) (bs:Nat->Bd) (n:Nat) (ki:Nat->St)
def Sc.eq (s t:Sc):Bool:=(decide (s.ru=t.ru)&&decide (s.nm.toList=t.nm.toList)&&decide (s.ot.toList=t.ot.toList)&&decide (s.en.toList=t.en.toList)&&decide (s.ve=t.ve))&&(decide (s.kk=t.kk)&&decide (s.nn=t.nn)&&decide (s.pr=t.pr))
def St.eq:St->St->Bool
 | .mk s nu de x pn ps bn bs n ki,.mk s' nu' de' x' pn' ps' bn' bs' n' ki'=>
  s.eq s'&&(eo s.g nu de s'.g nu' de'&&(x.eq x'&&(me pn ps pn' ps'&&(mi bn bs bn' bs'&&(decide (n=n')&&(List.range n).all λi=>(ki i).eq<|ki' i)))))
 | .non,.non=>true
 | _,_=>false
def StOk (w:World):St->Sd->Prop
 | .non,_=>False
 | .mk s nu de x pn ps bn bs n ki,d=>(d.s=s/\d.pon=pn/\d.arn=bn/\d.kin=n)/\Sl w (.slice d.aq d.an d.ac) nu/\Sl w (.slice d.cq d.cn d.cc) de/\nu.length<=1048576/\de.length<=1048576/\
  ExOk w x d.e/\PtsOk w d.poq pn ps/\BdsOk w d.arq bn bs/\n<=1099511627776/\
  (n=0\/∃b o,d.kiq=some ⟨b,o,none⟩/\b<w.1.size/\∃ds:Nat->Sd,∀i,i<n->w.rangeAt b (o+i*21) (ds i).cells/\StOk w (ki i) (ds i))
theorem StOk.below (a:Below w.1.size w w'):∀{x:St} {d:Sd},StOk w x d->StOk w' x d:=by
 intro x
 induction x with
 | non=>exact λh=>h.elim
 | mk s nu de x pn ps bn bs n ki ih=>intro d h;unfold StOk at h ⊢;obtain⟨h1,h2,h3,h4,h5,h6,h7,l,m,k⟩:=h;refine⟨h1,h2.below a,h3.below a,h4,h5,h6.below a,h7.below a,l.below a,m,k.imp id ?_⟩;rintro⟨b,o,e,g,j,f⟩;exact⟨b,o,e,kw g a.size,j,λi hi=>⟨bU (f i hi).1 a g,ih i (f i hi).2⟩⟩
theorem zE {z:World} {d:Sd} (h:z.rangeAt b 0 d.cells):z.cell? ⟨b,0,none⟩=some (.int .i64 d.s.ru)/\z.cell? ⟨b,1,none⟩=some (.string d.s.nm)/\z.cell? ⟨b,2,none⟩=some (.string d.s.ot)/\z.cell? ⟨b,17,none⟩=some (.string d.s.en)/\z.cell? ⟨b,18,none⟩=some (.int .i64 d.s.ve)/\z.cell? ⟨b,6,none⟩=some (.int .i64 d.s.kk)/\z.cell? ⟨b,7,none⟩=some (.int .i64 d.s.nn)/\z.cell? ⟨b,8,none⟩=some (.int .i64 d.s.pr)/\z.cell? ⟨b,16,none⟩=some (.slice d.poq d.pon d.poc)/\z.cell? ⟨b,19,none⟩=some (.slice d.arq d.arn d.arc)/\z.cell? ⟨b,20,none⟩=some (.slice d.kiq d.kin d.kic):=
 ⟨h 0 _ rfl,h 1 _ rfl,h 2 _ rfl,h 17 _ rfl,h 18 _ rfl,h 6 _ rfl,h 7 _ rfl,h 8 _ rfl,h 16 _ rfl,h 19 _ rfl,h 20 _ rfl⟩
theorem BN {z:World} {d:Sd} (h:z.rangeAt b 0 d.cells):z.rangeAt b 3 [.bool d.s.g,.slice d.aq d.an d.ac,.slice d.cq d.cn d.cc]/\z.rangeAt b 9 [.int .i64 d.e.k,.int .i64 d.e.f,.bool d.e.neg,.slice d.e.aq d.e.an d.e.ac,.slice d.e.cq d.e.cn d.e.cc,.string d.e.m,.slice d.e.sq d.e.sn d.e.sc]:=
 ⟨λj v hv=>by have:=h (3+j) v (by match j,hv with | 0,hv=>exact hv | 1,hv=>exact hv | 2,hv=>exact hv);rwa [mF] at this,λj v hv=>by have:=h (9+j) v (by match j,hv with | 0,hv=>exact hv | 1,hv=>exact hv | 2,hv=>exact hv | 3,hv=>exact hv | 4,hv=>exact hv | 5,hv=>exact hv | 6,hv=>exact hv);rwa [mF] at this⟩
theorem QD {d e:Sd} {R X P B K:Bool}
  (Q:CA w 39 #[.agg<|qA d.s.g d.aq d.an d.ac d.cq d.cn d.cc,.agg<|qA e.s.g e.aq e.an e.ac e.cq e.cn e.cc] (.bool R))
  (S:CA w 40 #[.agg<|nA d.e,.agg<|nA e.e] (.bool X))
  (O:CA w 43 #[.slice d.poq d.pon d.poc,.slice e.poq e.pon e.poc,.func (.func 41) #[] #[]] (.bool P))
  (M:CA w 44 #[.slice d.arq d.arn d.arc,.slice e.arq e.arn e.arc,.func (.func 42) #[] #[]] (.bool B))
  (N:CA w 45 #[.slice d.kiq d.kin d.kic,.slice e.kiq e.kin e.kic,.func (.func 25) #[] #[]] (.bool K)):
  bF w 25 #[.agg d.cells.toArray,.agg e.cells.toArray] (.bool<|d.s.eq e.s&&(R&&(X&&(P&&(B&&K))))):=by
 obtain⟨T,r⟩:∃T,Hid (d.s.eq e.s=T):=⟨_,rfl⟩;rw[r.out];go_enter func25,ntmps25;go_upto_region 1 with fail;generalize u:(w.alloc _).alloc _=t;have s:Hid (Below w.1.size w t):=by rw[<-u];exact dF _ _ _
 have y:Hid (t.rangeAt w.1.size 0 d.cells):=by rw[<-u];exact mV (oe w d.cells 42) _
 have A:Hid (t.rangeAt (w.1.size+1) 0 e.cells):=by rw[<-u];have h:=oe (w.alloc<|.cells d.cells.toArray 42) e.cells 42;rwa [show (w.alloc<|.cells d.cells.toArray 42).1.size=w.1.size+1 by simp] at h
 have V:Hid (w.1.size+1<t.1.size):=by rw[<-u];exact bC<|by simp
 clear u;have x:Hid (∀z,Below t.1.size t z->Below w.1.size w z/\z.rangeAt w.1.size 0 d.cells/\z.rangeAt (w.1.size+1) 0 e.cells):=λz h=>⟨cV s.out h,bU y.out h<|by have:=V.out;omega,bU A.out h V.out⟩;obtain⟨a0,a,f,g,i,j,k,l,a8,a9,b0⟩:=zE y.out;obtain⟨c0,c1,c2,c3,c4,m,o,c7,c8,c9,d0⟩:=zE A.out;have HR:=bC<|Q _ s.out;have Z:=bC<|BN y.out;have E1:=bC<|BN A.out;have HX:=bC S;have HP:=bC O;have HB:=bC M;have HK:=bC N;have nb:Hid (d.s.eq e.s=((decide (d.s.ru=e.s.ru)&&decide (d.s.nm.toList=e.s.nm.toList)&&decide (d.s.ot.toList=e.s.ot.toList)&&decide (d.s.en.toList=e.s.en.toList)&&decide (d.s.ve=e.s.ve))&&(decide (d.s.kk=e.s.kk)&&decide (d.s.nn=e.s.nn)&&decide (d.s.pr=e.s.pr)))):=bC rfl;clear Q S O M N;generalize d.s.ru=r1 at a0 a f g i j k l c0 c1 c2 c3 c4 m o c7 nb;generalize e.s.ru=r2 at a0 a f g i j k l c0 c1 c2 c3 c4 m o c7 nb;generalize d.s.nm=m1 at a0 a f g i j k l c0 c1 c2 c3 c4 m o c7 nb;generalize e.s.nm=m2 at a0 a f g i j k l c0 c1 c2 c3 c4 m o c7 nb;generalize d.s.ot=o1 at a0 a f g i j k l c0 c1 c2 c3 c4 m o c7 nb;generalize e.s.ot=o2 at a0 a f g i j k l c0 c1 c2 c3 c4 m o c7 nb;generalize d.s.en=n1 at a0 a f g i j k l c0 c1 c2 c3 c4 m o c7 nb;generalize e.s.en=n2 at a0 a f g i j k l c0 c1 c2 c3 c4 m o c7 nb;generalize d.s.ve=v1 at a0 a f g i j k l c0 c1 c2 c3 c4 m o c7 nb;generalize e.s.ve=v2 at a0 a f g i j k l c0 c1 c2 c3 c4 m o c7 nb;generalize d.s.kk=k1 at a0 a f g i j k l c0 c1 c2 c3 c4 m o c7 nb;generalize e.s.kk=k2 at a0 a f g i j k l c0 c1 c2 c3 c4 m o c7 nb;generalize d.s.nn=j1 at a0 a f g i j k l c0 c1 c2 c3 c4 m o c7 nb;generalize e.s.nn=j2 at a0 a f g i j k l c0 c1 c2 c3 c4 m o c7 nb;generalize d.s.pr=p1 at a0 a f g i j k l c0 c1 c2 c3 c4 m o c7 nb;generalize e.s.pr=p2 at a0 a f g i j k l c0 c1 c2 c3 c4 m o c7 nb;by_cases e1:r1=r2;rotate_left
 .go_wp2_with fail;go_ret;exact⟨by rw[<-r.out,nb.out];simp[e1],s.out⟩
 subst e1;by_cases e2:m1.toList=m2.toList;rotate_left
 .go_wp2_with fail;go_ret;exact⟨by rw[<-r.out,nb.out];simp[e2],s.out⟩
 by_cases F:o1.toList=o2.toList;rotate_left
 .go_wp2_with fail;go_ret;exact⟨by rw[<-r.out,nb.out];simp[F],s.out⟩
 by_cases G:n1.toList=n2.toList;rotate_left
 .go_wp2_with fail;go_ret;exact⟨by rw[<-r.out,nb.out];simp[G],s.out⟩
 by_cases H:v1=v2;rotate_left
 .go_wp2_with fail;go_ret;exact⟨by rw[<-r.out,nb.out];simp[H],s.out⟩
 subst H;by_cases I:k1=k2;rotate_left
 .go_wp2_with fail;go_ret;exact⟨by rw[<-r.out,nb.out];simp[I],s.out⟩
 subst I;by_cases J:j1=j2;rotate_left
 .go_wp2_with fail;go_ret;exact⟨by rw[<-r.out,nb.out];simp[J],s.out⟩
 subst J;by_cases L:p1=p2;rotate_left
 .go_wp2_with fail;go_ret;exact⟨by rw[<-r.out,nb.out];simp[L],s.out⟩
 subst L
 go_wp2_with (first
  | (with_reducible refine cW (op:=⟨some 61,_,_,_,_,_⟩) pe 60 w.1.size 3 [.bool d.s.g,.slice d.aq d.an d.ac,.slice d.cq d.cn d.cc] Z.out.1 rfl ?_)
  | (with_reducible refine cW (op:=⟨some 63,_,_,_,_,_⟩) pe 62 (w.1.size+1) 3 [.bool e.s.g,.slice e.aq e.an e.ac,.slice e.cq e.cn e.cc] E1.out.1 rfl ?_)
  | (go_at_call 39;refine jR HR.out λw2 U=>?_
     have b2:=bC U;have K:=bC<|x.out _ U;have D2:=bC<|BN K.out.2.1;have E2:=bC<|BN K.out.2.2;have ad:=bC<|HX.out _ K.out.1
     cases R)
  | (with_reducible refine cW (op:=⟨some 69,_,_,_,_,_⟩) eU 68 w.1.size 9 [.int .i64 d.e.k,.int .i64 d.e.f,.bool d.e.neg,.slice d.e.aq d.e.an d.e.ac,.slice d.e.cq d.e.cn d.e.cc,.string d.e.m,.slice d.e.sq d.e.sn d.e.sc] D2.out.2 rfl ?_)
  | (with_reducible refine cW (op:=⟨some 71,_,_,_,_,_⟩) eU 70 (w.1.size+1) 9 [.int .i64 e.e.k,.int .i64 e.e.f,.bool e.e.neg,.slice e.e.aq e.e.an e.e.ac,.slice e.e.cq e.e.cn e.e.cc,.string e.e.m,.slice e.e.sq e.e.sn e.e.sc] E2.out.2 rfl ?_)
  | (go_at_call 40;refine jR ad.out λw3 ae=>?_
     have C:=bC<|cV b2.out ae;have K:=bC<|x.out _ C.out;obtain⟨-,-,-,-,-,-,-,-,u8,u9,W⟩:=zE K.out.2.1;obtain⟨-,-,-,-,-,-,-,-,y8,y9,Y⟩:=zE K.out.2.2;have ac:=bC<|HP.out _ K.out.1
     cases X)
  | (go_at_call 43;refine jR ac.out λw4 af=>?_
     have D:=bC<|cV C.out af;have K:=bC<|x.out _ D.out;obtain⟨-,-,-,-,-,-,-,-,-,u9,W⟩:=zE K.out.2.1;obtain⟨-,-,-,-,-,-,-,-,-,y9,Y⟩:=zE K.out.2.2;have aa:=bC<|HB.out _ K.out.1
     cases P)
  | (go_at_call 44;refine jR aa.out λw5 ag=>?_
     have E:=bC<|cV D.out ag;have K:=bC<|x.out _ E.out;obtain⟨-,-,-,-,-,-,-,-,-,-,W⟩:=zE K.out.2.1;obtain⟨-,-,-,-,-,-,-,-,-,-,Y⟩:=zE K.out.2.2;have ab:=bC<|HK.out _ K.out.1
     cases B)
  | (go_at_call 45;refine jR ab.out λw6 ah=>?_
     have K:=bC<|x.out _<|cV E.out ah))
 all_goals
  go_ret;exact⟨by rw[<-r.out,nb.out];simp[e2,F,G],K.out.1⟩
theorem xu:∀(x y:St) (d e:Sd) (w:World),StOk w x d->StOk w y e->
  bF w 25 #[d.val,e.val] (.bool<|x.eq y):=by
 intro x
 induction x with
 | non=>exact λy d e w g=>g.elim
 | mk s nu de x pn ps bn bs n ki ih=>
  intro y d e w g k
  cases y with
  | non=>exact k.elim
  | mk s' nu' de' x' pn' ps' bn' bs' n' ki'=>
  unfold StOk at g k;obtain⟨⟨rfl,rfl,rfl,rfl⟩,E,F,Q,R,G,H,I,z,D⟩:=g;obtain⟨⟨rfl,rfl,rfl,rfl⟩,K,L,S,T,M,N,O,P,J⟩:=k;unfold St.eq
  refine QD (λa h1=>Jg (E.below h1) (K.below h1) (F.below h1) (L.below h1) (by omega) (by omega) (by omega)<|by omega)
   (λa h1=>L8 x x' d.e e.e a (G.below h1)<|M.below h1)
   (λa h1=>C3 (H.below h1)<|N.below h1)
   (λa h1=>C4 (I.below h1)<|O.below h1) (λa h1=>?_)
  by_cases j:d.kin=e.kin
  .by_cases h0:d.kin=0
   .have h0':e.kin=0:=(by omega);rw[h0,h0'];refine(QC _ _ _ _ _ a).mono ?_;rintro r w' ⟨rfl,rfl⟩;exact⟨by simp,kE _ _⟩
   rcases D with h | ⟨b,o,hq,u,f,m⟩
   .exact absurd h h0
   rcases J with h | ⟨A,o',B,l,es,t⟩
   .omega
   rw[hq,B,<-j];simp only[sj,pg]
   exact QB b o _ A o' _ d.kin (λi=>(f i).cells) (λi=>(es i).cells) (λi=>(ki i).eq<|ki' i) a z (λi hi=>bU (m i hi).1 h1 u) (λi hi=>bU (t i<|by omega).1 h1 l) (kw u h1.size) (kw l h1.size)
    (λi _=>⟨(f i).len,(f i).one⟩) (λi _=>⟨(es i).len,(es i).one⟩)
    (λi hi C h2=>ih i (ki' i) (f i) (es i) C (((m i hi).2.below h1).below h2)<|((t i<|by omega).2.below h1).below h2)
  refine(xt _ _ _ _ _ _ _ a z P j).mono ?_;rintro r w' ⟨rfl,rfl⟩;exact⟨by simp[j],kE _ _⟩
theorem QE {aZ ba aL aM aS aU aX aY bb bc a7 a8 a3 a4:Int} {aP aQ aV aW aA aB a9 a':ByteArray} {g1 g2 a5 a6:Bool} {a1 a2 c1 c2 ax ay az a0 aC aD:Value} {aj ak aq1 aq2 aN aO:Option Addr} {m T U bn ac1 ac2 kn aI aK:Nat} (xs ys:Nat->Va) (a d:Nat->Bi) (R X:Nat->Bool)
  (bf:m<=1099511627776) (be:bn<=1099511627776) (_hkn:kn<=1099511627776)
  (ar:m=0\/∃b o,aj=some ⟨b,o,none⟩/\b<w.1.size/\∀i,i<m->VaAt w b (o+i*4) (xs i))
  (au:m=0\/∃b o,ak=some ⟨b,o,none⟩/\b<w.1.size/\∀i,i<m->VaAt w b (o+i*4) (ys i))
  (ap:bn=0\/∃b o,aq1=some ⟨b,o,none⟩/\b<w.1.size/\∀i,i<bn->BiAt w b (o+i*8) (a i))
  (aq:bn=0\/∃b o,aq2=some ⟨b,o,none⟩/\b<w.1.size/\∀i,i<bn->BiAt w b (o+i*8) (d i))
  (hR:∀i,i<m->∀t,Below w.1.size w t->bF t 51 #[.agg #[.bool (xs i).g,.slice (xs i).aq (xs i).an (xs i).ac,.slice (xs i).cq (xs i).cn (xs i).cc],.agg #[.bool (ys i).g,.slice (ys i).aq (ys i).an (ys i).ac,.slice (ys i).cq (ys i).cn (ys i).cc]] (.bool<|R i))
  (hX:∀i,i<bn->∀t,Below w.1.size w t->bF t 52 #[.agg #[.int .i64 (a i).ek,.int .i64 (a i).ef,.bool (a i).eg,.slice (a i).eaq (a i).ean (a i).eac,.slice (a i).ecq (a i).ecn (a i).ecc,.string (a i).em,.slice (a i).esq (a i).esn (a i).esc],.agg #[.int .i64 (d i).ek,.int .i64 (d i).ef,.bool (d i).eg,.slice (d i).eaq (d i).ean (d i).eac,.slice (d i).ecq (d i).ecn (d i).ecc,.string (d i).em,.slice (d i).esq (d i).esn (d i).esc]] (.bool<|X i)):
  bF w 53 #[.agg #[.int .i64 aZ,.string aP,.string aV,.bool g1,a1,c1,.int .i64 aL,.int .i64 aS,.int .i64 aX,.int .i64 a7,.int .i64 a3,.bool a5,ax,az,.string a9,aC,.slice aj m T,.string aA,.int .i64 bb,.slice aq1 bn ac1,.slice aN kn aI],.agg #[.int .i64 ba,.string aQ,.string aW,.bool g2,a2,c2,.int .i64 aM,.int .i64 aU,.int .i64 aY,.int .i64 a8,.int .i64 a4,.bool a6,ay,a0,.string a',aD,.slice ak m U,.string aB,.int .i64 bc,.slice aq2 bn ac2,.slice aO kn aK]] (.bool<|((List.range m).all λi=>(decide ((xs i).m.toList=(ys i).m.toList)&&R i))&&((List.range bn).all λi=>(decide ((a i).m.toList=(d i).m.toList)&&X i))):=by
 have h2:∀o g,Below w.1.size w ((w.alloc o).alloc g):=λo g=>dF w o g;have H1:=bC ar;have H2:=bC au;have H3:=bC ap;have H4:=bC aq;clear ar au ap aq;go_enter func53,ntmps53;go_wp2_with fail;generalize N:(w.alloc _).alloc _=t at*;have aE:Below w.1.size w t:=by rw[<-N];exact h2 _ _
 have bg:w.1.size+2<=t.1.size:=by rw[<-N];simp
 have p1:t.cell? ⟨w.1.size,16,none⟩=some (.slice aj m T):=by rw[<-N];simp
 have p2:t.cell? ⟨w.1.size+1,16,none⟩=some (.slice ak m U):=by rw[<-N];simp
 have b1:t.cell? ⟨w.1.size,19,none⟩=some (.slice aq1 bn ac1):=by rw[<-N];simp
 have al:t.cell? ⟨w.1.size+1,19,none⟩=some (.slice aq2 bn ac2):=by rw[<-N];simp
 clear N h2
 go_loopw [35] (λi wr=>∃k:Nat,k<=m/\i=.int .i64 k/\(∀j,j<k->(decide ((xs j).m.toList=(ys j).m.toList)&&R j)=true)/\Below t.1.size t wr) (λi _=>m - (intOf i).toNat)
 case atStart=>exact⟨0,kL _,rfl,λj M=>by omega,kE _ _⟩
 case round=>
  obtain⟨k,hk,rfl,Q,r⟩:=hrel;have O:=bC Q;clear Q;have s:Below w.1.size w wr:=cV aE r;by_cases y:k<m
  .have am:(k:Int)<(m:Int):=by omega
   rcases H1.out with h0 | ⟨b,o,rfl,ac,af⟩
   .omega
   rcases H2.out with h0 | ⟨l,g,rfl,aR,ag⟩
   .omega
   obtain⟨D,E,F,G⟩:=(af k y).below s ac;obtain⟨H,I,J,K⟩:=(ag k y).below s aR;have B:wr.cell? ⟨w.1.size,16,none⟩=some (.slice (some ⟨b,o,none⟩) m T):=fg r (by omega) p1;have C:wr.cell? ⟨w.1.size+1,16,none⟩=some (.slice (some ⟨l,g,none⟩) m U):=fg r (by omega) p2;have aa:=hR k y;have aH:=r.size;have jy:w.1.size+2<=wr.1.size:=by omega
   cases A:decide ((xs k).m.toList=(ys k).m.toList) with
   | true=>
    have ai:(xs k).m.toList=(ys k).m.toList:=(by simpa using A);go_wp2_with fail
    go_region_held3 (λz=>z.cell? ⟨w.1.size,16,none⟩=some (.slice (some ⟨b,o,none⟩) m T)/\z.cell? ⟨w.1.size+1,16,none⟩=some (.slice (some ⟨l,g,none⟩) m U)/\z.cell? ⟨b,o+k*4,none⟩=some (.string (xs k).m)/\z.cell? ⟨b,o+k*4+1,none⟩=some (.bool (xs k).g)/\z.cell? ⟨b,o+k*4+2,none⟩=some (.slice (xs k).aq (xs k).an (xs k).ac)/\z.cell? ⟨b,o+k*4+3,none⟩=some (.slice (xs k).cq (xs k).cn (xs k).cc)/\z.cell? ⟨l,g+k*4,none⟩=some (.string (ys k).m)/\z.cell? ⟨l,g+k*4+1,none⟩=some (.bool (ys k).g)/\z.cell? ⟨l,g+k*4+2,none⟩=some (.slice (ys k).aq (ys k).an (ys k).ac)/\z.cell? ⟨l,g+k*4+3,none⟩=some (.slice (ys k).cq (ys k).cn (ys k).cc)) (first | exact⟨B,C,D,E,F,G,H,I,J,K⟩ | exact P)
     (first
       | (go_at_call 51;refine(aa _ ?_).mono ?_;exact s.drew;rintro e w5 ⟨rfl,f⟩
          have aG:wr.1.size<=wr.drew.1.size:=kF _;have x:b<wr.drew.1.size:=(by omega);have u:l<wr.drew.1.size:=(by omega);have ad:w.1.size<wr.drew.1.size:=(by omega);have ae:w.1.size+1<wr.drew.1.size:=by omega
          have P:w5.cell? ⟨w.1.size,16,none⟩=some (.slice (some ⟨b,o,none⟩) m T)/\w5.cell? ⟨w.1.size+1,16,none⟩=some (.slice (some ⟨l,g,none⟩) m U)/\w5.cell? ⟨b,o+k*4,none⟩=some (.string (xs k).m)/\w5.cell? ⟨b,o+k*4+1,none⟩=some (.bool (xs k).g)/\w5.cell? ⟨b,o+k*4+2,none⟩=some (.slice (xs k).aq (xs k).an (xs k).ac)/\w5.cell? ⟨b,o+k*4+3,none⟩=some (.slice (xs k).cq (xs k).cn (xs k).cc)/\w5.cell? ⟨l,g+k*4,none⟩=some (.string (ys k).m)/\w5.cell? ⟨l,g+k*4+1,none⟩=some (.bool (ys k).g)/\w5.cell? ⟨l,g+k*4+2,none⟩=some (.slice (ys k).aq (ys k).an (ys k).ac)/\w5.cell? ⟨l,g+k*4+3,none⟩=some (.slice (ys k).cq (ys k).cn (ys k).cc):=⟨fg f ad B,fg f ae C,fg f x D,fg f x E,fg f x F,fg f x G,fg f u H,fg f u I,fg f u J,fg f u K⟩))
    have ab:Below w.1.size w w5:=cV s.drew f;have dM:=cV r.drew f;clear P D E F G H I J K B C f
    cases S:R k with
    | false=>go_wp2_with fail;go_ret;have L:(List.range m).all (λi=>(decide ((xs i).m.toList=(ys i).m.toList)&&R i))=false:=(by rw[lV];exact⟨k,kP.2 y,by simp[S]⟩);skip;rw[L];exact⟨by simp,ab⟩
    | true=>
     go_wp2_with fail;go_roundw
     case rel=>
      refine⟨k+1,by omega,by go_num,λj M=>?_,dM⟩
      rcases kS j k with h | h
      .exact O.out j h
      have:j=k:=(by omega);subst this;simp[A,S]
     case measure=>simp[intOf];omega
   | false=>
    have ai:¬(xs k).m.toList=(ys k).m.toList:=(by simpa using A);go_wp2_with fail
    go_quiet (fail)
    clear D E F G H I J K B C;go_wp2_with fail;go_ret;have L:(List.range m).all (λi=>(decide ((xs i).m.toList=(ys i).m.toList)&&R i))=false:=(by rw[lV];exact⟨k,kP.2 y,by simp[A]⟩);skip;rw[L];exact⟨by simp,ee s _⟩
  have ah:m=k:=(by omega);subst ah;have gi:(List.range m).all (λi=>(decide ((xs i).m.toList=(ys i).m.toList)&&R i))=true:=(by rw[lj];intro j M;exact O.out j<|kP.1 M);have an:=fg r (by omega) b1;have ao:=fg r (by omega) al;have av:w.1.size+2<=wr.1.size:=(by have:=r.size;omega);clear p1 p2 b1 al O;go_wp2_with fail
  go_loopw [71] (λi z=>∃k:Nat,k<=bn/\i=.int .i64 k/\(∀j,j<k->(decide ((a j).m.toList=(d j).m.toList)&&X j)=true)/\Below wr.1.size wr z) (λi _=>bn - (intOf i).toNat)
  case atStart=>exact⟨0,kL _,rfl,λj M=>by omega,kE _ _⟩
  case round=>
   have aF:=s;have bh:=av;have d1:=an;have d2:=ao;clear s av an ao r;obtain⟨k,hk,rfl,Q,r⟩:=hrel;have O:=bC Q;clear Q;have s:Below w.1.size w wr:=cV aF r;by_cases y:k<bn
   .have am:(k:Int)<(bn:Int):=by omega
    rcases H3.out with h0 | ⟨b,o,rfl,ac,af⟩
    .omega
    rcases H4.out with h0 | ⟨l,g,rfl,aR,ag⟩
    .omega
    obtain⟨D,E,F,G,V,W,Y,Z⟩:=(af k y).below s ac;obtain⟨H,I,J,K,y4,y5,y6,y7⟩:=(ag k y).below s aR;have B:wr.cell? ⟨w.1.size,19,none⟩=some (.slice (some ⟨b,o,none⟩) bn ac1):=fg r (by omega) d1;have C:wr.cell? ⟨w.1.size+1,19,none⟩=some (.slice (some ⟨l,g,none⟩) bn ac2):=fg r (by omega) d2;have aa:=hX k y;have aH:=r.size;have jy:w.1.size+2<=wr.1.size:=by omega
    cases A:decide ((a k).m.toList=(d k).m.toList) with
    | true=>
     have ai:(a k).m.toList=(d k).m.toList:=(by simpa using A);go_wp2_with fail
     go_region_held3 (λz=>z.cell? ⟨w.1.size,19,none⟩=some (.slice (some ⟨b,o,none⟩) bn ac1)/\z.cell? ⟨w.1.size+1,19,none⟩=some (.slice (some ⟨l,g,none⟩) bn ac2)/\z.cell? ⟨b,o+k*8,none⟩=some (.string (a k).m)/\z.cell? ⟨b,o+k*8+1,none⟩=some (.int .i64 (a k).ek)/\z.cell? ⟨b,o+k*8+2,none⟩=some (.int .i64 (a k).ef)/\z.cell? ⟨b,o+k*8+3,none⟩=some (.bool (a k).eg)/\z.cell? ⟨b,o+k*8+4,none⟩=some (.slice (a k).eaq (a k).ean (a k).eac)/\z.cell? ⟨b,o+k*8+5,none⟩=some (.slice (a k).ecq (a k).ecn (a k).ecc)/\z.cell? ⟨b,o+k*8+6,none⟩=some (.string (a k).em)/\z.cell? ⟨b,o+k*8+7,none⟩=some (.slice (a k).esq (a k).esn (a k).esc)/\z.cell? ⟨l,g+k*8,none⟩=some (.string (d k).m)/\z.cell? ⟨l,g+k*8+1,none⟩=some (.int .i64 (d k).ek)/\z.cell? ⟨l,g+k*8+2,none⟩=some (.int .i64 (d k).ef)/\z.cell? ⟨l,g+k*8+3,none⟩=some (.bool (d k).eg)/\z.cell? ⟨l,g+k*8+4,none⟩=some (.slice (d k).eaq (d k).ean (d k).eac)/\z.cell? ⟨l,g+k*8+5,none⟩=some (.slice (d k).ecq (d k).ecn (d k).ecc)/\z.cell? ⟨l,g+k*8+6,none⟩=some (.string (d k).em)/\z.cell? ⟨l,g+k*8+7,none⟩=some (.slice (d k).esq (d k).esn (d k).esc)) (first | exact⟨B,C,D,E,F,G,V,W,Y,Z,H,I,J,K,y4,y5,y6,y7⟩ | exact P)
      (first
        | (go_at_call 52;refine(aa _ ?_).mono ?_;exact s.drew;rintro e w5 ⟨rfl,f⟩
           have aG:wr.1.size<=wr.drew.1.size:=kF _;have x:b<wr.drew.1.size:=(by omega);have u:l<wr.drew.1.size:=(by omega);have ad:w.1.size<wr.drew.1.size:=(by omega);have ae:w.1.size+1<wr.drew.1.size:=by omega
           have P:w5.cell? ⟨w.1.size,19,none⟩=some (.slice (some ⟨b,o,none⟩) bn ac1)/\w5.cell? ⟨w.1.size+1,19,none⟩=some (.slice (some ⟨l,g,none⟩) bn ac2)/\w5.cell? ⟨b,o+k*8,none⟩=some (.string (a k).m)/\w5.cell? ⟨b,o+k*8+1,none⟩=some (.int .i64 (a k).ek)/\w5.cell? ⟨b,o+k*8+2,none⟩=some (.int .i64 (a k).ef)/\w5.cell? ⟨b,o+k*8+3,none⟩=some (.bool (a k).eg)/\w5.cell? ⟨b,o+k*8+4,none⟩=some (.slice (a k).eaq (a k).ean (a k).eac)/\w5.cell? ⟨b,o+k*8+5,none⟩=some (.slice (a k).ecq (a k).ecn (a k).ecc)/\w5.cell? ⟨b,o+k*8+6,none⟩=some (.string (a k).em)/\w5.cell? ⟨b,o+k*8+7,none⟩=some (.slice (a k).esq (a k).esn (a k).esc)/\w5.cell? ⟨l,g+k*8,none⟩=some (.string (d k).m)/\w5.cell? ⟨l,g+k*8+1,none⟩=some (.int .i64 (d k).ek)/\w5.cell? ⟨l,g+k*8+2,none⟩=some (.int .i64 (d k).ef)/\w5.cell? ⟨l,g+k*8+3,none⟩=some (.bool (d k).eg)/\w5.cell? ⟨l,g+k*8+4,none⟩=some (.slice (d k).eaq (d k).ean (d k).eac)/\w5.cell? ⟨l,g+k*8+5,none⟩=some (.slice (d k).ecq (d k).ecn (d k).ecc)/\w5.cell? ⟨l,g+k*8+6,none⟩=some (.string (d k).em)/\w5.cell? ⟨l,g+k*8+7,none⟩=some (.slice (d k).esq (d k).esn (d k).esc):=⟨fg f ad B,fg f ae C,fg f x D,fg f x E,fg f x F,fg f x G,fg f x V,fg f x W,fg f x Y,fg f x Z,fg f u H,fg f u I,fg f u J,fg f u K,fg f u y4,fg f u y5,fg f u y6,fg f u y7⟩))
     have ab:Below w.1.size w w5:=cV s.drew f;have dM:=cV r.drew f;clear P D E F G V W Y Z H I J K y4 y5 y6 y7 B C f
     cases S:X k with
     | false=>go_wp2_with fail;go_ret;have L:(List.range bn).all (λi=>(decide ((a i).m.toList=(d i).m.toList)&&X i))=false:=(by rw[lV];exact⟨k,kP.2 y,by simp[S]⟩);skip;rw[L];exact⟨by simp,ab⟩
     | true=>
      go_wp2_with fail;go_roundw
      case rel=>
       refine⟨k+1,by omega,by go_num,λj M=>?_,dM⟩
       rcases kS j k with h | h
       .exact O.out j h
       have:j=k:=(by omega);subst this;simp[A,S]
      case measure=>simp[intOf];omega
    | false=>
     have ai:¬(a k).m.toList=(d k).m.toList:=(by simpa using A);go_wp2_with fail
     go_quiet (fail)
     clear D E F G V W Y Z H I J K y4 y5 y6 y7 B C;go_wp2_with fail;go_ret;have L:(List.range bn).all (λi=>(decide ((a i).m.toList=(d i).m.toList)&&X i))=false:=(by rw[lV];exact⟨k,kP.2 y,by simp[A]⟩);skip;rw[L];exact⟨by simp,ee s _⟩
   have ah:bn=k:=(by omega);subst ah;have gj:(List.range bn).all (λi=>(decide ((a i).m.toList=(d i).m.toList)&&X i))=true:=(by rw[lj];intro j M;exact O.out j<|kP.1 M);go_wp2_with fail;go_ret;rw[gi,gj];exact⟨rfl,s⟩
theorem QF {ab ac L M R S Z aa ad ae B C x y:Int} {P Q T U F G D E:ByteArray} {g1 g2 z A:Bool} {l m c1 c2 r s t u H I:Value} {X Y aq1 aq2 N O:Option Addr} {e f V W a d ac1 ac2 g i J K:Nat}
  (_b1:e<=1099511627776) (b2:f<=1099511627776) (_b3:a<=1099511627776) (b4:d<=1099511627776) (_b5:g<=1099511627776) (_b6:i<=1099511627776) (h:¬(e=f/\a=d/\g=i)):
  bF w 53 #[.agg #[.int .i64 ab,.string P,.string T,.bool g1,l,c1,.int .i64 L,.int .i64 R,.int .i64 Z,.int .i64 B,.int .i64 x,.bool z,r,t,.string D,H,.slice X e V,.string F,.int .i64 ad,.slice aq1 a ac1,.slice N g J],.agg #[.int .i64 ac,.string Q,.string U,.bool g2,m,c2,.int .i64 M,.int .i64 S,.int .i64 aa,.int .i64 C,.int .i64 y,.bool A,s,u,.string E,I,.slice Y f W,.string G,.int .i64 ae,.slice aq2 d ac2,.slice O i K]] (.bool false):=by
 have h2:∀o k,Below w.1.size w ((w.alloc o).alloc k):=λo k=>dF w o k;by_cases k1:e=f
 .subst k1;by_cases k2:a=d
  .subst k2;have j:¬(g:Int)=(i:Int):=λj=>h ⟨rfl,rfl,by omega⟩;clear h;go_enter func53,ntmps53;go_wp2_with fail;go_ret;exact⟨rfl,h2 _ _⟩
  have j:¬(a:Int)=(d:Int):=(by omega);clear h;go_enter func53,ntmps53;go_wp2_with fail;go_ret;exact⟨rfl,h2 _ _⟩
 have j:¬(e:Int)=(f:Int):=by omega
 clear h;go_enter func53,ntmps53;go_wp2_with fail;go_ret;exact⟨rfl,h2 _ _⟩
def mo (pn:Nat) (ps:Nat->Pt) (bn:Nat) (bs:Nat->Bd) (n pn':Nat) (ps':Nat->Pt) (bn':Nat) (bs':Nat->Bd) (n':Nat):Bool:=
 me pn ps pn' ps'&&(mi bn bs bn' bs'&&decide (n=n'))
theorem xv {ps:Nat->Pt} (h:PtsOk w q n ps):∃a:Nat->Va,(n=0\/∃b o,q=some ⟨b,o,none⟩/\b<w.1.size/\∀i,i<n->VaAt w b (o+i*4) (a i))/\∀i,i<n->PtOk w (ps i) (a i):=by
 rcases h.2 with h0 | ⟨b,o,rfl,e,a,d⟩
 .exact⟨λ_=>⟨⟨#[]⟩,false,none,0,0,none,0,0⟩,.inl h0,λi hi=>by omega⟩
 exact⟨a,.inr ⟨b,o,rfl,e,λi hi=>(d i hi).1⟩,λi hi=>(d i hi).2⟩
theorem xw {ps:Nat->Bd} (h:BdsOk w q n ps):∃a:Nat->Bi,(n=0\/∃b o,q=some ⟨b,o,none⟩/\b<w.1.size/\∀i,i<n->BiAt w b (o+i*8) (a i))/\∀i,i<n->BdOk w (ps i) (a i):=by
 rcases h.2 with h0 | ⟨b,o,rfl,e,a,d⟩
 .exact⟨λ_=>⟨⟨#[]⟩,0,0,false,none,0,0,none,0,0,⟨#[]⟩,none,0,0⟩,.inl h0,λi hi=>by omega⟩
 exact⟨a,.inr ⟨b,o,rfl,e,λi hi=>(d i hi).1⟩,λi hi=>(d i hi).2⟩
theorem L9 {f g:Nat->Bool} (h:∀i,i<n->f i=g i):(List.range n).all f=(List.range n).all g:=by rw[rO,lj,lj];exact⟨λk i hi=>(h i<|kP.1 hi) ▸ k i hi,λk i hi=>(h i<|kP.1 hi).symm ▸ k i hi⟩
theorem xy {d e:Sd} {ps j:Nat->Pt} {bs k:Nat->Bd} (h1:PtsOk w d.poq d.pon ps) (h2:PtsOk w e.poq e.pon j) (h3:BdsOk w d.arq d.arn bs) (h4:BdsOk w e.arq e.arn k) (o:d.kin<=1099511627776) (y:e.kin<=1099511627776):
  bF w 53 #[d.val,e.val] (.bool<|mo d.pon ps d.arn bs d.kin e.pon j e.arn k e.kin):=by
 by_cases h:d.pon=e.pon/\d.arn=e.arn/\d.kin=e.kin
 .obtain⟨k1,k2,k3⟩:=h;rw[<-k1] at h2;rw[<-k2] at h4;obtain⟨xs,E,s⟩:=xv h1;obtain⟨ys,G,u⟩:=xv h2;obtain⟨l,F,t⟩:=xw h3;obtain⟨m,H,x⟩:=xw h4;unfold mo me mi Sd.val Sd.cells;rw[<-k1,<-k2,<-k3];simp only[sj,pg,Bool.and_true]
  rw[L9 (n:=d.pon) (f:=λi=>(ps i).eq<|j i) (g:=λi=>decide ((xs i).m.toList=(ys i).m.toList)&&eo (ps i).g (ps i).nu (ps i).de (j i).g (j i).nu (j i).de) λi hi=>by rw[(s i hi).1,(u i hi).1];rfl,
   L9 (n:=d.arn) (f:=λi=>(bs i).eq<|k i) (g:=λi=>decide ((l i).m.toList=(m i).m.toList)&&(bs i).x.eq (k i).x) (λi hi=>by rw[(t i hi).1,(x i hi).1];rfl)]
  refine QE xs ys l m _ _ h1.1 h3.1 o E G F H (λi hi r a=>?_) λi hi r a=>?_
  .obtain⟨p1,p2,p3,p4,p5,p6⟩:=s i hi;obtain⟨q1,q2,A,B,C,D⟩:=u i hi;rw[<-p2,<-q2];exact Jl (p3.below a) (p4.below a) (A.below a) (B.below a) p5 C p6 D
  exact Jm _ _ (l i).nd (m i).nd r ((t i hi).2.below a)<|(x i hi).2.below a
 have z:mo d.pon ps d.arn bs d.kin e.pon j e.arn k e.kin=false:=by unfold mo me mi;rw[rq];intro hh;simp only[lL,mB] at hh;exact h ⟨hh.1.1,hh.2.1.1,hh.2.2⟩
 rw[z];exact QF h1.1 h2.1 h3.1 h4.1 o y h
