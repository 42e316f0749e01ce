import Derived.Test.YthcfmhgihcjloaaGreatDoorPk28
namespace Go.Proofs.YthcfmhgihcjloaaGreatDoor
open Go Go.RowKit Tryz
variable {w:World} {s:Si} {d:Sv} {D:Cd}
theorem NW (n:Bool) (a c:List Int):eo n a c n a c=true:=by unfold eo;split<;>simp_all
theorem Ex.eq_refl:∀x:Ex,x.eq x=true:=by
 intro x
 induction x with
 | non=>rfl
 | mk k f ng nu de m n ar ih=>unfold Ex.eq;rw[NW];simp[ih]
theorem St.eq_refl:∀x:St,x.eq x=true:=by
 intro x
 induction x with
 | non=>rfl
 | mk s nu de x pn ps bn bs n ki ih=>simp[St.eq,Sc.eq,NW,Ex.eq_refl,me,Pt.eq,mi,Bd.eq,ih]
theorem SiOk.nn (h:SiOk w s d):s.c.Nn:=⟨ep h.1.1,ep h.2.1.1,ep h.2.2.1.1,ep h.2.2.2.1.1⟩
theorem SiOk.iof (h:SiOk w s d):cN 81 #[.agg (s.iv d).toArray] w λe w'=>∃v,e=.returned v/\IAt w' v s.c.v/\Below w.1.size w w':=by obtain⟨h1,h2,h3,h4,a,b,f,g⟩:=h;exact xZ h1 h2 h3 h4 (by omega) (by omega) (by omega) (by omega) s.li s.hh
theorem DK:∃L:Nat,L<=68719476000/\∀(w:World) (s:Si) (d:Sv),SiOk w s d->so L s.c.v.n1 s.c.v.d1/\so L s.c.v.n2 s.c.v.d2:=by
 obtain⟨L,h1,h2,h3⟩:=JE;refine⟨L,h1,λw s d h=>?_⟩;obtain⟨s1,s2,a,b,e,f,g,i⟩:=h;have z:so L 0 0:=by have:=GT h2;exact⟨by omega,by omega⟩
 have q1:=Er h2 h3 s1.1 s2.1 (by omega) (by omega);have q2:=Er h2 h3 a.1 b.1 (by omega) (by omega);unfold IvC.v;split
 .exact⟨z,z⟩
 constructor
 .show so L s.c.lo.2.1 s.c.lo.2.2;unfold IvC.lo;split
  .exact z
  exact q1
 show so L s.c.hi.2.1 s.c.hi.2.2;unfold IvC.hi;split
 .exact z
 exact q2
theorem Kg (a:Bool × Int × Int):qS a a=0:=by unfold qS;rw[Int.sub_self];rfl
theorem FY {c:IvC}:(c.v.li=true->c.v.g1=false/\c.v.n1=0/\c.v.d1=0)/\(c.v.hh=true->c.v.g2=false/\c.v.n2=0/\c.v.d2=0):=by
 unfold IvC.v;split
 .exact⟨(λh=>by cases h),(λh=>by cases h)⟩
 refine⟨λh=>?_,λh=>?_⟩
 .have a:c.li=true:=h;simp[IvC.lo,a]
 have a:c.hh=true:=h;simp[IvC.hi,a]
theorem zg {s t:IvC} (z:s.Nn) (ht:t.Nn):s.v.sa t.v (qS (s.v.g1,s.v.n1,s.v.d1) (t.v.g1,t.v.n1,t.v.d1)) (qS (s.v.g2,s.v.n2,s.v.d2) (t.v.g2,t.v.n2,t.v.d2))=(s.ins t&&t.ins s):=by
 rw[<-yP z ht,<-yP ht z];obtain⟨f,g⟩:=FY (c:=s);obtain⟨i,j⟩:=FY (c:=t);generalize s.v=S at*;generalize t.v=T at*;obtain⟨g1,n1,d1,g2,n2,d2,li,hh,em⟩:=S;obtain⟨m,o,k,n,r,l,A,u,E⟩:=T;simp only at f g i j
 have one:∀(x y:Bool) (p q:Bool × Int × Int),(x=true->p=(false,0,0))->(y=true->q=(false,0,0))->(x==y&&decide (qS p q=0))=((y||(!x&&decide (qS q p<=0)))&&(x||(!y&&decide (qS p q<=0)))):=by
  intro x y p q F G;have:=NE p q;cases x<;>cases y
  .simp only[qO,sh,pg,beq_self_eq_true];by_cases h:qS p q=0
   .simp[h,show qS q p=0 by omega]
   by_cases h2:qS p q<=0
   .simp[h,show ¬qS q p<=0 by omega]
   simp[h,h2]
  .simp
  .simp
  rw[F rfl,G rfl,Kg];simp
 have B:=one li A (g1,n1,d1) (m,o,k) (λh=>by obtain⟨rfl,rfl,rfl⟩:=f h;rfl) (λh=>by obtain⟨rfl,rfl,rfl⟩:=i h;rfl);have C:=one hh u (g2,n2,d2) (n,r,l) (λh=>by obtain⟨rfl,rfl,rfl⟩:=g h;rfl) (λh=>by obtain⟨rfl,rfl,rfl⟩:=j h;rfl);unfold IvV.sa IvV.wi;cases em<;>cases E
 .simp only[Bool.or_self,Bool.false_eq_true,if_false];have e:∀a b c d:Bool,(a&&b&&c&&d)=((a&&c)&&(b&&d)):=by decide
  rw[e,B,C];clear one B C f g i j;generalize decide (qS (m,o,k) (g1,n1,d1)<=0)=k1;generalize decide (qS (g1,n1,d1) (m,o,k)<=0)=k2;generalize decide (qS (n,r,l) (g2,n2,d2)<=0)=H;generalize decide (qS (g2,n2,d2) (n,r,l)<=0)=I
  revert li A hh u k1 k2 H I
  decide
 .simp
 .simp
 simp
theorem NX {t:Si} {e:Sv} (h:SiOk w s d) (k:SiOk w t e):
  bF w 54 #[.agg (s.iv d).toArray,.agg (t.iv e).toArray] (.bool<|s.c.ins t.c&&t.c.ins s.c):=by
 obtain⟨L,l,f⟩:=DK;rw[<-zg h.nn k.nn];exact SD rfl rfl (λz j=>(h.below j).iof) (λz j=>(k.below j).iof) (λz a b g i=>GX g i l (f w s d h).1 (f w t e k).1) (λz a b g i=>GX g i l (f w s d h).2 (f w t e k).2)
theorem TT {t:Si} {e:Sv} (h:SiOk w s d) (k:SiOk w t e) (f:s.c.lg=false) (ht:t.c.lg=false) (b:Tb w):
  bF w 38 #[.agg (s.iv d).toArray,.agg (t.iv e).toArray] (.bool<|s.c.ins t.c&&t.c.ins s.c):=by
 have one:∀(z:World) (s t:Si) (d e:Sv),SiOk z s d->SiOk z t e->s.c.lg=false->t.c.lg=false->Tb z->bF z 65 #[.agg (s.iv d).toArray,.agg (t.iv e).toArray] (.tuple #[.bool<|s.c.ins t.c,.int .i64 0]):=by intro z s t d e h k f ht b;have g:=yM (w:=z) (g1s:=s.g1) (g2s:=s.g2) (lis:=s.li) (hhs:=s.hh) (g1t:=t.g1) (g2t:=t.g2) (lit:=t.li) (hht:=t.hh) h.1 h.2.1 h.2.2.1 h.2.2.2.1 (by have:=h.2.2.2.2.1;omega) (by have:=h.2.2.2.2.2.1;omega) (by have:=h.2.2.2.2.2.2.1;omega) (by have:=h.2.2.2.2.2.2.2;omega) k.1 k.2.1 k.2.2.1 k.2.2.2.1 (by have:=k.2.2.2.2.1;omega) (by have:=k.2.2.2.2.2.1;omega) (by have:=k.2.2.2.2.2.2.1;omega) (by have:=k.2.2.2.2.2.2.2;omega) b;have l1:(IvC.mk s.g1 (val s.nu1) (val s.de1) s.g2 (val s.nu2) (val s.de2) s.li s.hh).lg=false:=f;have l2:(IvC.mk t.g1 (val t.nu1) (val t.de1) t.g2 (val t.nu2) (val t.de2) t.li t.hh).lg=false:=ht;rw[l1,l2] at g;exact g
 exact SF rfl rfl (λz a=>one z s t d e (h.below a) (k.below a) f ht<|b.below a) (λz a=>one z t s e d (k.below a) (h.below a) ht f<|b.below a)
theorem zh {s:IvC} (h:s.Nn):s.ins s=true:=by
 have:=zg h h;rw[Kg,Kg] at this;have e:(s.ins s&&s.ins s)=s.ins s:=Bool.and_self _;rw[e] at this;rw[<-this];unfold IvV.sa;split
 .rename_i h;simpa using h
 simp
theorem ClOk.rows {C:Cl} (h:ClOk w C D):∃(a:Nat->Sv) (es:Nat->Nd),(cS w 9 C.nb D.bq λi=>.string (C.bs i).m::(C.bs i).iv (a i))/\(∀i,i<C.nb->SiOk w (C.bs i) (a i))/\(cS w 8 C.nc D.cq λi=>gE (es i).cells (C.cs i).st)/\∀i,i<C.nc->ExOk w (C.cs i).x (es i):=by
 obtain⟨_,_,_,l,k⟩:=h.v
 obtain⟨a,h1,h2⟩:∃a:Nat->Sv,(cS w 9 C.nb D.bq λi=>.string (C.bs i).m::(C.bs i).iv (a i))/\∀i,i<C.nb->SiOk w (C.bs i) (a i):=by
  rcases l with h0 | ⟨b,o,e,f,a,g⟩
  .exact⟨default,.inl h0,λi hi=>by omega⟩
  exact⟨a,.inr ⟨b,o,e,f,λi hi=>(g i hi).1⟩,λi hi=>(g i hi).2⟩
 obtain⟨es,h3,h4⟩:∃es:Nat->Nd,(cS w 8 C.nc D.cq λi=>gE (es i).cells (C.cs i).st)/\∀i,i<C.nc->ExOk w (C.cs i).x (es i):=by
  rcases k with h0 | ⟨b,o,e,f,es,j⟩
  .exact⟨default,.inl h0,λi hi=>by omega⟩
  exact⟨es,.inr ⟨b,o,e,f,λi hi=>(j i hi).1⟩,λi hi=>(j i hi).2⟩
 exact⟨a,es,h1,h2,h3,h4⟩
theorem TU {C:Cl} {E:Cd} (h:ClOk w C D) (k:ClOk w C E):bF w 31 #[.agg (C.cells D).toArray,.agg (C.cells E).toArray] (.bool true):=by
 obtain⟨xs,x,h1,h2,h3,h4⟩:=h.rows;obtain⟨ys,y,k1,k2,g,j⟩:=k.rows;have lt:∀b,b<w.1.size->b<w.1.size:=λ_ h=>h
 have ex:∀{x:Ex} {d e:Nd} {z:World},ExOk w x d->ExOk w x e->Below w.1.size w z->bF z 52 #[.agg d.cells.toArray,.agg e.cells.toArray] (.bool true):=by
  intro x d e z a b f;have:=Jm x x d e z (a.below f)<|b.below f
  rwa [Ex.eq_refl] at this
 refine SL (g1:=D.d.cells) (g2:=E.d.cells) (λi=>(C.bs i).m) (λi=>(C.bs i).iv<|xs i) (λi=>(C.bs i).iv<|ys i) (λi=>(C.cs i).st) (λi=>(x i).cells) (λi=>(y i).cells) h.2.1 h.2.2.1 rfl rfl (λ_ _=>rfl) (λ_ _=>rfl) (λ_ _=>rfl) (λ_ _=>rfl) h1 k1 h3 g (λz f=>ex (h.1.ok lt) (k.1.ok lt) f) (λi hi z f=>?_) (λi hi z f=>ex (h4 i hi) (j i hi) f);have:=NX ((h2 i hi).below f)<|(k2 i hi).below f
 rwa [zh (h2 i hi).nn] at this
structure Ent where
 k:Ky
 C:Cl
 X:St
def Ent.cells (e:Ent) (D:Cd) (d:Sd):List Value:=.string e.k.1::.int .i64 e.k.2::(e.C.cells D++d.cells)
theorem Ent.len (e:Ent) (D:Cd) (d:Sd):(e.cells D d).length=33:=rfl
theorem Ent.one (e:Ent) (D:Cd) (d:Sd):∀u∈e.cells D d,u.oneCell'=true:=by
 intro u hu
 rcases lO.1 hu with rfl | hu
 .rfl
 rcases lO.1 hu with rfl | hu
 .rfl
 rcases mN.1 hu with hu | hu
 .exact Cl.one _ _ u hu
 have h1:=d.one;rw[qM,lj] at h1;exact h1 u hu
set_option maxRecDepth 100000
set_option maxHeartbeats 16000000
theorem TV {e:ByteArray} {f:Int} {i j c1 c2 p1 p2:List Value} (e1:i=[.string e,.int .i64 f]++c1++p1) (e2:j=[.string e,.int .i64 f]++c2++p2) (G:c1.length=10) (H:c2.length=10) (Q:p1.length=21) (R:p2.length=21)
  (B:CA w 31 #[.agg c1.toArray,.agg c2.toArray] (.bool true))
  (O:CA w 30 #[.agg p1.toArray,.agg p2.toArray] (.bool true)):
  bF w 17 #[.agg i.toArray,.agg j.toArray] (.bool true):=by
 have g:=bC e1;have h:=bC e2;clear e1 e2;obtain⟨d1,n,l⟩:∃d,prog.underlying 37=some d/\d.isRow=true:=⟨_,underlying37,rfl⟩;obtain⟨d2,o,m⟩:∃d,prog.underlying 42=some d/\d.isRow=true:=⟨_,underlying42,rfl⟩;have C:=bC n;have E:=bC o;clear n o;go_enter func17,ntmps17;go_upto_region 1 with fail;have b:Hid (((w.alloc<|.cells i.toArray 44).alloc<|.cells j.toArray 44).rangeAt w.1.size 0 i/\((w.alloc<|.cells i.toArray 44).alloc<|.cells j.toArray 44).rangeAt (w.1.size+1) 0 j):=oI;generalize q:(w.alloc _).alloc _=a at*;have F:Below w.1.size w a:=by rw[<-q];exact dF _ _ _
 have V:w.1.size+2<=a.1.size:=by rw[<-q];simp
 clear q;have a0:a.cell? ⟨w.1.size,0,none⟩=some (.string e):=b.out.1 0 _ (show i[_]?=some _ by rw[g.out];rfl);have T:a.cell? ⟨w.1.size,1,none⟩=some (.int .i64 f):=b.out.1 1 _ (show i[_]?=some _ by rw[g.out];rfl);have b0:a.cell? ⟨w.1.size+1,0,none⟩=some (.string e):=b.out.2 0 _ (show j[_]?=some _ by rw[h.out];rfl);have U:a.cell? ⟨w.1.size+1,1,none⟩=some (.int .i64 f):=b.out.2 1 _ (show j[_]?=some _ by rw[h.out];rfl);have I:=iE b.out.1 _ _ g.out;have J:=iE b.out.2 _ _ h.out;have r:=iE b.out.1 ([.string e,.int .i64 f]++c1) [] (by rw[g.out,mU]);have t:=iE b.out.2 ([.string e,.int .i64 f]++c2) [] (by rw[h.out,mU]);rw[kY,G] at r;rw[kY,H] at t;have x:Hid (a.rangeAt w.1.size 2 c1):=I;have y:Hid (a.rangeAt (w.1.size+1) 2 c2):=J;have z:Hid (a.rangeAt w.1.size 12 p1):=r;have A:Hid (a.rangeAt (w.1.size+1) 12 p2):=t;clear I J r t b g h
 go_wp2_with (first
  | (with_reducible refine GJ ?hg1 37 (.tmp 18) ?ho1 (w.1.size) 2 ?hx1 c1 d1 ?hc1 ?hu1 ?hd1 ?hi1 ?_
     case ho1=>with_reducible rfl
     case hg1=>rfl
     case hx1=>rfl
     case hc1=>exact x.out
     case hu1=>exact C.out
     case hd1=>exact l
     case hi1=>rw[G];kernel_rfl)
  | (with_reducible refine GJ ?hg2 37 (.tmp 20) ?ho2 (w.1.size+1) 2 ?hx2 c2 d1 ?hc2 ?hu2 ?hd2 ?hi2 ?_
     case ho2=>with_reducible rfl
     case hg2=>rfl
     case hx2=>rfl
     case hc2=>exact y.out
     case hu2=>exact C.out
     case hd2=>exact l
     case hi2=>rw[H];kernel_rfl)
  | (go_at_call 31;refine jR (B _ F) λS k=>?_
     have u:Below w.1.size w S:=cV F k;have K:=bU z.out k (by omega);have L:=bU A.out k (by omega);have M:=bC K;have N:=bC L
     clear K L x y z A B k)
  | (with_reducible refine GJ ?hg3 42 (.tmp 25) ?ho3 (w.1.size) 12 ?hx3 p1 d2 ?hc3 ?hu3 ?hd3 ?hi3 ?_
     case ho3=>with_reducible rfl
     case hg3=>rfl
     case hx3=>rfl
     case hc3=>exact M.out
     case hu3=>exact E.out
     case hd3=>exact m
     case hi3=>rw[Q];kernel_rfl)
  | (with_reducible refine GJ ?hg4 42 (.tmp 27) ?ho4 (w.1.size+1) 12 ?hx4 p2 d2 ?hc4 ?hu4 ?hd4 ?hi4 ?_
     case ho4=>with_reducible rfl
     case hg4=>rfl
     case hx4=>rfl
     case hc4=>exact N.out
     case hu4=>exact E.out
     case hd4=>exact m
     case hi4=>rw[R];kernel_rfl)
  | (go_at_call 30;refine jR (O _ u) λW P=>?_))
 go_ret;exact⟨rfl,cV u P⟩
theorem TW {e:Ent} {E:Cd} {d f:Sd} (h1:ClOk w e.C D) (h2:ClOk w e.C E) (h3:StOk w e.X d) (h4:StOk w e.X f):
  bF w 17 #[.agg (e.cells D d).toArray,.agg (e.cells E f).toArray] (.bool true):=by
 refine TV (c1:=e.C.cells D) (c2:=e.C.cells E) (p1:=d.cells) (p2:=f.cells) rfl rfl rfl rfl rfl rfl (λz a=>TU (h1.below a)<|h2.below a) (λz a=>?_);have:=Ma e.X e.X d f z (h3.below a)<|h4.below a;rw[St.eq_refl] at this;exact this
theorem TX {q1 q2:Option Addr} {n c1 c2:Nat} (x y:Nat->List Value) (U:n<=1048576) (P:∀i,i<n->(x i).length=33) (Q:∀i,i<n->(y i).length=33)
  (h1:n=0\/∃b o,q1=some ⟨b,o,none⟩/\b<w.1.size/\∀i,i<n->w.rangeAt b (o+i*33) (x i))
  (h2:n=0\/∃b o,q2=some ⟨b,o,none⟩/\b<w.1.size/\∀i,i<n->w.rangeAt b (o+i*33) (y i))
  (O:∀i,i<n->CA w 17 #[.agg (x i).toArray,.agg (y i).toArray] (.bool true)):
  bF w 6 #[.slice q1 n c1,.slice q2 n c2] (.bool true):=by
 have J:=bC h1;have K:=bC h2;clear h1 h2;obtain⟨B,hu,I⟩:=FR;have C:=bC hu;clear hu;go_enter func6,ntmps6;go_wp2_with fail
 go_loopw [13] (λi wr=>∃k:Nat,k<=n/\i=.int .i64 k/\Below w.1.size w wr) (λi _=>n - (intOf i).toNat)
 case atStart=>exact⟨0,kL _,rfl,kE _ _⟩
 case round=>
  obtain⟨k,R,rfl,e⟩:=hrel;by_cases j:k<n
  .have am:(k:Int)<(n:Int):=by omega
   rcases J.out with h0 | ⟨b,o,rfl,F,G⟩
   .omega
   rcases K.out with h0 | ⟨g,l,rfl,u,H⟩
   .omega
   have m:=bC<|bU (G k j) e F;have q:=bC<|bU (H k j) e u;have N:=O k j;clear G H;go_wp2_with fail
   try simp only[Act.put]
   refine kN (S:=λz=>z.rangeAt b (o+k*33) (x k)/\z.rangeAt g (l+k*33) (y k)) (by kernel_rfl) (by exact⟨m.out,q.out⟩) λa=>?_;refine mO (i:=0) (oi:=?op0) (v:=.slice (some ⟨b,o,none⟩) n c1) ?ta0 ?tb0 ?tc0 ?td0 ?tq0 ?ty0 a ?_
   case ta0=>rfl
   case tb0=>kernel_rfl
   case tc0=>kernel_rfl
   case td0=>kernel_rfl
   case tq0=>exact λ_ _ _ h=>h
   case ty0=>exact Or.inl ⟨by rfl,by intro z f;go_simp⟩
   simp only[pz];refine mO (i:=1) (oi:=?op1) (v:=.int .i64 k) ?ta1 ?tb1 ?tc1 ?td1 ?tq1 ?ty1 a ?_
   case ta1=>rfl
   case tb1=>kernel_rfl
   case tc1=>kernel_rfl
   case td1=>kernel_rfl
   case tq1=>exact λ_ _ _ h=>h
   case ty1=>exact Or.inl ⟨by rfl,by intro z f;go_simp⟩
   simp only[pz];refine mO (i:=2) (oi:=?op2) (v:=.pointer<|some ⟨b,o+k*33,none⟩) ?ta2 ?tb2 ?tc2 ?td2 ?tq2 ?ty2 a ?_
   case ta2=>rfl
   case tb2=>kernel_rfl
   case tc2=>kernel_rfl
   case td2=>kernel_rfl
   case tq2=>exact λ_ _ _ h=>h
   case ty2=>exact Or.inl ⟨by rfl,by intro z f;go_simp⟩
   simp only[pz];refine mO (i:=3) (oi:=?op3) (v:=.agg (x k).toArray) ?ta3 ?tb3 ?tc3 ?td3 ?tq3 ?ty3 a ?_
   case ta3=>rfl
   case tb3=>kernel_rfl
   case tc3=>kernel_rfl
   case td3=>kernel_rfl
   case tq3=>exact λ_ _ _ h=>h
   case ty3=>
    refine pM ?tw3 44 (.tmp 18) ?to3 b (o+k*33) ?tx3 (x k) B (λz t=>t.1) C.out I (by rw[P k j];exact yE)
    case tw3=>kernel_rfl
    case to3=>rfl
    case tx3=>kernel_rfl
   simp only[pz];refine mO (i:=4) (oi:=?op4) (v:=.slice (some ⟨g,l,none⟩) n c2) ?ta4 ?tb4 ?tc4 ?td4 ?tq4 ?ty4 a ?_
   case ta4=>rfl
   case tb4=>kernel_rfl
   case tc4=>kernel_rfl
   case td4=>kernel_rfl
   case tq4=>exact λ_ _ _ h=>h
   case ty4=>exact Or.inl ⟨by rfl,by intro z f;go_simp⟩
   simp only[pz];refine mO (i:=5) (oi:=?op5) (v:=.int .i64 k) ?ta5 ?tb5 ?tc5 ?td5 ?tq5 ?ty5 a ?_
   case ta5=>rfl
   case tb5=>kernel_rfl
   case tc5=>kernel_rfl
   case td5=>kernel_rfl
   case tq5=>exact λ_ _ _ h=>h
   case ty5=>exact Or.inl ⟨by rfl,by intro z f;go_simp⟩
   simp only[pz];refine mO (i:=6) (oi:=?op6) (v:=.pointer<|some ⟨g,l+k*33,none⟩) ?ta6 ?tb6 ?tc6 ?td6 ?tq6 ?ty6 a ?_
   case ta6=>rfl
   case tb6=>kernel_rfl
   case tc6=>kernel_rfl
   case td6=>kernel_rfl
   case tq6=>exact λ_ _ _ h=>h
   case ty6=>exact Or.inl ⟨by rfl,by intro z f;go_simp⟩
   simp only[pz];refine mO (i:=7) (oi:=?op7) (v:=.agg (y k).toArray) ?ta7 ?tb7 ?tc7 ?td7 ?tq7 ?ty7 a ?_
   case ta7=>rfl
   case tb7=>kernel_rfl
   case tc7=>kernel_rfl
   case td7=>kernel_rfl
   case tq7=>exact λ_ _ _ h=>h
   case ty7=>
    refine pM ?tw7 44 (.tmp 22) ?to7 g (l+k*33) ?tx7 (y k) B (λz t=>t.2) C.out I (by rw[Q k j];exact yE)
    case tw7=>kernel_rfl
    case to7=>rfl
    case tx7=>kernel_rfl
   simp only[pz];refine qF (rs:=[8]) (by kernel_rfl) (by simp) ?_;refine ph rfl ?_ qq;intro L E;go_simp;refine jR (N _ e.drew) λw5 r=>?_;have M:Below w.1.size w w5:=cV e.drew r;have g1:w5.rangeAt b (o+k*33) (x k):=bU (w:=wr.drew) m.out r<|kw F e.size;have g2:w5.rangeAt g (l+k*33) (y k):=bU (w:=wr.drew) q.out r<|kw u e.size;refine E.out _ _ ⟨g1,g2⟩ λA=>?_;clear E L;refine mO (i:=9) (oi:=?op9) (v:=.bool false) ?ta9 ?tb9 ?tc9 ?td9 ?tq9 ?ty9 A ?_
   case ta9=>rfl
   case tb9=>kernel_rfl
   case tc9=>kernel_rfl
   case td9=>kernel_rfl
   case tq9=>exact λ_ _ _ h=>h
   case ty9=>exact Or.inl ⟨by rfl,by intro z f;go_simp⟩
   simp only[pz];refine kV (by kernel_rfl) ?_ _
   try simp only[pz]
   clear a A g1 g2 m q;go_wp2_with fail;go_roundw
   case rel=>exact⟨k+1,by omega,by go_num,M⟩
   case measure=>simp[intOf];omega
  have T:n=k:=(by omega);have V:¬(k:Int)<(n:Int):=(by omega);go_wp2_with fail;go_ret;exact⟨rfl,e⟩
set_option maxRecDepth 100000 in
set_option maxHeartbeats 4000000 in
theorem Kh {g:Bool} {q q':Option Addr} {n c a m:Nat} {nu de:List Int} (h1:Sl w (.slice q n c) nu) (h2:Sl w (.slice q' a m) de):
  cN 48 #[.agg #[.bool g,.slice q n c,.slice q' a m]] w λe w'=>∃q1 c1 q2 c2,e=.returned (.agg #[.bool g,.slice q1 n c1,.slice q2 a c2])/\SlA w' (bP w w') (.slice q1 n c1) nu/\SlA w' (bP w w') (.slice q2 a c2) de/\Below w.1.size w w':=by
 go_enter func48,ntmps48;go_upto_region 1 with fail;generalize t:(w.alloc _).alloc _=i;have A:Below w.1.size w i:=by rw[<-t];exact dF _ _ _
 have Q:i.1.size=w.1.size+2:=by rw[<-t];simp
 have N:i.rangeAt w.1.size 0 [.bool g,.slice q n c,.slice q' a m]:=by rw[<-t];exact(oI (ys:=[.bool false,.slice none 0 0,.slice none 0 0])).1
 have M:i.1[w.1.size+1]?=some (.cells #[.bool false,.slice none 0 0,.slice none 0 0] 30 (0,0)):=by rw[<-t];exact xE
 clear t;have y:Below i.1.size i i.drew:=(kE _ _).drew;have o:∀z,Below i.1.size i z->z.rangeAt w.1.size 0 [.bool g,.slice q n c,.slice q' a m]:=λz O=>bU N O (by omega);refine kN (S:=λz=>z.rangeAt w.1.size 0 [.bool g,.slice q n c,.slice q' a m]) (by kernel_rfl) (o _ y) λhh=>?_;refine tk 0 _ rfl hh ?_;refine jQ BR 1 3 w.1.size 0 _ rfl hh (λz h=>h 0 _ rfl) ?_;refine tk 2 _ rfl hh ?_;refine jQ An 3 5 w.1.size 1 _ rfl hh (λz h=>h 1 _ rfl) ?_;refine tk 5 _ rfl hh ?_;refine jQ An 6 8 w.1.size 2 _ rfl hh (λz h=>h 2 _ rfl) ?_;refine dy 4 rfl λK k=>?_;go_simp;refine(GM<|h1.below<|cV A y).mono ?_;rintro e P ⟨q1,c1,rfl,I,L⟩;have x:=cV y L;refine k.out _ _ (o _ x) λ_=>?_;clear k K;refine dy 7 rfl λK k=>?_;go_simp;refine(GM<|h2.below<|cV A x).mono ?_;rintro e l ⟨q2,c2,rfl,J,B⟩;have r:=cV x B;refine k.out _ _ (o _ r) λ_=>?_;clear k K h1 h2;refine dy 8 rfl λK k=>?_;rw[kU<|by kernel_rfl];refine bd 30 _ [.bool g,.slice q1 n c1,.slice q2 a c2]<|k.out _ _ (o _ r) λ_=>?_;clear k K;have E:=(r.block (w.1.size+1)<|by omega).trans M;have G:Below w.1.size w (l.setRow (w.1.size+1) [.bool g,.slice q1 n c1,.slice q2 a c2].toArray):=oh (cV A r) (by omega) _;have C:(l.setRow (w.1.size+1) [.bool g,.slice q1 n c1,.slice q2 a c2].toArray).rangeAt w.1.size 0 [.bool g,.slice q n c,.slice q' a m]:=λj u hu=>(ml<|mf _ _ _ _<|by show w.1.size≠_;omega).trans<|o _ r j u hu;refine dy 9 rfl λK k=>?_;rw[kU<|by kernel_rfl];refine Ak pe 2 11 (w.1.size+1) [.bool g,.slice q1 n c1,.slice q2 a c2] E rfl rfl (by simp[Value.oneCell']) (k.out _ _ C λ_=>?_);clear k K;have F:Keeps (·≠w.1.size+1) l (l.setRow (w.1.size+1) [.bool g,.slice q1 n c1,.slice q2 a c2].toArray):=λb f=>mf _ _ _ _ f;have U:(l.setRow (w.1.size+1) [.bool g,.slice q1 n c1,.slice q2 a c2].toArray).1.size=l.1.size:=by simp
 have s2:i.1.size<=P.1.size:=x.size;have T:=B.size;have R:i.drew.1.size=i.1.size:=rfl;have H:=bC<|nh l _ _ [.bool g,.slice q1 n c1,.slice q2 a c2].toArray _ _ E;clear C o;generalize l.setRow (w.1.size+1) _=V at*;refine kV (by kernel_rfl) ?_ _;simp only[pz];go_wp2_with fail;refine xF (cs:=[.bool g,.slice q1 n c1,.slice q2 a c2]) pe (p:=2) H.out rfl ?_
 exact⟨q1,c1,q2,c2,rfl,I.keep (λb f=>(F b<|by have:=f.1;omega).trans<|B.block b f.2) λb f=>⟨by have:=f.1;omega,by have:=f.2;omega⟩,
  J.keep (λb f=>F b<|by have:=f.1;omega) λb f=>⟨by have:=f.1;omega,by have:=f.2;omega⟩,G⟩
set_option maxRecDepth 100000 in
set_option maxHeartbeats 4000000 in
theorem TY {d:Nd} {nu de:List Int} (ds:Nat->Nd) (X:Nat->Ex) (hn:d.sn<=1048576)
  (hR:∀z,Below w.1.size w z->cN 48 #[.agg #[.bool d.neg,.slice d.aq d.an d.ac,.slice d.cq d.cn d.cc]] z λe w'=>∃q1 c1 q2 c2,e=.returned (.agg #[.bool d.neg,.slice q1 d.an c1,.slice q2 d.cn c2])/\SlA w' (bP z w') (.slice q1 d.an c1) nu/\SlA w' (bP z w') (.slice q2 d.cn c2) de/\Below z.1.size z w')
  (hk:d.sn=0\/∃b o,d.sq=some ⟨b,o,none⟩/\b<w.1.size/\∀i,i<d.sn->w.rangeAt b (o+i*7) (ds i).cells)
  (n:∀i,i<d.sn->∀z,Below w.1.size w z->cN 47 #[.agg (ds i).cells.toArray] z λe w'=>∃t:Nd,e=.returned (.agg t.cells.toArray)/\ExA w' (bP z w') (X i) t/\Below z.1.size z w'):
  cN 47 #[.agg d.cells.toArray] w λe w'=>∃q1 c1 q2 c2 m c3,e=.returned (.agg (Nd.cells ⟨d.k,d.f,d.neg,q1,d.an,c1,q2,d.cn,c2,d.m,m,d.sn,c3⟩).toArray)/\
   SlA w' (bP w w') (.slice q1 d.an c1) nu/\SlA w' (bP w w') (.slice q2 d.cn c2) de/\(d.sn=0\/∃b,m=some ⟨b,0,none⟩/\bP w w' b/\∃es:Nat->Nd,∀i,i<d.sn->w'.rangeAt b (0+i*7) (es i).cells/\ExA w' (bP w w') (X i) (es i))/\Below w.1.size w w':=by
 have a4:=bC hk;clear hk;go_enter func47,ntmps47;go_upto_region 1 with fail;generalize R:(w.alloc _).alloc _=l;have Q:Below w.1.size w l:=by rw[<-R];exact dF _ _ _
 have aA:l.1.size=w.1.size+2:=by rw[<-R];simp
 have a7:l.rangeAt w.1.size 0 d.cells:=by rw[<-R];exact(oI (xs:=d.cells) (ys:=uL.cells)).1
 have a6:l.1[w.1.size+1]?=some (.cells uL.cells.toArray 33 (0,0)):=by rw[<-R];exact xE
 clear R;have Gd:Below l.1.size l l.drew:=(kE _ _).drew;have P:∀z,Below l.1.size l z->z.rangeAt w.1.size 0 d.cells:=λz E=>bU a7 E (by omega);refine kN (S:=λz=>z.rangeAt w.1.size 0 d.cells) (by kernel_rfl) (P _ Gd) λhh=>?_;refine tk 0 _ rfl hh ?_;refine jQ Fs 1 6 w.1.size 0 _ rfl hh (λz h=>h 0 _ rfl) ?_;refine tk 2 _ rfl hh ?_;refine jQ Fs 3 8 w.1.size 1 _ rfl hh (λz h=>h 1 _ rfl) ?_;refine tk 4 _ rfl hh ?_;refine fE pe 5 10 w.1.size 2 [.bool d.neg,.slice d.aq d.an d.ac,.slice d.cq d.cn d.cc] rfl rfl hh (λz h=>iE (o:=0) h [.int .i64 d.k,.int .i64 d.f] [.string d.m,.slice d.sq d.sn d.sc] rfl) ?_;refine tk 7 _ rfl hh ?_;refine jQ BS 8 13 w.1.size 5 _ rfl hh (λz h=>h 5 _ rfl) ?_;refine Fp (fuel:=1) [6,9] [10] 3 #[true,true,true,true,true,true,true,true,true,true,true,false] (λ_=>33) (λ_=>uL.cells.toArray) (λz E=>P z<|cV Gd E) ?_ ?_;rotate_left
 .intro f hf a z K h;obtain rfl:f=10:=by simpa using hf
  unfold wpOp;go_simp;exact .inl h
 refine it rfl λx z E K n=>?_;have Gz:=cV Gd E;simp only[cE,pz];go_simp;refine(hR _<|cV Q Gz).mono ?_;rintro e B ⟨q1,c1,q2,c2,rfl,H,I,af⟩;refine n.out _ _ af ?_;have G2:=cV Gz af;have az:∀b,bP z B b->l.1.size<=b/\b<B.1.size:=λb q=>⟨kJ Gz.size q.1,q.2⟩;clear n K hR;refine it rfl λx z3 aa K n=>?_;rw[kU<|by kernel_rfl];refine bd 33 _ (Nd.cells ⟨d.k,d.f,d.neg,q1,d.an,c1,q2,d.cn,c2,d.m,none,0,0⟩)<|n.out _ _ (kE _ _) ?_;clear n K;rintro x M aq ⟨p,hp,-,-,Y⟩;obtain⟨ai,ad,ac⟩:=hp 10 (by simp) (by simp);have Y:=Y 10 (by simp) (by simp) _<|lM _ mq;have G4:=G2.trans<|(cV aa aq).mono G2.size;simp only[cE,pz,bY,ai];generalize p 10=G at*;have a0:l.1.size<=G:=ad;refine dy 11 rfl λK n=>?_;rw[kU<|by rfl];refine Ak eU 3 15 G _ ac rfl rfl (Aj ⟨d.k,d.f,d.neg,q1,d.an,c1,q2,d.cn,c2,d.m,none,0,0⟩) (n.out _ _ (P _<|oh G4 ad _) λ_=>?_);clear n K;refine kV (by kernel_rfl) ?_ _;simp only[pz]
 have ax:=af.mono (kF _) |>.size
 have K4:Below B.1.size B M:=cV aa aq;have J:∀b,bP z B b->b≠G:=λb q e=>Y<|e ▸ ⟨q.1,q.2⟩;have Gc:=oh G4 ad (Nd.cells ⟨d.k,d.f,d.neg,q1,d.an,c1,q2,d.cn,c2,d.m,none,0,0⟩).toArray;have F:Keeps (bP z B) B (M.setRow G (Nd.cells ⟨d.k,d.f,d.neg,q1,d.an,c1,q2,d.cn,c2,d.m,none,0,0⟩).toArray):=λb q=>(mf _ _ _ _<|J b q).trans<|K4.block b q.2;have fr:∀b,bP z B b->cH l.1.size (M.setRow G (Nd.cells ⟨d.k,d.f,d.neg,q1,d.an,c1,q2,d.cn,c2,d.m,none,0,0⟩).toArray) G (.slice none 0 0) b:=λb q=>⟨(az b q).1,by have:=q.2;have:=K4.size;simp;omega,J b q,by simp[Value.ownBlock]⟩;have N:Hid ((M.setRow G (Nd.cells ⟨d.k,d.f,d.neg,q1,d.an,c1,q2,d.cn,c2,d.m,none,0,0⟩).toArray).1[G]?=some (.cells (Nd.cells ⟨d.k,d.f,d.neg,q1,d.an,c1,q2,d.cn,c2,d.m,none,0,0⟩).toArray 33 (0,0))/\SlA _ _ _ nu/\SlA _ _ _ de):=bC ⟨nh _ _ _ _ _ _ ac,H.keep F fr,I.keep F fr⟩;have p6:(M.setRow G (Nd.cells ⟨d.k,d.f,d.neg,q1,d.an,c1,q2,d.cn,c2,d.m,none,0,0⟩).toArray).cell? ⟨w.1.size,6,none⟩=some (.slice d.sq d.sn d.sc):=P _ Gc 6 _ rfl;clear F fr J Y ac ai K4 ax H I P;generalize M.setRow G _=wc at*;go_wp2_with fail
 go_loopw [19] (λi wr=>∃(k:Nat) (m:Option Addr) (c3:Nat),k<=d.sn/\i=.int .i64 k/\∃L:List Nd,Hid (L.length=k/\wr.1[G]?=some (.cells (Nd.cells ⟨d.k,d.f,d.neg,q1,d.an,c1,q2,d.cn,c2,d.m,m,k,c3⟩).toArray 33 (0,0))/\wr.ownsRow l.1.size 33 7 (.slice m k c3) k (L.flatMap Nd.cells)/\(Value.slice m k c3).ownBlock≠some G/\
  (∀i x,L[i]?=some x->ExA wr (cH l.1.size wr G<|.slice m k c3) (X i) x)/\SlA wr (cH l.1.size wr G<|.slice m k c3) (.slice q1 d.an c1) nu/\SlA wr (cH l.1.size wr G<|.slice m k c3) (.slice q2 d.cn c2) de/\Below l.1.size l wr)) (λi _=>d.sn - (intOf i).toNat)
 case atStart=>exact⟨0,none,0,kL _,rfl,[],rfl,N.out.1,mH _ _ _ _,by simp[Value.ownBlock],λi x h=>by simp at h,N.out.2.1,N.out.2.2,Gc⟩
 case round=>
  obtain⟨k,m,c3,hk,rfl,L,HL⟩:=hrel;by_cases ao:k<d.sn
  .have am:(k:Int)<(d.sn:Int):=(by omega);obtain⟨b,o,hq,a2,al⟩:=a4.out.resolve_left (by omega);have hx:=bC (bU (bU (al k ao) Q a2) HL.out.2.2.2.2.2.2.2<|by omega);have a1:=bC<|n k ao;clear al N p6;generalize ds k=D at*;rw[hq]
   go_wp2_with (first
    | (with_reducible refine cW (op:=⟨some 22,_,_,_,_,_⟩) eU 21 b (o+k*7) D.cells hx.out rfl ?_)
    | (with_reducible refine si (op:=⟨none,_,_,_,_,_⟩) eU 5 22 D.cells rfl (mh<|Aj D) ?_))
   obtain⟨Z,O,W,J,ae,H,I,C⟩:=HL.out;have aj:=(kG.1 O).1;have s1:=C.size;have Bn:Below wr.1.size wr (wr.alloc<|.cells D.cells.toArray 33):=fH _ _;have a5:=og<|kR wr<|.cells D.cells.toArray 33;have a8:wr.1.size<(wr.alloc<|.cells D.cells.toArray 33).1.size:=(by simp);have c6:(wr.alloc<|.cells D.cells.toArray 33).cell? ⟨G,6,none⟩=some (.slice m k c3):=(by rw[pj _ _ _ aj,pG _ _ _ _ _ _ O];rfl);generalize wr.alloc (.cells D.cells.toArray 33)=wl at*;have Bd:Below wl.1.size wl wl.drew:=(kE _ _).drew;refine kN (S:=λ_=>True) (by kernel_rfl) trivial (λhh=>?_);refine tk 0 _ rfl hh ?_;refine Ee (fuel:=3) Ft [2,3,4] 1 23 G 6 4 (.slice m k c3) (by show _<wl.1.size;omega) c6 rfl (λ_ _=>trivial) ?_ (l1:=#[true,true,true,true,true,false,false,false]);refine it rfl λx z E K n=>?_;rw[kU<|by kernel_rfl];have Bz:=cV Bd E;refine GN eU 5 wr.1.size 0 D.cells (bU a5 Bz a8) rfl (n.out _ _ (kE _ _) ?_);clear n K;refine it rfl λx z3 aa K n=>?_;have B3:=cV Bz aa;have ab:=cV Bn B3;simp only[cE,pz];go_simp;refine(a1.out _<|Q.trans<|(C.trans<|ab.mono s1).mono Q.size).mono ?_;rintro r w5 ⟨t,rfl,ay,ak⟩;refine n.out _ _ ak ?_;clear n K;have B5:=cV ab ak;refine it rfl λx V au K n=>?_;rw[kU<|by kernel_rfl];refine C8 Ao (.tmp 26) t.cells rfl (n.out _ _ ((kE _ _).alloc (kF _) _) ?_);clear n K;have cA:=kR V<|.cells t.cells.toArray 33;have B6:=au.trans<|(fH V<|.cells t.cells.toArray 33).mono au.size;have cC:V.1.size<(V.alloc<|.cells t.cells.toArray 33).1.size:=(by simp);intro x z7 av e0;have e0:=e0 (by simp);have B7:=cV B6 av;have ag:=cV B5 B7;have aw:Below wr.1.size wr z7:=ag;refine Ef Ao Mq 5 6 7 24 27 G 6 k V.1.size (y:=t.cells) rfl rfl rfl C a0 O rfl W J ag (by omega) (λ_ _=>trivial) ((av.block _ cC).trans cA) rfl (Aj t) (by exact(show _=x 1 by kernel_rfl).trans e0) ?_;intro g c A m1 m2 m3 m4 T U;refine kV (by kernel_rfl) ?_ _;have r5:∀kk,(Value.slice m k c3).ownBlock=some kk->kk<wr.1.size:=λkk e=>(W.lt kk e).2;obtain⟨f1,f2⟩:=BP (w0:=l.1.size) (G:=G) (v:=.slice m k c3) aw;have f3:=BQ (w0:=l.1.size) (y:=z7) aj s1 r5 (ab.size)<|B7.size
   have HR:Hid ((L++[t]).length=k+1/\A.1[G]?=some (.cells (Nd.cells ⟨d.k,d.f,d.neg,q1,d.an,c1,q2,d.cn,c2,d.m,some ⟨g,0,none⟩,k+1,c⟩).toArray 33 (0,0))/\A.ownsRow l.1.size 33 7 (.slice (some ⟨g,0,none⟩) (k+1) c) (k+1) ((L++[t]).flatMap Nd.cells)/\(Value.slice (some ⟨g,0,none⟩) (k+1) c).ownBlock≠some G/\
     (∀i x,(L++[t])[i]?=some x->ExA A (cH l.1.size A G<|.slice (some ⟨g,0,none⟩) (k+1) c) (X i) x)/\SlA A (cH l.1.size A G<|.slice (some ⟨g,0,none⟩) (k+1) c) (.slice q1 d.an c1) nu/\SlA A (cH l.1.size A G<|.slice (some ⟨g,0,none⟩) (k+1) c) (.slice q2 d.cn c2) de/\Below l.1.size l A):=
    bC ⟨by simp[Z],m1,by rw[mj,mQ];exact m2,m3,C' Z (λi x h=>((ae i x h).keep f1 f2).keep T U)<|(ay.keep (λb q=>B7.block b q.2) f3).keep T U,(H.keep f1 f2).keep T U,(I.keep f1 f2).keep T U,m4⟩
   clear m1 m2 m3 m4 T U f1 f2 f3;simp only[cE,pz,bY];go_wp2_with fail;go_roundw
   case rel=>exact⟨k+1,some ⟨g,0,none⟩,c,by omega,by go_num,L++[t],HR⟩
   case measure=>simp[intOf];omega
  obtain rfl:k=d.sn:=(by omega);have a':¬(d.sn:Int)<(d.sn:Int):=(by omega);obtain⟨Z,O,W,J,ae,H,I,C⟩:=HL.out;have s1:=C.size;have R3:=bC<|og O;have T3:=bC<|(C.block (w.1.size+1)<|by omega).trans a6;clear N p6
  go_wp2_with (first
   | (with_reducible refine cW (op:=⟨some 31,_,_,_,_,_⟩) eU 3 G 0 (Nd.cells ⟨d.k,d.f,d.neg,q1,d.an,c1,q2,d.cn,c2,d.m,m,d.sn,c3⟩) R3.out rfl ?_)
   | (with_reducible refine Am (op:=⟨none,_,_,_,_,_⟩) eU 2 31 (w.1.size+1) (Nd.cells ⟨d.k,d.f,d.neg,q1,d.an,c1,q2,d.cn,c2,d.m,m,d.sn,c3⟩) T3.out rfl rfl (Aj _) ?_))
  refine xF eU (p:=2) (nh _ _ _ _ _ _ T3.out) rfl ?_;have F:Keeps (cH l.1.size wr G<|.slice m d.sn c3) wr (wr.setRow (w.1.size+1) (Nd.cells ⟨d.k,d.f,d.neg,q1,d.an,c1,q2,d.cn,c2,d.m,m,d.sn,c3⟩).toArray):=λb q=>mf _ _ _ _ (by have:=q.1;omega);have fr:∀b,cH l.1.size wr G (.slice m d.sn c3) b->bP w (wr.setRow (w.1.size+1) (Nd.cells ⟨d.k,d.f,d.neg,q1,d.an,c1,q2,d.cn,c2,d.m,m,d.sn,c3⟩).toArray) b:=λb q=>⟨by have:=q.1;omega,by have:=q.2.1;simpa using this⟩;refine⟨q1,c1,q2,c2,m,⟨c3,rfl⟩,H.keep F fr,I.keep F fr,?_,oh (cV Q C) (by omega) _⟩;refine(Da (f:=Nd.cells) (λ_=>rfl) W Z).imp id ?_;rintro⟨g,rfl,a9,a3,-,hr⟩;refine⟨g,rfl,⟨by omega,by simpa using a3⟩,λi=>L.getD i default,λi hi=>?_⟩;have an:L[i]?=some (L.getD i default):=(by simp[List.getD,show i<L.length by omega]);have hr:=hr i _ an;rw[mF] at hr;exact⟨λj u hu=>(ml<|mf _ _ _ _<|by show g≠_;omega).trans<|hr j u hu,(ae i _ an).keep F fr⟩
theorem NY:∀(x:Ex) (d:Nd) (w:World),ExOk w x d->dl x->cN 47 #[d.val] w λe w'=>∃q:Nd,e=.returned (.agg q.cells.toArray)/\ExA w' (bP w w') x q/\Below w.1.size w w':=by
 intro x
 induction x with
 | non=>exact λd w h=>h.elim
 | mk k f ng nu de m n ar ih=>
  intro d w h l;unfold ExOk at h;unfold dl at l;obtain⟨⟨rfl,rfl,rfl,rfl,rfl⟩,h2,h3,h4,h5,h6,h7⟩:=h
  obtain⟨a,B,C⟩:∃a:Nat->Nd,(d.sn=0\/∃b o,d.sq=some ⟨b,o,none⟩/\b<w.1.size/\∀i,i<d.sn->w.rangeAt b (o+i*7) (a i).cells)/\∀i,i<d.sn->ExOk w (ar i) (a i):=by
   rcases h7 with h0 | ⟨b,o,hq,j,a,r⟩
   .exact⟨λ_=>default,.inl h0,λi hi=>by omega⟩
   exact⟨a,.inr ⟨b,o,hq,j,λi hi=>Mp (r i hi).1⟩,λi hi=>(r i hi).2⟩
  refine(TY a ar l.1 (λz g=>Kh (h2.below g)<|h3.below g) B λi hi z g=>ih i (a i) z ((C i hi).below g)<|l.2 i hi).mono ?_;rintro e w' ⟨q1,c1,q2,c2,F,c3,rfl,u,y,A,j⟩;refine⟨⟨d.k,d.f,d.neg,q1,d.an,c1,q2,d.cn,c2,d.m,F,d.sn,c3⟩,rfl,⟨⟨rfl,rfl,rfl,rfl,rfl⟩,u,y,h4,h5,h6,A.imp id ?_⟩,j⟩;rintro⟨b,hq,E,es,t⟩;exact⟨b,0,hq,E,es,λi hi=>⟨Mo (t i hi).1,(t i hi).2⟩⟩
