import Derived.Test.YthcfmhgihcjloaaGreatDoorPk11
namespace Go.Proofs.YthcfmhgihcjloaaGreatDoor
open Go Go.RowKit Tryz
set_option maxRecDepth 100000
set_option maxHeartbeats 16000000
section
variable {w w':World} {a b v v0 v1 v2 v3 v4 v5 v6:Value} {g1 g2 g:Bool} {d1 d2 d n:Int} {L l1 c1 m1 e1 N l2 c2 m2 e2:Nat} {de nu1 de1 nu2 de2:List Int} {q1 p1 q2 p2:Option Addr} {t:TypeId} {cs:Array Value}
def so (L:Nat) (n d:Int):Prop:=n<65536^L/\d<65536^L
theorem Dq {n1 n2:Int} (h1:QAt w a g1 n1 d1) (h2:QAt w b g2 n2 d2) (o:L<=68719476000) (l1:so L n1 d1) (l2:so L n2 d2):
  cN 147 #[a,b] w λe w'=>∃v g m,e=.returned v/\QAt w' v (cI g m<|bB d1*bB d2) (db m<|bB d1*bB d2) (dg m<|bB d1*bB d2)/\0<=m/\sg g*m=sg g1*(n1*bB d2)+sg g2*(n2*bB d1)/\Below w.1.size w w':=by
 obtain⟨_,_,s,q,rfl,k,cn1,rfl,f,i,rfl⟩:=h1;obtain⟨_,_,u,r,rfl,l,cn2,rfl,h,j,rfl⟩:=h2;obtain⟨q1,c1,rfl⟩:=k.form;obtain⟨p1,e1,rfl⟩:=f.form;obtain⟨q2,c2,rfl⟩:=l.form;obtain⟨p2,e2,rfl⟩:=h.form;have:=xU (g1:=g1) (g2:=g2) o k f l h i j (El k.1 cn1 l1.1) (El f.1 i l1.2) (El l.1 cn2 l2.1)<|El h.1 j l2.2
 rwa [(GV f.1 i).1,(GV h.1 j).1] at this
theorem Ar (g1 g2:Bool) (x n2 d:Int):sg g1*x+sg (!g2&&!decide (n2=0))*(n2*d)=sg g1*x - sg g2*(n2*d):=by
 by_cases h:n2=0
 .subst h;simp
 cases g2<;>simp[sg,h]<;>omega
abbrev Eo (w:World) (g1:Bool) (q1:Option Addr) (l1:Nat) (c1:Nat) (p1:Option Addr) (m1:Nat) (e1:Nat) (g2:Bool) (q2:Option Addr) (l2:Nat) (c2:Nat) (p2:Option Addr) (m2:Nat) (e2:Nat):World->Prop:=λz=>Below w.1.size w z/\w.1.size+3<=z.1.size/\z.cell? ⟨w.1.size,0,none⟩=some (.bool g1)/\z.cell? ⟨w.1.size,1,none⟩=some (.slice q1 l1 c1)/\z.cell? ⟨w.1.size,2,none⟩=some (.slice p1 m1 e1)/\z.cell? ⟨w.1.size+1,0,none⟩=some (.bool g2)/\z.cell? ⟨w.1.size+1,1,none⟩=some (.slice q2 l2 c2)/\z.cell? ⟨w.1.size+1,2,none⟩=some (.slice p2 m2 e2)
theorem As {l i:Int} (h1:QAt w a g1 l d1) (h2:QAt w b g2 i d2) (hL:L<=68719476000) (I:so L l d1) (K:so L i d2):
  cN 113 #[a,b] w λe w'=>∃v g m,e=.returned v/\QAt w' v (cI g m<|bB d1*bB d2) (db m<|bB d1*bB d2) (dg m<|bB d1*bB d2)/\0<=m/\sg g*m=sg g1*(l*bB d2) - sg g2*(i*bB d1)/\Below w.1.size w w':=by
 have af:∀z,Below w.1.size w z->cN 148 #[b] z λe w'=>∃r,e=.returned r/\QAt w' r (!g2&&!decide (i=0)) i d2/\Below z.1.size z w':=λz hz=>Dp<|h2.below hz;have ad:Hid (QAt w a g1 l d1):=h1;obtain⟨_,_,ag,ab,rfl,W,_,_,S,_,_⟩:=h1;obtain⟨_,_,ai,ac,rfl,X,_,_,T,_,_⟩:=h2;obtain⟨q1,c1,rfl⟩:=W.form;obtain⟨p1,e1,rfl⟩:=S.form;obtain⟨q2,c2,rfl⟩:=X.form;obtain⟨p2,e2,rfl⟩:=T.form;generalize ag.length=l1 at*;generalize ab.length=m1 at*;generalize ai.length=l2 at*;generalize ac.length=m2 at*;obtain⟨dd,hu,hd⟩:=Do;have J:Hid (so L l d1/\so L i d2):=⟨I,K⟩;clear W X S T I K;go_enter func113,ntmps113;go_wp2_with fail;have G:QNew (((w.alloc<|.cells (qA g1 q1 l1 c1 p1 m1 e1) 80).alloc<|.cells (qA g2 q2 l2 c2 p2 m2 e2) 80).alloc<|.cells zC 80) (w.1.size+1+1):=by have:=QNew.made<|(w.alloc<|.cells (qA g1 q1 l1 c1 p1 m1 e1) 80).alloc<|.cells (qA g2 q2 l2 c2 p2 m2 e2) 80;simpa using this
 have D:Below w.1.size w (((w.alloc<|.cells (qA g1 q1 l1 c1 p1 m1 e1) 80).alloc<|.cells (qA g2 q2 l2 c2 p2 m2 e2) 80).alloc<|.cells zC 80):=(dF w _ _).alloc (by simp;omega) _;have al:(((w.alloc<|.cells (qA g1 q1 l1 c1 p1 m1 e1) 80).alloc<|.cells (qA g2 q2 l2 c2 p2 m2 e2) 80).alloc<|.cells zC 80).1.size=w.1.size+3:=by simp
 have x0:(((w.alloc<|.cells (qA g1 q1 l1 c1 p1 m1 e1) 80).alloc<|.cells (qA g2 q2 l2 c2 p2 m2 e2) 80).alloc<|.cells zC 80).cell? ⟨w.1.size,0,none⟩=some (.bool g1):=((cU _ _).cell<|by simp;try omega).trans<|by simp
 have x1:(((w.alloc<|.cells (qA g1 q1 l1 c1 p1 m1 e1) 80).alloc<|.cells (qA g2 q2 l2 c2 p2 m2 e2) 80).alloc<|.cells zC 80).cell? ⟨w.1.size,1,none⟩=some (.slice q1 l1 c1):=((cU _ _).cell<|by simp;try omega).trans<|by simp
 have x2:(((w.alloc<|.cells (qA g1 q1 l1 c1 p1 m1 e1) 80).alloc<|.cells (qA g2 q2 l2 c2 p2 m2 e2) 80).alloc<|.cells zC 80).cell? ⟨w.1.size,2,none⟩=some (.slice p1 m1 e1):=((cU _ _).cell<|by simp;try omega).trans<|by simp
 have y0:(((w.alloc<|.cells (qA g1 q1 l1 c1 p1 m1 e1) 80).alloc<|.cells (qA g2 q2 l2 c2 p2 m2 e2) 80).alloc<|.cells zC 80).cell? ⟨w.1.size+1,0,none⟩=some (.bool g2):=((cU _ _).cell<|by simp;try omega).trans<|by simp
 have y1:(((w.alloc<|.cells (qA g1 q1 l1 c1 p1 m1 e1) 80).alloc<|.cells (qA g2 q2 l2 c2 p2 m2 e2) 80).alloc<|.cells zC 80).cell? ⟨w.1.size+1,1,none⟩=some (.slice q2 l2 c2):=((cU _ _).cell<|by simp;try omega).trans<|by simp
 have y2:(((w.alloc<|.cells (qA g1 q1 l1 c1 p1 m1 e1) 80).alloc<|.cells (qA g2 q2 l2 c2 p2 m2 e2) 80).alloc<|.cells zC 80).cell? ⟨w.1.size+1,2,none⟩=some (.slice p2 m2 e2):=((cU _ _).cell<|by simp;try omega).trans<|by simp
 generalize (((w.alloc<|.cells (qA g1 q1 l1 c1 p1 m1 e1) 80).alloc<|.cells (qA g2 q2 l2 c2 p2 m2 e2) 80).alloc<|.cells zC 80)=f at*;have B:(Eo w g1 q1 l1 c1 p1 m1 e1 g2 q2 l2 c2 p2 m2 e2) f.drew:=⟨D.drew,by show _<=f.1.size;omega,x0,x1,x2,y0,y1,y2⟩;have tr:∀z F,(Eo w g1 q1 l1 c1 p1 m1 e1 g2 q2 l2 c2 p2 m2 e2) z->Below z.1.size z F->(Eo w g1 q1 l1 c1 p1 m1 e1 g2 q2 l2 c2 p2 m2 e2) F:=by rintro z F ⟨a0,a1,o,q,s,x,y,A⟩ h;have hs:=h.size;exact⟨cV a0 h,by omega,fg h (by omega) o,fg h (by omega) q,fg h (by omega) s,fg h (by omega) x,fg h (by omega) y,fg h (by omega) A⟩
 have ts:∀z j u,(Eo w g1 q1 l1 c1 p1 m1 e1 g2 q2 l2 c2 p2 m2 e2) z->(Eo w g1 q1 l1 c1 p1 m1 e1 g2 q2 l2 c2 p2 m2 e2) (z.setCell ⟨w.1.size+1+1,j,none⟩ u):=by
  rintro z j u ⟨a0,a1,o,q,s,x,y,A⟩
  exact⟨a0.setCell (by show _<=w.1.size+1+1;omega) u,by simp;omega,(lf _ _ _ _<|by simp;try omega).trans o,(lf _ _ _ _<|by simp;try omega).trans q,(lf _ _ _ _<|by simp;try omega).trans s,(lf _ _ _ _<|by simp;try omega).trans x,(lf _ _ _ _<|by simp;try omega).trans y,(lf _ _ _ _<|by simp;try omega).trans A⟩
 have aa:=bC tr;have E:=bC ts;clear tr ts;have H:Hid (QNew f<|w.1.size+1+1):=G;have aH:Hid (Below w.1.size w f):=D;clear G D x0 x1 x2 y0 y1 y2;have ak:f.drew.1.size=f.1.size:=rfl
 go_region_held3 (Eo w g1 q1 l1 c1 p1 m1 e1 g2 q2 l2 c2 p2 m2 e2) (first | exact E.out _ _ _ (E.out _ _ _<|E.out _ _ _ P) | exact P | exact C | exact B)
  (first
    | (go_at_call 148;with_reducible refine(af _ ?_).mono ?_;exact B.1;rintro e wa ⟨ra,rfl,ha,Q⟩
       have C:=aa.out _ _ B Q;have Z:=Dq (ad.out.below C.1) ha hL J.out.1 J.out.2
       rw[Ar] at Z)
    | (go_at_call 147;with_reducible refine Z.mono ?_;rintro e wd ⟨rd,O,mm,rfl,hq,ae,V,R⟩
       have P:=aa.out _ _ C R;obtain⟨u1,u2,am,aj,rfl,k2,k3,k4,Y,k6,k7⟩:=hq;obtain⟨qn,kn,rfl⟩:=k2.form;obtain⟨qd,kd,rfl⟩:=Y.form;have M:Below f.1.size f wd:=(kE f.1.size f).drew.trans<|cV Q R;obtain⟨U,ah⟩:=Em (N:=w.1.size+1+1) (g:=cI O mm<|bB d1*bB d2) (by omega) H.out aH.out M k2 k3 k4 Y k6 k7;have k:=H.out.below M;have f0:=k.c0;have f1:=k.c1;have f2:=k.c2;have fr:=k.fr;have jJ:=bC V
       clear k V))
 go_wp2_with fail;refine lJ (jP rfl _ _ (w.1.size+1+1) _ dd rfl ah hu hd uN) rfl ?_;exact⟨_,O,mm,rfl,U.out.1,ae,jJ.out,U.out.2⟩
def jo (s:Int):Int:=if s=0 then 0 else if s<0 then -1 else 1
theorem Dr {m D S:Int} (l:0<=m) (j:0<D) (e:sg g*m=S):(if db m D=0 then(0:Int) else if cI g m D then -1 else 1)=jo S:=by
 unfold jo db cI;by_cases h:m=0
 .subst h;simp only[nY] at e;rw[<-e];simp
 have i:=Dn (b:=D) (by omega:0<m);have k:cJ m D<=m:=by unfold cJ;have:=Nat.le_of_dvd (by omega)<|Nat.gcd_dvd_left m.toNat D.toNat;omega
 have h1:1<=m / cJ m D:=(Int.le_ediv_iff_mul_le i).2 (by omega);rw[kZ (by omega:¬(m=0\/D=0)),kZ (by omega:¬m / cJ m D=0),kZ (by omega:¬(m=0\/D=0))];cases g
 .have f:m=S:=(by simpa [sg] using e);rw[kZ (by omega:¬S=0),kZ (by omega:¬S<0)];simp
 have f:-m=S:=(by simpa [sg] using e);rw[kZ (by omega:¬S=0),kU (by omega:S<0)];simp
theorem FF (h:0<=d):0<bB d:=by unfold bB;split<;>omega
theorem QAt.nn (h:QAt w v g n d):0<=n/\0<=d:=by obtain⟨_,_,f,e,_,h1,_,rfl,h2,_,rfl⟩:=h;exact⟨gD h1.1,gD h2.1⟩
theorem GX {h i:Int} (h1:QAt w a g1 h d1) (h2:QAt w b g2 i d2) (E:L<=68719476000) (j:so L h d1) (k:so L i d2):
  bF w 82 #[a,b] (.int .i64<|jo<|sg g1*(h*bB d2) - sg g2*(i*bB d1)):=by
 have s:∀z,Below w.1.size w z->_:=λz A=>As (h1.below A) (h2.below A) E j k;have q:0<bB d1*bB d2:=pP (FF h1.nn.2)<|FF h2.nn.2;have J:Hid (0<bB d1*bB d2):=q;obtain⟨_,_,K,B,rfl,u,_,_,l,_,_⟩:=h1;obtain⟨_,_,M,C,rfl,x,_,_,o,_,_⟩:=h2;obtain⟨q1,c1,rfl⟩:=u.form;obtain⟨p1,e1,rfl⟩:=l.form;obtain⟨q2,c2,rfl⟩:=x.form;obtain⟨p2,e2,rfl⟩:=o.form;generalize K.length=l1 at*;generalize B.length=m1 at*;generalize M.length=l2 at*;generalize C.length=m2 at*;clear u x l o j k q;have f:Below w.1.size w ((w.alloc<|.cells (qA g1 q1 l1 c1 p1 m1 e1) 80).alloc<|.cells (qA g2 q2 l2 c2 p2 m2 e2) 80):=dF _ _ _;have D:=s _ f;clear s;go_enter func82,ntmps82
 go_wp2_with (first
  | (go_at_call 113;with_reducible refine D.mono ?_;rintro e O ⟨r,g,m,rfl,hq,H,I,F⟩
     have y:=GW hq
     rw[Dr H J.out I] at y)
  | (go_at_call 112;with_reducible refine jR y λP G=>?_))
 go_ret;exact⟨rfl,f.trans<|(cV F G).mono f.size⟩
theorem MN (xs:List Int):(bE<|bH xs).length<=2*xs.length:=by rw[ed];have:=fp (bH xs) (bH xs).length;rw[Fj] at this ⊢;exact this
theorem Rz (e:cB de) (h:bE (bH de)=[]):bB (val de)=1:=by have:=(GF<|Ag e).1 h;rw[xm] at this;simp[bB,this]
theorem RA (f:cB de) (h:¬bE (bH de)=[]):bB (val de)=val de:=by have:¬val de=0:=λe=>h ((GF<|Ag f).2<|by rw[xm];exact e);simp[bB,this]
abbrev At (w:World) (g:Bool) (q1:Option Addr) (l1:Nat) (c1:Nat) (p1:Option Addr) (m1:Nat) (e1:Nat):World->Prop:=λz=>Below w.1.size w z/\w.1.size+2<=z.1.size/\z.cell? ⟨w.1.size,0,none⟩=some (.bool g)/\z.cell? ⟨w.1.size,1,none⟩=some (.slice q1 l1 c1)/\z.cell? ⟨w.1.size,2,none⟩=some (.slice p1 m1 e1)
theorem BY {nu:List Int} (h1:Sl w (.slice q1 l1 c1) nu) (h2:Sl w (.slice p1 m1 e1) de) (ln:nu.length<=34359738000) (ld:de.length<=34359738000):
  cN 110 #[.agg<|qA g q1 l1 c1 p1 m1 e1] w λe w'=>∃v,e=.returned v/\QAt w' v (cI g (val nu)<|bB<|val de) (db (val nu)<|bB<|val de) (dg (val nu)<|bB<|val de)/\Below w.1.size w w':=by
 have ag:∀z,Below w.1.size w z->cN 77 #[.slice q1 l1 c1] z λe w'=>∃r,e=.returned r/\Sl16 w' r (bE<|bH nu)/\Below z.1.size z w':=λz x=>Ah (h1.below x) (by omega);have ai:∀z,Below w.1.size w z->cN 77 #[.slice p1 m1 e1] z λe w'=>∃r,e=.returned r/\Sl16 w' r (bE<|bH de)/\Below z.1.size z w':=λz x=>Ah (h2.below x) (by omega);have ak:(bE<|bH nu).length<=274877906000:=by have:=MN nu;omega
 have ao:(bE<|bH de).length<=274877906000:=by have:=MN de;omega
 have Z:bE (bH de)=[]->Hid (bB (val de)=1):=λh=>Rz h2.1 h;have aa:¬bE (bH de)=[]->Hid (bB (val de)=bA (bE<|bH de)):=λh=>by rw[o4,xm];exact RA h2.1 h
 have ad:=jH<|bH de;generalize bE (bH de)=D at*;have gp:Hid (bD D):=ad;have am:=λz=>Fy z 1 (by omega) (by omega);obtain⟨dd,hu,hd⟩:=Do;clear h1 h2 ad;go_enter func110,ntmps110;go_wp2_with fail;have aC:QNew ((w.alloc<|.cells (qA g q1 l1 c1 p1 m1 e1) 30).alloc<|.cells zC 80) (w.1.size+1):=by have:=QNew.made<|w.alloc<|.cells (qA g q1 l1 c1 p1 m1 e1) 30;simpa using this
 have Y:Below w.1.size w ((w.alloc<|.cells (qA g q1 l1 c1 p1 m1 e1) 30).alloc<|.cells zC 80):=dF w _ _;have au:((w.alloc<|.cells (qA g q1 l1 c1 p1 m1 e1) 30).alloc<|.cells zC 80).1.size=w.1.size+2:=by simp
 have x0:((w.alloc<|.cells (qA g q1 l1 c1 p1 m1 e1) 30).alloc<|.cells zC 80).cell? ⟨w.1.size,0,none⟩=some (.bool g):=by simp
 have x1:((w.alloc<|.cells (qA g q1 l1 c1 p1 m1 e1) 30).alloc<|.cells zC 80).cell? ⟨w.1.size,1,none⟩=some (.slice q1 l1 c1):=by simp
 have x2:((w.alloc<|.cells (qA g q1 l1 c1 p1 m1 e1) 30).alloc<|.cells zC 80).cell? ⟨w.1.size,2,none⟩=some (.slice p1 m1 e1):=by simp
 generalize ((w.alloc<|.cells (qA g q1 l1 c1 p1 m1 e1) 30).alloc<|.cells zC 80)=i at*;have ab:(At w g q1 l1 c1 p1 m1 e1) i:=⟨Y,by omega,x0,x1,x2⟩;have tr:∀z z',(At w g q1 l1 c1 p1 m1 e1) z->Below z.1.size z z'->(At w g q1 l1 c1 p1 m1 e1) z':=by rintro z z' ⟨a0,a1,R,S,T⟩ F;have hs:=F.size;exact⟨cV a0 F,by omega,fg F (by omega) R,fg F (by omega) S,fg F (by omega) T⟩
 have ts:∀z j u,(At w g q1 l1 c1 p1 m1 e1) z->(At w g q1 l1 c1 p1 m1 e1) (z.setCell ⟨w.1.size+1,j,none⟩ u):=by rintro z j u ⟨a0,a1,R,S,T⟩;exact⟨a0.setCell (by show _<=w.1.size+1;omega) u,by simp;omega,(lf _ _ _ _<|by simp).trans R,(lf _ _ _ _<|by simp).trans S,(lf _ _ _ _<|by simp).trans T⟩
 have y:=bC tr;have A:=bC ts;have O:Hid (QNew i<|w.1.size+1):=aC;have U:Hid (Below w.1.size w i):=Y;have ir:=bC ab;clear tr ts aC Y ab;have aj:=ai i U.out;clear ai;by_cases W:D=[]
 .subst W;have I:=Z rfl;clear Z aa
  go_wp2_with (first
   | (go_at_call 77;with_reducible refine aj.mono ?_;rintro e w1 ⟨r1,rfl,s,G⟩
      obtain⟨Q,kd,rfl⟩:=s.form)
   | (go_at_call 60;with_reducible refine(am _).mono ?_;rintro e f ⟨r2,P,rfl,x,ae,af,an,ac⟩))
  have m:Hid (Below i.1.size i f):=cV G ac;have o:(At w g q1 l1 c1 p1 m1 e1) f.drew:=by have:=y.out _ _ ir.out m.out;exact⟨this.1.drew,this.2⟩
  have l:Hid (Sl16 f r2 P/\bD P/\bA P=bB (val de)/\P.length<=274877906000):=⟨x,ae,by rw[I.out,af],by omega⟩;clear x ae af an ac G I s
  go_region_held3 (At w g q1 l1 c1 p1 m1 e1) (first | exact A.out _ _ _ (A.out _ _ _<|A.out _ _ _ E) | exact E | exact C | exact o)
   (first
     | (go_at_call 77;with_reducible refine(ag _ ?_).mono ?_;exact o.1;rintro e wa ⟨ra,rfl,X,q⟩
        have C:=y.out _ _ o q;have M:=FE (g:=g) X (l.out.1.below<|(kE f.1.size f).drew.trans q) (jH _) l.out.2.1 ak l.out.2.2.2
        rw[o4,xm,l.out.2.2.1] at M)
     | (go_at_call 59;with_reducible refine M.mono ?_;rintro e wd ⟨rd,rfl,hq,H⟩
        have E:=y.out _ _ C H;obtain⟨u1,u2,ap,al,rfl,k2,k3,k4,K,k6,k7⟩:=hq;obtain⟨qn,kn,rfl⟩:=k2.form;obtain⟨Q,kd,rfl⟩:=K.form;have B:Below i.1.size i wd:=m.out.trans<|((kE f.1.size f).drew.trans<|cV q H).mono m.out.size;obtain⟨J,V⟩:=Em (N:=w.1.size+1) (g:=cI g (val nu)<|bB<|val de) (by omega) O.out U.out B k2 k3 k4 K k6 k7;have k:=O.out.below B;have f0:=k.c0;have f1:=k.c1;have f2:=k.c2;have fr:=k.fr
        clear k))
  go_wp2_with fail;refine lJ (jP rfl _ _ (w.1.size+1) _ dd rfl V hu hd uN) rfl ?_;exact⟨_,rfl,J.out.1,J.out.2⟩
 have I:=aa W;have aq:¬(D.length:Int)=0:=by have:=lG.2 W;omega
 clear Z aa
 go_wp2_with (go_at_call 77;with_reducible refine aj.mono ?_;rintro e f ⟨r2,rfl,s,G⟩
              have ar:Hid (Sl16 f r2 D):=s
              obtain⟨Q,kd,rfl⟩:=s.form)
 have m:Hid (Below i.1.size i f):=G;have o:(At w g q1 l1 c1 p1 m1 e1) f.drew:=by have:=y.out _ _ ir.out m.out;exact⟨this.1.drew,this.2⟩
 have l:Hid (Sl16 f (.slice Q D.length kd) D/\bD D/\bA D=bB (val de)/\D.length<=274877906000):=⟨s,gp.out,by rw[I.out],ao⟩;clear G I s
 go_region_held3 (At w g q1 l1 c1 p1 m1 e1) (first | exact A.out _ _ _ (A.out _ _ _<|A.out _ _ _ E) | exact E | exact C | exact o)
  (first
    | (go_at_call 77;with_reducible refine(ag _ ?_).mono ?_;exact o.1;rintro e wa ⟨ra,rfl,X,q⟩
       have C:=y.out _ _ o q;have M:=FE (g:=g) X (l.out.1.below<|(kE f.1.size f).drew.trans q) (jH _) l.out.2.1 ak l.out.2.2.2
       rw[o4,xm,l.out.2.2.1] at M)
    | (go_at_call 59;with_reducible refine M.mono ?_;rintro e wd ⟨rd,rfl,hq,H⟩
       have E:=y.out _ _ C H;obtain⟨u1,u2,ap,al,rfl,k2,k3,k4,K,k6,k7⟩:=hq;obtain⟨qn,kn,rfl⟩:=k2.form;obtain⟨Q,kd,rfl⟩:=K.form;have B:Below i.1.size i wd:=m.out.trans<|((kE f.1.size f).drew.trans<|cV q H).mono m.out.size;obtain⟨J,V⟩:=Em (N:=w.1.size+1) (g:=cI g (val nu)<|bB<|val de) (by omega) O.out U.out B k2 k3 k4 K k6 k7;have k:=O.out.below B;have f0:=k.c0;have f1:=k.c1;have f2:=k.c2;have fr:=k.fr
       clear k))
 go_wp2_with fail;refine lJ (jP rfl _ _ (w.1.size+1) _ dd rfl V hu hd uN) rfl ?_;exact⟨_,rfl,J.out.1,J.out.2⟩
theorem xV (f:0<=n) (e:0<=d):db n d<=n/\dg n d<=max d 1/\0<=db n d/\0<=dg n d:=by
 unfold db dg;split
 .omega
 rename_i h;have i:=Dn (b:=d) (by omega:0<n);have h1:=pI (cJ n d) f;have h2:=pI (cJ n d) e;have h3:=mt f (by omega:0<=cJ n d);have h4:=mt e (by omega:0<=cJ n d);omega
structure IvV where
 g1:Bool
 n1:Int
 d1:Int
 g2:Bool
 n2:Int
 d2:Int
 li:Bool
 hh:Bool
 em:Bool
def IAt (w:World) (v:Value) (i:IvV):Prop:=
 ∃a1 b1 a2 b2,v=.agg #[.bool i.g1,a1,b1,.bool i.g2,a2,b2,.bool i.li,.bool i.hh,.bool i.em]/\QAt w (.agg #[.bool i.g1,a1,b1]) i.g1 i.n1 i.d1/\QAt w (.agg #[.bool i.g2,a2,b2]) i.g2 i.n2 i.d2
theorem IAt.below {i:IvV} (h:IAt w v i) (e:Below w.1.size w w'):IAt w' v i:=by obtain⟨f,k,j,l,h1,h2,h3⟩:=h;exact⟨f,k,j,l,h1,h2.below e,h3.below e⟩
structure IvC where
 g1:Bool
 n1:Int
 d1:Int
 g2:Bool
 n2:Int
 d2:Int
 li:Bool
 hh:Bool
def IvC.lo (c:IvC):Bool × Int × Int:=if c.li then(false,0,0) else(cI c.g1 c.n1<|bB c.d1,db c.n1<|bB c.d1,dg c.n1<|bB c.d1)
def IvC.hi (c:IvC):Bool × Int × Int:=if c.hh then(false,0,0) else(cI c.g2 c.n2<|bB c.d2,db c.n2<|bB c.d2,dg c.n2<|bB c.d2)
def qS (a b:Bool × Int × Int):Int:=jo<|sg a.1*(a.2.1*bB b.2.2) - sg b.1*(b.2.1*bB a.2.2)
end
def IvC.v (c:IvC):IvV:=
 if c.li=false/\c.hh=false/\0<qS c.lo c.hi then⟨false,0,0,false,0,0,false,false,true⟩
 else⟨c.lo.1,c.lo.2.1,c.lo.2.2,c.hi.1,c.hi.2.1,c.hi.2.2,c.li,c.hh,false⟩
section
variable {w w':World} {a b v v0 v1 v2 v3 v4 v5 v6:Value} {g1 g2 g:Bool} {d1 d2 d n:Int} {L l1 c1 m1 e1 N l2 c2 m2 e2:Nat} {de nu1 de1 nu2 de2:List Int} {q1 p1 q2 p2:Option Addr} {t:TypeId} {cs:Array Value}
theorem Ep (w:World):QAt w (.agg zC) false 0 0:=⟨_,_,[],[],rfl,⟨λj=>by simp[List.getD],by simp,none,0,rfl,kF _,.inl rfl⟩,λm e=>by simp at e,rfl,⟨λj=>by simp[List.getD],by simp,none,0,rfl,kF _,.inl rfl⟩,λm e=>by simp at e,rfl⟩
theorem FG:∃d,prog.underlying 130=some d/\d.isRow=true:=⟨_,underlying130,rfl⟩
theorem BZ:(prog.info? 130).map (·.size)=some 9:=by kernel_rfl
def BlkI (w:World) (N:Nat) (t:TypeId) (cs:Array Value):Prop:=w.1[N]?=some (.cells cs t (0,0))
def FH (cs:Array Value):Prop:=∀(j:Nat) (x:Int),cs[j]?≠some (Value.int .u32 x)
theorem BlkI.lt (h:BlkI w N t cs):N<w.1.size:=(kG.1 h).1
theorem BlkI.below (h:BlkI w N t cs) (e:Below w.1.size w w'):BlkI w' N t cs:=(e.block N h.lt).trans h
theorem BlkI.cell (h:BlkI w N t cs) (j:Nat):w.cell? ⟨N,j,none⟩=cs[j]?:=by unfold BlkI at h;simp[World.cell?,h]
theorem BlkI.fr (h:BlkI w N t cs) (j:Nat):w.frozen? ⟨N,j,none⟩=false:=by unfold BlkI at h;simp[World.frozen?,h]
theorem BlkI.set (h:BlkI w N t cs) (j:Nat) (v:Value):BlkI (w.setCell ⟨N,j,none⟩ v) N t (cs.setIfInBounds j v):=by unfold BlkI at h ⊢;show(w.1.modify N _)[N]?=_;rw[qG,kU rfl,h];simp
theorem BlkI.other (h:BlkI w N t cs) {p:Addr} (e:p.block≠N) (v:Value):BlkI (w.setCell p v) N t cs:=(mr _ _ _ _<|by omega).trans h
theorem BlkI.row (h:BlkI w N t cs):w.rangeAt N 0 cs.toList:=λj v hv=>by have:=h.cell j;rw[mF,this];simpa using hv
theorem Sl16.notI {xs:List Int} (h:Sl16 w v xs) {t:TypeId} (j:BlkI w N t cs) (k:FH cs):Sl16N N w v xs:=by
 obtain⟨h1,h2,q,cap,h3,h4,h5⟩:=h;refine⟨h1,h2,q,cap,h3,h4,?_⟩;by_cases f:xs=[]
 .exact .inl f
 rcases h5 with h5 | ⟨b,o,e,l,i⟩
 .exact absurd h5 f
 refine .inr ⟨b,o,e,l,?_,i⟩;rintro rfl;exact k _ _<|(j.cell _).symm.trans<|i 0<|lG.2 f
theorem QAt.sav (h:QAt w v g n d) {t:TypeId} (e:BlkI w N t cs) (f:FH cs) (i:Sav N w w'):QAt w' v g n d:=by obtain⟨a,b,k,j,h1,h2,h3,h4,h5,h6,h7⟩:=h;exact⟨a,b,k,j,h1,((h2.notI e f).sav i).sl,h3,h4,((h5.notI e f).sav i).sl,h6,h7⟩
theorem kv {e f h:Bool} {l m:Option Addr} {i c3 k c4:Nat}:FH (iB g1 q1 l1 c1 q2 l2 c2 g2 l i c3 m k c4 e f h):=by
 intro j x
 match j with
 | 0=>simp
 | 1=>simp
 | 2=>simp
 | 3=>simp
 | 4=>simp
 | 5=>simp
 | 6=>simp
 | 7=>simp
 | 8=>simp
 | j+9=>simp
theorem Au (w:World):bF w 111 #[] (.agg<|iB false none 0 0 none 0 0 false none 0 0 none 0 0 false false true):=by obtain⟨e,hu,f⟩:=FG;go_enter func111,ntmps111;go_wp2;refine lJ (jP rfl _ _ w.1.size [.bool false,.slice none 0 0,.slice none 0 0,.bool false,.slice none 0 0,.slice none 0 0,.bool false,.bool false,.bool true] e rfl (BlkI.row<|lK w _) hu f BZ) rfl ?_;exact⟨rfl,cU _ _⟩
end
theorem BlkI.c2 {w:World} {N:Nat} {t:TypeId} {v0 v1:Value} (h:BlkI w N t #[v0,v1]):w.cell? ⟨N,0,none⟩=some v0/\w.cell? ⟨N,1,none⟩=some v1:=
 ⟨h.cell 0,h.cell 1⟩
section
variable {w w':World} {a b v v0 v1 v2 v3 v4 v5 v6:Value} {g1 g2 g:Bool} {d1 d2 d n:Int} {L l1 c1 m1 e1 N l2 c2 m2 e2:Nat} {de nu1 de1 nu2 de2:List Int} {q1 p1 q2 p2:Option Addr} {t:TypeId} {cs:Array Value}
theorem BlkI.c3 (h:BlkI w N t #[v0,v1,v2]):w.cell? ⟨N,0,none⟩=some v0/\w.cell? ⟨N,1,none⟩=some v1/\w.cell? ⟨N,2,none⟩=some v2:=
 ⟨h.cell 0,h.cell 1,h.cell 2⟩
theorem BlkI.c7 (h:BlkI w N t #[v0,v1,v2,v3,v4,v5,v6]):w.cell? ⟨N,0,none⟩=some v0/\w.cell? ⟨N,1,none⟩=some v1/\w.cell? ⟨N,2,none⟩=some v2/\w.cell? ⟨N,3,none⟩=some v3/\w.cell? ⟨N,4,none⟩=some v4/\w.cell? ⟨N,5,none⟩=some v5/\w.cell? ⟨N,6,none⟩=some v6:=
 ⟨h.cell 0,h.cell 1,h.cell 2,h.cell 3,h.cell 4,h.cell 5,h.cell 6⟩
theorem BlkI.c8 {e:Value} (h:BlkI w N t #[v0,v1,v2,v3,v4,v5,v6,e]):w.cell? ⟨N,0,none⟩=some v0/\w.cell? ⟨N,1,none⟩=some v1/\w.cell? ⟨N,2,none⟩=some v2/\w.cell? ⟨N,3,none⟩=some v3/\w.cell? ⟨N,4,none⟩=some v4/\w.cell? ⟨N,5,none⟩=some v5/\w.cell? ⟨N,6,none⟩=some v6/\w.cell? ⟨N,7,none⟩=some e:=
 ⟨h.cell 0,h.cell 1,h.cell 2,h.cell 3,h.cell 4,h.cell 5,h.cell 6,h.cell 7⟩
theorem BlkI.c9 {e f:Value} (h:BlkI w N t #[v0,v1,v2,v3,v4,v5,v6,e,f]):w.cell? ⟨N,0,none⟩=some v0/\w.cell? ⟨N,1,none⟩=some v1/\w.cell? ⟨N,2,none⟩=some v2/\w.cell? ⟨N,3,none⟩=some v3/\w.cell? ⟨N,4,none⟩=some v4/\w.cell? ⟨N,5,none⟩=some v5/\w.cell? ⟨N,6,none⟩=some v6/\w.cell? ⟨N,7,none⟩=some e/\w.cell? ⟨N,8,none⟩=some f:=
 ⟨h.cell 0,h.cell 1,h.cell 2,h.cell 3,h.cell 4,h.cell 5,h.cell 6,h.cell 7,h.cell 8⟩
theorem GZ (w:World) (a b c:Obj):Below w.1.size w (((w.alloc a).alloc b).alloc c):=(dF w a b).alloc (by simp;omega) c
theorem xW (w:World) (cs:Array Value) (t:TypeId) (b c:Obj):BlkI (((w.alloc<|.cells cs t).alloc b).alloc c) w.1.size t cs:=by have h1:BlkI (w.alloc<|.cells cs t) w.1.size t cs:=lK w _;exact(h1.below<|cU _ b).below (cU _ c)
theorem uO (w:World) (a:Obj) (cs:Array Value) (t:TypeId) (c:Obj):BlkI (((w.alloc a).alloc<|.cells cs t).alloc c) (w.1.size+1) t cs:=by
 have h1:BlkI ((w.alloc a).alloc<|.cells cs t) (w.alloc a).1.size t cs:=lK _ _;have h2:=h1.below<|cU _ c
 rwa [show (w.alloc a).1.size=w.1.size+1 by simp] at h2
theorem xX (w:World) (a b:Obj) (cs:Array Value) (t:TypeId):BlkI (((w.alloc a).alloc b).alloc<|.cells cs t) (w.1.size+1+1) t cs:=by
 have h1:BlkI (((w.alloc a).alloc b).alloc<|.cells cs t) ((w.alloc a).alloc b).1.size t cs:=lK _ _
 rwa [show ((w.alloc a).alloc b).1.size=w.1.size+1+1 by simp] at h1
theorem BlkI.sav {M:Nat} (h:BlkI w N t cs) (f:Sav M w w') (e:N≠M):BlkI w' N t cs:=(f.block N h.lt e).trans h
theorem G5 (h:BlkI w N t cs) (j:Nat) (v0 v1 v2:Value):
  BlkI (((w.setCell ⟨N,j,none⟩ v0).setCell ⟨N,j+1,none⟩ v1).setCell ⟨N,j+2,none⟩ v2) N t (((cs.setIfInBounds j v0).setIfInBounds (j+1) v1).setIfInBounds (j+2) v2)/\Sav N w (((w.setCell ⟨N,j,none⟩ v0).setCell ⟨N,j+1,none⟩ v1).setCell ⟨N,j+2,none⟩ v2):=
 ⟨((h.set _ _).set _ _).set _ _,((((Sav.of<|kE _ _).setCell _ _).setCell _ _).setCell _ _)⟩
theorem G6 {D r q o m l j f e:Value} (h:BlkI w N t #[D,r,q,o,m,l,j,f,e]) (v0 v1 v2 v3 v4 v5 v6 i k:Value):
  BlkI (((((((((w.setCell ⟨N,0,none⟩ v0).setCell ⟨N,1,none⟩ v1).setCell ⟨N,2,none⟩ v2).setCell ⟨N,3,none⟩ v3).setCell ⟨N,4,none⟩ v4).setCell ⟨N,5,none⟩ v5).setCell ⟨N,6,none⟩ v6).setCell ⟨N,7,none⟩ i).setCell ⟨N,8,none⟩ k) N t #[v0,v1,v2,v3,v4,v5,v6,i,k]/\
  Sav N w (((((((((w.setCell ⟨N,0,none⟩ v0).setCell ⟨N,1,none⟩ v1).setCell ⟨N,2,none⟩ v2).setCell ⟨N,3,none⟩ v3).setCell ⟨N,4,none⟩ v4).setCell ⟨N,5,none⟩ v5).setCell ⟨N,6,none⟩ v6).setCell ⟨N,7,none⟩ i).setCell ⟨N,8,none⟩ k):=by
 have a0:BlkI _ N t #[v0,r,q,o,m,l,j,f,e]:=h.set 0 v0;have s:BlkI _ N t #[v0,v1,q,o,m,l,j,f,e]:=a0.set 1 v1;have u:BlkI _ N t #[v0,v1,v2,o,m,l,j,f,e]:=s.set 2 v2;have x:BlkI _ N t #[v0,v1,v2,v3,m,l,j,f,e]:=u.set 3 v3;have y:BlkI _ N t #[v0,v1,v2,v3,v4,l,j,f,e]:=x.set 4 v4;have z:BlkI _ N t #[v0,v1,v2,v3,v4,v5,j,f,e]:=y.set 5 v5;have A:BlkI _ N t #[v0,v1,v2,v3,v4,v5,v6,f,e]:=z.set 6 v6;have B:BlkI _ N t #[v0,v1,v2,v3,v4,v5,v6,i,e]:=A.set 7 i;have C:BlkI _ N t #[v0,v1,v2,v3,v4,v5,v6,i,k]:=B.set 8 k;have b:Sav N w _:=((((((((((Sav.of<|kE _ w).setCell 0 v0).setCell 1 v1).setCell 2 v2).setCell 3 v3).setCell 4 v4).setCell 5 v5).setCell 6 v6).setCell 7 i).setCell 8 k);exact⟨C,b⟩
theorem xY {B:Int} (f:0<=n) (e:0<=d) (h1:n<B) (h2:bB d<B) (h3:1<B):db n (bB d)<B/\dg n (bB d)<B:=by have:=xV f (by have:=FF e;omega:0<=bB d);omega
theorem RB {xs:List Int} (e:cB xs) (f:xs.length<=34359737000):val xs<65536^(68719475000:Nat):=by have h1:=ux<|Ag e;rw[xm,Fj] at h1;have h2:=GT (by omega:2*xs.length<=68719475000);exact Int.lt_of_lt_of_le h1 h2
theorem Dt (_h1:Sl w (.slice q1 l1 c1) nu1) (_h2:Sl w (.slice p1 m1 e1) de1) (_h3:Sl w (.slice q2 l2 c2) nu2) (_h4:Sl w (.slice p2 m2 e2) de2)
  (_i:nu1.length<=34359737000) (_j:de1.length<=34359737000) (_k:nu2.length<=34359737000) (_l:de2.length<=34359737000):cN 81 #[.agg<|iA g1 q1 l1 c1 p1 m1 e1 g2 q2 l2 c2 p2 m2 e2 true true] w λe w'=>∃v,e=.returned v/\IAt w' v (IvC.mk g1 (val nu1) (val de1) g2 (val nu2) (val de2) true true).v/\Below w.1.size w w':=by
 obtain⟨f,hu,h⟩:=FG;go_enter func81,ntmps81;go_wp2;refine lJ (jP rfl _ _ (w.1.size+1) [.bool false,.slice none 0 0,.slice none 0 0,.bool false,.slice none 0 0,.slice none 0 0,.bool true,.bool true,.bool false] f rfl (BlkI.row<|uO w _ (iB false none 0 0 none 0 0 false none 0 0 none 0 0 true true false) 130 _) hu h BZ) rfl ?_;refine⟨_,rfl,?_,GZ _ _ _ _⟩;have hv:(IvC.mk g1 (val nu1) (val de1) g2 (val nu2) (val de2) true true).v=⟨false,0,0,false,0,0,true,true,false⟩:=by simp[IvC.v,IvC.lo,IvC.hi]
 rw[hv];exact⟨_,_,_,_,rfl,Ep _,Ep _⟩
theorem Du (_h1:Sl w (.slice q1 l1 c1) nu1) (_h2:Sl w (.slice p1 m1 e1) de1) (h3:Sl w (.slice q2 l2 c2) nu2) (h4:Sl w (.slice p2 m2 e2) de2)
  (_b1:nu1.length<=34359737000) (_b2:de1.length<=34359737000) (b3:nu2.length<=34359737000) (b4:de2.length<=34359737000):cN 81 #[.agg<|iA g1 q1 l1 c1 p1 m1 e1 g2 q2 l2 c2 p2 m2 e2 true false] w λe w'=>∃v,e=.returned v/\IAt w' v (IvC.mk g1 (val nu1) (val de1) g2 (val nu2) (val de2) true false).v/\Below w.1.size w w':=by
 obtain⟨V,hu,W⟩:=FG;have i:Below w.1.size w (((w.alloc<|.cells (iA g1 q1 l1 c1 p1 m1 e1 g2 q2 l2 c2 p2 m2 e2 true false) 83).alloc<|.cells zA 130).alloc<|.cells (iB false none 0 0 none 0 0 false none 0 0 none 0 0 true false false) 130):=GZ _ _ _ _;have A:=xW w (iA g1 q1 l1 c1 p1 m1 e1 g2 q2 l2 c2 p2 m2 e2 true false) 83 (.cells zA 130)<|.cells (iB false none 0 0 none 0 0 false none 0 0 none 0 0 true false false) 130;have C:=uO w (.cells (iA g1 q1 l1 c1 p1 m1 e1 g2 q2 l2 c2 p2 m2 e2 true false) 83) zA 130<|.cells (iB false none 0 0 none 0 0 false none 0 0 none 0 0 true false false) 130;have D:=xX w (.cells (iA g1 q1 l1 c1 p1 m1 e1 g2 q2 l2 c2 p2 m2 e2 true false) 83) (.cells zA 130) (iB false none 0 0 none 0 0 false none 0 0 none 0 0 true false false) 130;have X:=BY (g:=g2) (h3.below i) (h4.below i) (by omega) (by omega);have J:Hid (BlkI _ _ _ _):=A;have K:Hid (BlkI _ _ _ _):=C;have M:Hid (BlkI _ _ _ _):=D;have U:=bC i;clear A C D i h3 h4;go_enter func81,ntmps81
 go_wp2_with (go_at_call 110;with_reducible refine X.mono ?_;rintro e k ⟨r,rfl,hq,j⟩
              have Y:Hid (QAt k r _ _ _):=hq;obtain⟨u1,u2,u,q,rfl,k2,Z,k4,H,k6,k7⟩:=hq;obtain⟨y,s,rfl⟩:=k2.form;obtain⟨x,kd,rfl⟩:=H.form;have o:=J.out.below j;have f:=K.out.below j;have h:=M.out.below j;have c6:k.cell? ⟨w.1.size,6,none⟩=some (.bool true):=o.cell 6;have c7:k.cell? ⟨w.1.size,7,none⟩=some (.bool false):=o.cell 7;obtain⟨d0,d1,d2,d3,d4,d5,d6,d7,d8⟩:=f.c9;obtain⟨f0,f1,f2,f3,f4,f5,f6,f7,f8⟩:=h.c9;have Bm:=f.fr;have aa:=h.fr;have O:Hid (BlkI _ _ _ _):=f;have E:Hid (BlkI _ _ _ _):=h
              clear o f h k2 Z k4 H k6 k7)
 have l:=G5 E.out 3 (.bool<|cI g2 (val nu2)<|bB<|val de2) (.slice y u.length s)<|.slice x q.length kd;have P:=Y.out.sav E.out kv l.2;have I:=O.out.sav l.2 (by omega);have F:Below w.1.size w k:=cV U.out j;have S:=F.trans<|l.2.below (B:=w.1.size) (by omega) F.size;have Q:=P;have z:=I;have G:=S;have m:=G6 z (.bool false) (.slice none 0 0) (.slice none 0 0) (.bool<|cI g2 (val nu2)<|bB<|val de2) (.slice y u.length s) (.slice x q.length kd) (.bool true) (.bool false)<|.bool false;have R:=Q.sav z kv m.2;have T:=G.trans<|m.2.below (B:=w.1.size) (by omega) G.size;refine lJ (jP rfl _ _ (w.1.size+1) [.bool false,.slice none 0 0,.slice none 0 0,.bool<|cI g2 (val nu2)<|bB<|val de2,.slice y u.length s,.slice x q.length kd,.bool true,.bool false,.bool false] V rfl (BlkI.row m.1) hu W BZ) rfl ?_;refine⟨_,rfl,?_,T⟩;have hv:(IvC.mk g1 (val nu1) (val de1) g2 (val nu2) (val de2) true false).v=⟨false,0,0,cI g2 (val nu2)<|bB<|val de2,db (val nu2)<|bB<|val de2,dg (val nu2)<|bB<|val de2,true,false,false⟩:=by simp[IvC.v,IvC.lo,IvC.hi]
 rw[hv];exact⟨_,_,_,_,rfl,Ep _,R⟩
theorem Dw (h1:Sl w (.slice q1 l1 c1) nu1) (h2:Sl w (.slice p1 m1 e1) de1) (_h3:Sl w (.slice q2 l2 c2) nu2) (_h4:Sl w (.slice p2 m2 e2) de2)
  (b1:nu1.length<=34359737000) (b2:de1.length<=34359737000) (_b3:nu2.length<=34359737000) (_b4:de2.length<=34359737000):cN 81 #[.agg<|iA g1 q1 l1 c1 p1 m1 e1 g2 q2 l2 c2 p2 m2 e2 false true] w λe w'=>∃v,e=.returned v/\IAt w' v (IvC.mk g1 (val nu1) (val de1) g2 (val nu2) (val de2) false true).v/\Below w.1.size w w':=by
 obtain⟨W,hu,X⟩:=FG;have s:Below w.1.size w (((w.alloc<|.cells (iA g1 q1 l1 c1 p1 m1 e1 g2 q2 l2 c2 p2 m2 e2 false true) 83).alloc<|.cells zA 130).alloc<|.cells zA 130):=GZ _ _ _ _;have C:=xW w (iA g1 q1 l1 c1 p1 m1 e1 g2 q2 l2 c2 p2 m2 e2 false true) 83 (.cells zA 130)<|.cells zA 130;have D:=uO w (.cells (iA g1 q1 l1 c1 p1 m1 e1 g2 q2 l2 c2 p2 m2 e2 false true) 83) zA 130<|.cells zA 130;have E:=xX w (.cells (iA g1 q1 l1 c1 p1 m1 e1 g2 q2 l2 c2 p2 m2 e2 false true) 83) (.cells zA 130) zA 130;have Y:=BY (g:=g1) (h1.below s) (h2.below s) (by omega) (by omega);have M:Hid (BlkI _ _ _ _):=C;have O:Hid (BlkI _ _ _ _):=D;have P:Hid (BlkI _ _ _ _):=E;have V:=bC s;clear C D E s h1 h2;go_enter func81,ntmps81
 go_wp2_with (go_at_call 110;with_reducible refine Y.mono ?_;rintro e f ⟨r,rfl,hq,u⟩
              have Z:Hid (QAt f r _ _ _):=hq;obtain⟨u1,u2,j,h,rfl,k2,k3,k4,J,k6,k7⟩:=hq;obtain⟨l,i,rfl⟩:=k2.form;obtain⟨k,kd,rfl⟩:=J.form;have z:=M.out.below u;have o:=O.out.below u;have q:=P.out.below u;have c6:f.cell? ⟨w.1.size,6,none⟩=some (.bool false):=z.cell 6;have c7:f.cell? ⟨w.1.size,7,none⟩=some (.bool true):=z.cell 7;obtain⟨d0,d1,d2,d3,d4,d5,d6,d7,d8⟩:=o.c9;obtain⟨f0,f1,f2,f3,f4,f5,f6,f7,f8⟩:=q.c9;have Bm:=o.fr;have aa:=q.fr;have Q:Hid (BlkI _ _ _ _):=o;have F:Hid (BlkI _ _ _ _):=q
              clear z o q k2 k3 k4 J k6 k7)
 have m:=G5 F.out 0 (.bool<|cI g1 (val nu1)<|bB<|val de1) (.slice l j.length i)<|.slice k h.length kd;have R:=Z.out.sav F.out kv m.2;have K:=Q.out.sav m.2 (by omega);have G:Below w.1.size w f:=cV V.out u;have H:=G.trans<|m.2.below (B:=w.1.size) (by omega) G.size;have x:Sav (w.1.size+1+1) (((f.setCell ⟨w.1.size+1+1,0,none⟩<|.bool<|cI g1 (val nu1)<|bB<|val de1).setCell ⟨w.1.size+1+1,1,none⟩<|.slice l j.length i).setCell ⟨w.1.size+1+1,2,none⟩<|.slice k h.length kd) ((((f.setCell ⟨w.1.size+1+1,0,none⟩<|.bool<|cI g1 (val nu1)<|bB<|val de1).setCell ⟨w.1.size+1+1,1,none⟩<|.slice l j.length i).setCell ⟨w.1.size+1+1,2,none⟩<|.slice k h.length kd).setCell ⟨w.1.size+1+1,7,none⟩<|.bool true):=(Sav.of<|kE _ _).setCell 7 _;have S:=R.sav m.1 kv x;have A:=K.sav x (by omega);have I:=H.trans<|x.below (B:=w.1.size) (by omega) H.size;have y:=G6 A (.bool<|cI g1 (val nu1)<|bB<|val de1) (.slice l j.length i) (.slice k h.length kd) (.bool false) (.slice none 0 0) (.slice none 0 0) (.bool false) (.bool true)<|.bool false;have T:=S.sav A kv y.2;have U:=I.trans<|y.2.below (B:=w.1.size) (by omega) I.size;refine lJ (jP rfl _ _ (w.1.size+1) [.bool<|cI g1 (val nu1)<|bB<|val de1,.slice l j.length i,.slice k h.length kd,.bool false,.slice none 0 0,.slice none 0 0,.bool false,.bool true,.bool false] W rfl (BlkI.row y.1) hu X BZ) rfl ?_;refine⟨_,rfl,?_,U⟩;have hv:(IvC.mk g1 (val nu1) (val de1) g2 (val nu2) (val de2) false true).v=⟨cI g1 (val nu1)<|bB<|val de1,db (val nu1)<|bB<|val de1,dg (val nu1)<|bB<|val de1,false,0,0,false,true,false⟩:=by simp[IvC.v,IvC.lo,IvC.hi]
 rw[hv];exact⟨_,_,_,_,rfl,T,Ep _⟩
end
