import Derived.Test.YthcfmhgihcjloaaGreatDoorPk27
namespace Go.Proofs.YthcfmhgihcjloaaGreatDoor
open Go Go.RowKit Tryz
set_option maxRecDepth 100000
set_option maxHeartbeats 16000000
variable {w:World} {g1 g2 ng:Bool} {q1 q2:Option Addr} {f:Int} {m:ByteArray}
def qz (g1:Bool) (n1 d1:Int) (g2:Bool) (n2 d2:Int):Bool:=decide (qS (cI g1 n1<|bB d1,db n1<|bB d1,dg n1<|bB d1) (cI g2 n2<|bB d2,db n2<|bB d2,dg n2<|bB d2)=0)
theorem QAt.form {v:Value} {g:Bool} {n d:Int} (h:QAt w v g n d):∃e i j k l o,v=.agg (qA g e i j k l o):=by obtain⟨a,b,t,s,rfl,q,_,_,r,_,_⟩:=h;obtain⟨_,_,rfl⟩:=q.form;obtain⟨_,_,rfl⟩:=r.form;exact⟨_,_,_,_,_,_,rfl⟩
theorem A7 {p1 p2:Option Addr} {l1 c1 m1 e1 l2 c2 m2 e2:Nat} {nu1 de1 nu2 de2:List Int} (h1:Sl w (.slice q1 l1 c1) nu1) (h2:Sl w (.slice p1 m1 e1) de1) (h3:Sl w (.slice q2 l2 c2) nu2) (h4:Sl w (.slice p2 m2 e2) de2) (b1:nu1.length<=1048576) (b2:de1.length<=1048576) (b3:nu2.length<=1048576) (b4:de2.length<=1048576):
  bF w 108 #[.agg<|qA g1 q1 l1 c1 p1 m1 e1,.agg<|qA g2 q2 l2 c2 p2 m2 e2] (.bool<|qz g1 (val nu1) (val de1) g2 (val nu2)<|val de2):=by
 obtain⟨L,J,y,k⟩:=JE;have F:=Er y k h1.1 h2.1 (by omega) (by omega);have G:=Er y k h3.1 h4.1 (by omega) (by omega);have k1:Hid (∀z,Below w.1.size w z->cN 110 #[.agg<|qA g1 q1 l1 c1 p1 m1 e1] z λe w'=>∃v,e=.returned v/\QAt w' v (cI g1 (val nu1)<|bB<|val de1) (db (val nu1)<|bB<|val de1) (dg (val nu1)<|bB<|val de1)/\Below z.1.size z w'):=λz i=>BY (h1.below i) (h2.below i) (by omega) (by omega);have k2:Hid (∀z,Below w.1.size w z->cN 110 #[.agg<|qA g2 q2 l2 c2 p2 m2 e2] z λe w'=>∃v,e=.returned v/\QAt w' v (cI g2 (val nu2)<|bB<|val de2) (db (val nu2)<|bB<|val de2) (dg (val nu2)<|bB<|val de2)/\Below z.1.size z w'):=λz i=>BY (h3.below i) (h4.below i) (by omega) (by omega);have X:Hid (∀z a b,QAt z a (cI g1 (val nu1)<|bB<|val de1) (db (val nu1)<|bB<|val de1) (dg (val nu1)<|bB<|val de1)->QAt z b (cI g2 (val nu2)<|bB<|val de2) (db (val nu2)<|bB<|val de2) (dg (val nu2)<|bB<|val de2)->bF z 82 #[a,b] (.int .i64<|qS (cI g1 (val nu1)<|bB<|val de1,db (val nu1)<|bB<|val de1,dg (val nu1)<|bB<|val de1) (cI g2 (val nu2)<|bB<|val de2,db (val nu2)<|bB<|val de2,dg (val nu2)<|bB<|val de2))):=λz a b T U=>GX T U J F G;unfold qz;generalize qS (cI g1 (val nu1)<|bB<|val de1,db (val nu1)<|bB<|val de1,dg (val nu1)<|bB<|val de1) (cI g2 (val nu2)<|bB<|val de2,db (val nu2)<|bB<|val de2,dg (val nu2)<|bB<|val de2)=R at*;generalize cI g1 (val nu1) (bB<|val de1)=Y at*;generalize db (val nu1) (bB<|val de1)=X1 at*;generalize dg (val nu1) (bB<|val de1)=Y1 at*;generalize cI g2 (val nu2) (bB<|val de2)=Z at*;generalize db (val nu2) (bB<|val de2)=X2 at*;generalize dg (val nu2) (bB<|val de2)=Y2 at*;have V:Hid (Below w.1.size w<|(w.alloc<|.cells (qA g1 q1 l1 c1 p1 m1 e1) 30).alloc<|.cells (qA g2 q2 l2 c2 p2 m2 e2) 30):=dF w _ _;have O:Hid (BlkI ((w.alloc<|.cells (qA g1 q1 l1 c1 p1 m1 e1) 30).alloc<|.cells (qA g2 q2 l2 c2 p2 m2 e2) 30) w.1.size 30<|qA g1 q1 l1 c1 p1 m1 e1):=by have h:BlkI (w.alloc<|.cells (qA g1 q1 l1 c1 p1 m1 e1) 30) w.1.size 30 (qA g1 q1 l1 c1 p1 m1 e1):=lK _ _;exact h.below<|cU _ _
 have P:Hid (BlkI ((w.alloc<|.cells (qA g1 q1 l1 c1 p1 m1 e1) 30).alloc<|.cells (qA g2 q2 l2 c2 p2 m2 e2) 30) (w.1.size+1) 30<|qA g2 q2 l2 c2 p2 m2 e2):=by
  have h:BlkI ((w.alloc<|.cells (qA g1 q1 l1 c1 p1 m1 e1) 30).alloc<|.cells (qA g2 q2 l2 c2 p2 m2 e2) 30) (w.alloc<|.cells (qA g1 q1 l1 c1 p1 m1 e1) 30).1.size 30 (qA g2 q2 l2 c2 p2 m2 e2):=lK _ _
  rwa [show (w.alloc<|.cells (qA g1 q1 l1 c1 p1 m1 e1) 30).1.size=w.1.size+1 by simp] at h
 have t:(R==0)=decide (R=0):=by by_cases h:R=0<;>simp[h]
 have t:Hid ((R==0)=decide (R=0)):=t;clear h1 h2 h3 h4 F G k;go_enter func108,ntmps108;go_upto_region 1 with fail;generalize ((w.alloc<|.cells (qA g1 q1 l1 c1 p1 m1 e1) 30).alloc<|.cells (qA g2 q2 l2 c2 p2 m2 e2) 30)=A at*;have C:Hid (Below w.1.size w A.drew):=V.out.drew;have n:(λz=>BlkI z w.1.size 30 (qA g1 q1 l1 c1 p1 m1 e1)/\BlkI z (w.1.size+1) 30 (qA g2 q2 l2 c2 p2 m2 e2)) A.drew:=⟨O.out,P.out⟩;refine kN (S:=(λz=>BlkI z w.1.size 30 (qA g1 q1 l1 c1 p1 m1 e1)/\BlkI z (w.1.size+1) 30 (qA g2 q2 l2 c2 p2 m2 e2))) (by kernel_rfl) n λl=>?_;refine tk 0 (.agg<|qA g1 q1 l1 c1 p1 m1 e1) rfl l ?_ (.inl ⟨by rfl,λz g=>by(have h0:=g.1.cell 0;have h1:=g.1.cell 1;have h2:=g.1.cell 2;go_simp)⟩);refine tk 2 (.agg<|qA g2 q2 l2 c2 p2 m2 e2) rfl l ?_ (.inl ⟨by rfl,λz g=>by(have h0:=g.2.cell 0;have h1:=g.2.cell 1;have h2:=g.2.cell 2;go_simp)⟩);refine dy 1 rfl (λK d=>?_);go_simp;refine(k1.out _ C.out).mono ?_;rintro e H ⟨v1,rfl,D,r⟩;obtain⟨x1,x2,x3,x4,x5,x6,rfl⟩:=D.form;have x:Hid (Below w.1.size w H):=cV C.out r;have o:(λz=>BlkI z w.1.size 30 (qA g1 q1 l1 c1 p1 m1 e1)/\BlkI z (w.1.size+1) 30 (qA g2 q2 l2 c2 p2 m2 e2)) H:=⟨n.1.below r,n.2.below r⟩;refine d.out _ _ o λN=>?_;clear d K l
 try simp only[pz]
 refine dy 3 rfl (λK d=>?_);go_simp;refine(k2.out _ x.out).mono ?_;rintro e u ⟨v2,rfl,E,j⟩;obtain⟨u1,u2,u3,u4,u5,u6,rfl⟩:=E.form;have I:Hid (Below w.1.size w u):=cV x.out j;have q:(λz=>BlkI z w.1.size 30 (qA g1 q1 l1 c1 p1 m1 e1)/\BlkI z (w.1.size+1) 30 (qA g2 q2 l2 c2 p2 m2 e2)) u:=⟨o.1.below j,o.2.below j⟩;have W:=X.out u _ _ (D.below j) E;refine d.out _ _ q λM=>?_;clear d K N
 try simp only[pz]
 refine dy 4 rfl (λK d=>?_);go_simp;refine jR W λw5 s=>?_;have Q:(λz=>BlkI z w.1.size 30 (qA g1 q1 l1 c1 p1 m1 e1)/\BlkI z (w.1.size+1) 30 (qA g2 q2 l2 c2 p2 m2 e2)) w5:=⟨q.1.below s,q.2.below s⟩;refine d.out _ _ Q λB=>?_;clear d K M
 try simp only[pz]
 refine tk 5 _ rfl B ?_;refine tk 6 _ rfl B ?_;refine kV (by kernel_rfl) ?_ _;go_wp2_with fail;go_ret;exact⟨by rw[<-t.out];rfl,cV I.out s⟩
theorem TL {p1 p2:Option Addr} {l1 c1 m1 e1 l2 c2 m2 e2:Nat} {nu1 de1 nu2 de2:List Int} (h1:Sl w (.slice q1 l1 c1) nu1) (h2:Sl w (.slice p1 m1 e1) de1) (h3:Sl w (.slice q2 l2 c2) nu2) (h4:Sl w (.slice p2 m2 e2) de2) (b1:nu1.length<=1048576) (b2:de1.length<=1048576) (b3:nu2.length<=1048576) (b4:de2.length<=1048576) (W:Tb w) (ab:large (val nu1) (val de1)=false) (ac:large (val nu2) (val de2)=false):
  bF w 136 #[.agg<|qA g1 q1 l1 c1 p1 m1 e1,.agg<|qA g2 q2 l2 c2 p2 m2 e2] (.tuple #[.int .i64<|nv (cI g1 (val nu1)<|bB<|val de1) (db (val nu1)<|bB<|val de1) (dg (val nu1)<|bB<|val de1) (cI g2 (val nu2)<|bB<|val de2) (db (val nu2)<|bB<|val de2)<|dg (val nu2)<|bB<|val de2,.int .i64 0]):=by
 obtain rfl:=h1.len_eq;obtain rfl:=h2.len_eq;obtain rfl:=h3.len_eq;obtain rfl:=h4.len_eq;have S:=λz (d:Below w.1.size w z)=>FN (g:=g1) (h1.below d) (h2.below d) (by omega) (by omega)<|W.below d;have T:=λz (d:Below w.1.size w z)=>FN (g:=g2) (h3.below d) (h4.below d) (by omega) (by omega)<|W.below d;simp only[ab,ac,sh] at S T;have S:Hid (∀z,Below w.1.size w z->cN 167 #[.agg<|qA g1 q1 nu1.length c1 p1 de1.length e1] z λe w'=>∃f n q l,e=.returned (.tuple #[f,.bool true])/\FAt w' f n q l/\(false=false->n=cI g1 (val nu1) (bB<|val de1)/\q=db (val nu1) (bB<|val de1)/\l=dg (val nu1) (bB<|val de1))/\Below z.1.size z w'):=λz d=>(S z d).mono λe w' h=>by obtain⟨f,n,q,l,h1,h2,h3,h4⟩:=h;exact⟨f,n,q,l,h1,h2,λ_=>by simpa using h3,h4⟩
 have T:Hid (∀z,Below w.1.size w z->cN 167 #[.agg<|qA g2 q2 nu2.length c2 p2 de2.length e2] z λe w'=>∃f n q l,e=.returned (.tuple #[f,.bool true])/\FAt w' f n q l/\(false=false->n=cI g2 (val nu2) (bB<|val de2)/\q=db (val nu2) (bB<|val de2)/\l=dg (val nu2) (bB<|val de2))/\Below z.1.size z w'):=λz d=>(T z d).mono λe w' h=>by obtain⟨f,n,q,l,h1,h2,h3,h4⟩:=h;exact⟨f,n,q,l,h1,h2,λ_=>by simpa using h3,h4⟩
 generalize ad:cI g1 (val nu1) (bB<|val de1)=r at*;generalize db (val nu1) (bB<|val de1)=X1 at*;generalize dg (val nu1) (bB<|val de1)=Y1 at*;generalize cI g2 (val nu2) (bB<|val de2)=u at*;generalize db (val nu2) (bB<|val de2)=X2 at*;generalize dg (val nu2) (bB<|val de2)=Y2 at*;clear ad h1 h2 h3 h4 W ab ac;have aa:Hid (Below w.1.size w<|(w.alloc<|.cells (qA g1 q1 nu1.length c1 p1 de1.length e1) 30).alloc<|.cells (qA g2 q2 nu2.length c2 p2 de2.length e2) 30):=dF w _ _;have Y:=S.out _ aa.out;have R:w.1.size+1<((w.alloc<|.cells (qA g1 q1 nu1.length c1 p1 de1.length e1) 30).alloc<|.cells (qA g2 q2 nu2.length c2 p2 de2.length e2) 30).1.size:=by simp
 have y0:((w.alloc<|.cells (qA g1 q1 nu1.length c1 p1 de1.length e1) 30).alloc<|.cells (qA g2 q2 nu2.length c2 p2 de2.length e2) 30).cell? ⟨w.1.size+1,0,none⟩=some (.bool g2):=by simp
 have y1:((w.alloc<|.cells (qA g1 q1 nu1.length c1 p1 de1.length e1) 30).alloc<|.cells (qA g2 q2 nu2.length c2 p2 de2.length e2) 30).cell? ⟨w.1.size+1,1,none⟩=some (.slice q2 nu2.length c2):=by simp
 have y2:((w.alloc<|.cells (qA g1 q1 nu1.length c1 p1 de1.length e1) 30).alloc<|.cells (qA g2 q2 nu2.length c2 p2 de2.length e2) 30).cell? ⟨w.1.size+1,2,none⟩=some (.slice p2 de2.length e2):=by simp
 go_enter func136,ntmps136
 go_wp2_with (first
  | (go_at_call 167;with_reducible refine Y.mono ?_;clear Y;rintro e i ⟨f,n,q,l,rfl,K,J,o⟩
     obtain⟨a,j,k⟩:=J (by simp);rw[a,j,k] at K;clear J a j k;obtain⟨fa,fb,t,s,rfl,a,j,k,E,L,M,N,O⟩:=K;obtain⟨D,A,rfl⟩:=a.form;obtain⟨C,y,rfl⟩:=E.form;have B3:Hid (Below w.1.size w i):=cV aa.out o;have b:Below i.1.size i (i.alloc<|.cells (qA r D t.length A C s.length y) 147):=cU i _;have X:=bC<|cV B3.out b;have U:w.1.size+1<i.1.size:=kw R o.size;have F1:Hid (FAt (i.alloc<|.cells (qA r D t.length A C s.length y) 147) (.agg<|qA r D t.length A C s.length y) r X1 Y1):=FAt.below ⟨_,_,t,s,rfl,a,j,k,E,L,M,N,O⟩ b;have J1:Hid (BlkI (i.alloc<|.cells (qA r D t.length A C s.length y) 147) i.1.size 147<|qA r D t.length A C s.length y):=lK _ _;have a0:=fg b U<|(o.cell (p:=⟨w.1.size+1,0,none⟩)<|by exact R).trans y0;have a1:=fg b U<|(o.cell (p:=⟨w.1.size+1,1,none⟩)<|by exact R).trans y1;have a2:=fg b U<|(o.cell (p:=⟨w.1.size+1,2,none⟩)<|by exact R).trans y2;have Z:=T.out _ X.out
     clear o b a j k E L M N O y0 y1 y2)
  | (go_at_call 167;with_reducible refine Z.mono ?_;clear Z;rintro e w5 ⟨f2,ah,ai,ag,rfl,K,J,o⟩
     obtain⟨a,j,k⟩:=J (by simp);rw[a,j,k] at K;clear J a j k;obtain⟨fa,fb,B,x,rfl,a,j,k,E,L,M,N,O⟩:=K;obtain⟨I,G,rfl⟩:=a.form;obtain⟨H,F,rfl⟩:=E.form;have B5:Hid (Below w.1.size w w5):=cV X.out o;have b:Below w5.1.size w5 (w5.alloc<|.cells (qA u I B.length G H x.length F) 147):=cU w5 _;have V:Below (i.alloc<|.cells (qA r D t.length A C s.length y) 147).1.size (i.alloc<|.cells (qA r D t.length A C s.length y) 147) (w5.alloc<|.cells (qA u I B.length G H x.length F) 147):=cV o b;have B6:=bC<|cV B5.out b;have F2:FAt (w5.alloc<|.cells (qA u I B.length G H x.length F) 147) (.agg<|qA u I B.length G H x.length F) u X2 Y2:=FAt.below ⟨_,_,B,x,rfl,a,j,k,E,L,M,N,O⟩ b;have Q:BlkI (w5.alloc<|.cells (qA u I B.length G H x.length F) 147) w5.1.size 147 (qA u I B.length G H x.length F):=lK _ _;have P:=J1.out.below V;have af:=Hj (F1.out.below V) F2;have u0:=P.cell 0;have u1:=P.cell 1;have u2:=P.cell 2;have v0:=Q.cell 0;have v1:=Q.cell 1;have v2:=Q.cell 2;simp only[tf,mK,pl] at u0 u1 u2 v0 v1 v2
     clear o b V a j k E L M N O F2 Q P)
  | (go_at_call 99;with_reducible refine jR af λw7 ae=>?_))
 go_ret2;exact⟨rfl,cV B6.out ae⟩
def Ex.sm:Ex->Ex->Bool
 | .mk k f ng nu de m n ar,.mk k' f' ng' nu' de' m' n' ar'=>decide (k=k')&&decide (f=f')&&decide (m.toList=m'.toList)&&qz ng (val nu) (val de) ng' (val nu') (val de')&&(decide (n=n')&&(List.range n).all λi=>(ar i).sm<|ar' i)
 | .non,.non=>true
 | _,_=>false
theorem TM (k1 f1 k2 f2:Int) (g1 g2:Bool) (aq1 cq1 aq2 cq2:Option Addr) (an1 ac1 cn1 cc1 an2 ac2 cn2 cc2:Nat) (m1 m2:ByteArray) (n p1 p2 b o g d:Nat) (a es:Nat->Nd) (P:Nat->Bool) (w:World) (hn:n<=1099511627776)
  (ag:∀i,i<n->NdAt w b (o+i*7) (a i)) (ah:∀i,i<n->NdAt w g (d+i*7) (es i)) (ac:b<w.1.size) (ad:g<w.1.size)
  (U:∀q,Below w.1.size w q->bF q 108 #[.agg<|qA g1 aq1 an1 ac1 cq1 cn1 cc1,.agg<|qA g2 aq2 an2 ac2 cq2 cn2 cc2] (.bool true))
  (hP:∀i,i<n->∀q,Below w.1.size w q->bF q 75 #[(a i).val,(es i).val] (.bool<|P i))
  (X:k1=k2) (hf:f1=f2) (hm:m1.toList=m2.toList):
  bF w 75 #[.agg<|mA k1 f1 g1 aq1 an1 ac1 cq1 cn1 cc1 m1 (some ⟨b,o,none⟩) n p1,.agg<|mA k2 f2 g2 aq2 an2 ac2 cq2 cn2 cc2 m2 (some ⟨g,d,none⟩) n p2] (.bool<|(List.range n).all P):=by
 subst X hf;have h2:∀o d,Below w.1.size w ((w.alloc o).alloc d):=λo d=>dF w o d;go_enter func75,ntmps75
 go_wp2_with (go_at_call 108;refine(U _ ?_).mono ?_;exact h2 _ _;rintro e q ⟨rfl,x⟩
              have Z:q.cell? ⟨w.1.size,6,none⟩=some (.slice (some ⟨b,o,none⟩) n p1):=fg x (by simp;omega) (by simp);have r6:q.cell? ⟨w.1.size+1,6,none⟩=some (.slice (some ⟨g,d,none⟩) n p2):=fg x (by simp) (by simp);have aj:w.1.size+2<=q.1.size:=by have:=x.size;simpa using this
              have aa:=(h2 _ _).trans<|x.mono (h2 _ _).size)
 go_loopw [5] (λi wr=>∃k:Nat,k<=n/\i=.int .i64 k/\(∀j,j<k->P j=true)/\Below q.1.size q wr) (λi _=>n - (intOf i).toNat)
 case atStart=>exact⟨0,kL _,rfl,λj A=>by omega,kE _ _⟩
 case round=>
  obtain⟨k,X,rfl,W,u⟩:=hrel;have S:Hid (∀j,j<k->P j=true):=W;clear W;have t:Below w.1.size w wr:=cV aa u;have B:=fg u (by omega) Z;have C:=fg u (by omega) r6;by_cases y:k<n
  .have am:(k:Int)<(n:Int):=(by omega);obtain⟨D,E,F,G,H,I,J⟩:=(ag k y).below t ac;obtain⟨K,L,M,N,O,Q,R⟩:=(ah k y).below t ad;have T:=hP k y;simp only[Nd.val] at T;have al:=u.size;clear Z r6 U;go_wp2_with fail
   go_region_held3 (λz=>z.cell? ⟨w.1.size,6,none⟩=some (.slice (some ⟨b,o,none⟩) n p1)/\z.cell? ⟨w.1.size+1,6,none⟩=some (.slice (some ⟨g,d,none⟩) n p2)/\z.cell? ⟨b,o+k*7,none⟩=some (.int .i64 (a k).k)/\z.cell? ⟨b,o+k*7+1,none⟩=some (.int .i64 (a k).f)/\z.cell? ⟨b,o+k*7+2,none⟩=some (.bool (a k).neg)/\z.cell? ⟨b,o+k*7+3,none⟩=some (.slice (a k).aq (a k).an (a k).ac)/\z.cell? ⟨b,o+k*7+4,none⟩=some (.slice (a k).cq (a k).cn (a k).cc)/\z.cell? ⟨b,o+k*7+5,none⟩=some (.string (a k).m)/\z.cell? ⟨b,o+k*7+6,none⟩=some (.slice (a k).sq (a k).sn (a k).sc)/\z.cell? ⟨g,d+k*7,none⟩=some (.int .i64 (es k).k)/\z.cell? ⟨g,d+k*7+1,none⟩=some (.int .i64 (es k).f)/\z.cell? ⟨g,d+k*7+2,none⟩=some (.bool (es k).neg)/\z.cell? ⟨g,d+k*7+3,none⟩=some (.slice (es k).aq (es k).an (es k).ac)/\z.cell? ⟨g,d+k*7+4,none⟩=some (.slice (es k).cq (es k).cn (es k).cc)/\z.cell? ⟨g,d+k*7+5,none⟩=some (.string (es k).m)/\z.cell? ⟨g,d+k*7+6,none⟩=some (.slice (es k).sq (es k).sn (es k).sc)) (first | exact⟨B,C,D,E,F,G,H,I,J,K,L,M,N,O,Q,R⟩ | exact V)
    (first
      | (go_at_call 75;refine(T _ ?_).mono ?_;exact t.drew;rintro e w5 ⟨rfl,l⟩
         have ak:wr.1.size<=wr.drew.1.size:=kF _;have s:b<wr.drew.1.size:=(by omega);have r:g<wr.drew.1.size:=(by omega);have ae:w.1.size<wr.drew.1.size:=(by omega);have af:w.1.size+1<wr.drew.1.size:=by omega
         have V:w5.cell? ⟨w.1.size,6,none⟩=some (.slice (some ⟨b,o,none⟩) n p1)/\w5.cell? ⟨w.1.size+1,6,none⟩=some (.slice (some ⟨g,d,none⟩) n p2)/\w5.cell? ⟨b,o+k*7,none⟩=some (.int .i64 (a k).k)/\w5.cell? ⟨b,o+k*7+1,none⟩=some (.int .i64 (a k).f)/\w5.cell? ⟨b,o+k*7+2,none⟩=some (.bool (a k).neg)/\w5.cell? ⟨b,o+k*7+3,none⟩=some (.slice (a k).aq (a k).an (a k).ac)/\w5.cell? ⟨b,o+k*7+4,none⟩=some (.slice (a k).cq (a k).cn (a k).cc)/\w5.cell? ⟨b,o+k*7+5,none⟩=some (.string (a k).m)/\w5.cell? ⟨b,o+k*7+6,none⟩=some (.slice (a k).sq (a k).sn (a k).sc)/\w5.cell? ⟨g,d+k*7,none⟩=some (.int .i64 (es k).k)/\w5.cell? ⟨g,d+k*7+1,none⟩=some (.int .i64 (es k).f)/\w5.cell? ⟨g,d+k*7+2,none⟩=some (.bool (es k).neg)/\w5.cell? ⟨g,d+k*7+3,none⟩=some (.slice (es k).aq (es k).an (es k).ac)/\w5.cell? ⟨g,d+k*7+4,none⟩=some (.slice (es k).cq (es k).cn (es k).cc)/\w5.cell? ⟨g,d+k*7+5,none⟩=some (.string (es k).m)/\w5.cell? ⟨g,d+k*7+6,none⟩=some (.slice (es k).sq (es k).sn (es k).sc):=⟨fg l ae B,fg l af C,fg l s D,fg l s E,fg l s F,fg l s G,fg l s H,fg l s I,fg l s J,fg l r K,fg l r L,fg l r M,fg l r N,fg l r O,fg l r Q,fg l r R⟩))
   have ab:Below w.1.size w w5:=cV t.drew l;have dM:Below q.1.size q w5:=cV u.drew l;clear V D E F G H I J K L M N O Q R B C l
   cases Y:P k with
   | false=>go_wp2_with fail;go_ret;have aJ:(List.range n).all P=false:=(by rw[lV];exact⟨k,kP.2 y,by simp[Y]⟩);rw[aJ];exact⟨rfl,ab⟩
   | true=>
    go_wp2_with fail;go_roundw
    case rel=>
     refine⟨k+1,by omega,by go_num,λj A=>?_,dM⟩
     rcases kS j k with h | h
     .exact S.out j h
     have:j=k:=(by omega);subst this;exact Y
    case measure=>simp[intOf];omega
  have ai:k=n:=(by omega);subst ai;go_wp2_with fail;go_ret;refine⟨?_,t⟩;have:(List.range k).all P=true:=(by rw[lj];intro j A;exact S.out j<|kP.1 A);rw[this];rfl
theorem TN (k1 f1 k2 f2:Int) (g1 g2:Bool) (aq1 cq1 aq2 cq2 q1 q2:Option Addr) (an1 ac1 cn1 cc1 an2 ac2 cn2 cc2:Nat) (m1 m2:ByteArray) (p1 p2:Nat) (w:World)
  (g:∀a,Below w.1.size w a->bF a 108 #[.agg<|qA g1 aq1 an1 ac1 cq1 cn1 cc1,.agg<|qA g2 aq2 an2 ac2 cq2 cn2 cc2] (.bool true))
  (j:k1=k2) (i:f1=f2) (k:m1.toList=m2.toList):
  bF w 75 #[.agg #[.int .i64 k1,.int .i64 f1,.bool g1,.slice aq1 an1 ac1,.slice cq1 cn1 cc1,.string m1,.slice q1 0 p1],.agg #[.int .i64 k2,.int .i64 f2,.bool g2,.slice aq2 an2 ac2,.slice cq2 cn2 cc2,.string m2,.slice q2 0 p2]] (.bool true):=by
 subst j i;have h2:∀o b,Below w.1.size w ((w.alloc o).alloc b):=λo b=>dF w o b;go_enter func75,ntmps75
 go_wp2_with (go_at_call 108;refine(g _ ?_).mono ?_;exact h2 _ _;rintro e a ⟨rfl,d⟩
              have l:a.cell? ⟨w.1.size,6,none⟩=some (.slice q1 0 p1):=fg d (by simp;omega)<|by simp
              have h:=(h2 _ _).trans<|d.mono (h2 _ _).size)
 refine my ?_;go_wp2_with fail;go_ret;exact⟨rfl,h⟩
theorem TO (k1 f1 k2 f2:Int) (g1 g2 R:Bool) (aq1 cq1 aq2 cq2 q1 q2:Option Addr) (an1 ac1 cn1 cc1 an2 ac2 cn2 cc2:Nat) (m1 m2:ByteArray) (n1 n2 p1 p2:Nat) (w:World) (_b1:n1<=1099511627776) (n:n2<=1099511627776)
  (g:∀b,Below w.1.size w b->bF b 108 #[.agg<|qA g1 aq1 an1 ac1 cq1 cn1 cc1,.agg<|qA g2 aq2 an2 ac2 cq2 cn2 cc2] (.bool R))
  (h:¬(k1=k2/\f1=f2/\m1.toList=m2.toList/\n1=n2/\R=true)):
  bF w 75 #[.agg<|mA k1 f1 g1 aq1 an1 ac1 cq1 cn1 cc1 m1 q1 n1 p1,.agg<|mA k2 f2 g2 aq2 an2 ac2 cq2 cn2 cc2 m2 q2 n2 p2] (.bool false):=by
 have h2:∀o a,Below w.1.size w ((w.alloc o).alloc a):=λo a=>dF w o a;by_cases j:k1=k2
 .subst j;by_cases i:f1=f2
  .subst i;by_cases k:m1.toList=m2.toList
   .by_cases hn:n1=n2
    .subst hn
     have l:R=false:=by
      cases R
      .rfl
      exact absurd ⟨rfl,rfl,k,rfl,rfl⟩ h
     subst l;clear h;go_enter func75,ntmps75;go_wp2_with (go_at_call 108;refine(g _ ?_).mono ?_;exact h2 _ _;rintro e b ⟨rfl,d⟩);go_ret;exact⟨rfl,(h2 _ _).trans<|d.mono (h2 _ _).size⟩
    clear h;have q:¬(n1:Int)=(n2:Int):=(by omega);go_enter func75,ntmps75;go_wp2_with fail;go_ret;exact⟨rfl,h2 _ _⟩
   clear h;go_enter func75,ntmps75;go_wp2_with fail;go_ret;exact⟨rfl,h2 _ _⟩
  clear h;go_enter func75,ntmps75;go_wp2_with fail;go_ret;exact⟨rfl,h2 _ _⟩
 clear h;go_enter func75,ntmps75;go_wp2_with fail;go_ret;exact⟨rfl,h2 _ _⟩
theorem NT:∀(x y:Ex) (d e:Nd) (w:World),ExOk w x d->ExOk w y e->
  bF w 75 #[d.val,e.val] (.bool<|x.sm y):=by
 intro x
 induction x with
 | non=>exact λy d e w g=>g.elim
 | mk k f ng nu de m n ar ih=>
  intro y d e w g l
  cases y with
  | non=>exact l.elim
  | mk k' f' ng' nu' de' m' n' ar'=>
  unfold ExOk at g l;obtain⟨⟨rfl,rfl,rfl,rfl,rfl⟩,E,F,G,H,u,I⟩:=g;obtain⟨⟨rfl,rfl,rfl,rfl,rfl⟩,J,K,L,M,N,O⟩:=l;unfold Ex.sm
  have a:∀q,Below w.1.size w q->bF q 108 #[.agg<|qA d.neg d.aq d.an d.ac d.cq d.cn d.cc,.agg<|qA e.neg e.aq e.an e.ac e.cq e.cn e.cc] (.bool<|qz d.neg (val nu) (val de) e.neg (val nu')<|val de'):=
   λq h1=>A7 (E.below h1) (F.below h1) (J.below h1) (K.below h1) G H L M
  by_cases ht:d.k=e.k/\d.f=e.f/\d.m.toList=e.m.toList/\d.sn=e.sn/\qz d.neg (val nu) (val de) e.neg (val nu') (val de')=true
  .obtain⟨t1,t2,t3,t4,t5⟩:=ht;rw[t5] at a;have j:(decide (d.k=e.k)&&decide (d.f=e.f)&&decide (d.m.toList=e.m.toList)&&qz d.neg (val nu) (val de) e.neg (val nu') (val de')&&(decide (d.sn=e.sn)&&(List.range d.sn).all λi=>(ar i).sm<|ar' i))=(List.range d.sn).all λi=>(ar i).sm (ar' i):=(by simp[t1,t2,t3,t4,t5]);rw[j];by_cases h0:d.sn=0
   .have h0':e.sn=0:=(by omega);unfold Nd.val;rw[h0,h0'];exact TN _ _ _ _ _ _ _ _ _ _ _ _ _ _ _ _ _ _ _ _ _ _ _ _ w a t1 t2 t3
   rcases I with h | ⟨b,o,hq,B,r,s⟩
   .exact absurd h h0
   rcases O with h | ⟨A,o',C,z,es,t⟩
   .omega
   unfold Nd.val;rw[hq,C,<-t4]
   exact TM _ _ _ _ _ _ _ _ _ _ _ _ _ _ _ _ _ _ _ _ d.sn _ _ b o A o' r es (λi=>(ar i).sm<|ar' i) w u (λi hi=>(s i hi).1) (λi hi=>(t i<|by omega).1) B z a
    (λi hi D h2=>ih i (ar' i) (r i) (es i) D ((s i hi).2.below h2)<|(t i<|by omega).2.below h2) t1 t2 t3
  have j:(decide (d.k=e.k)&&decide (d.f=e.f)&&decide (d.m.toList=e.m.toList)&&qz d.neg (val nu) (val de) e.neg (val nu') (val de')&&(decide (d.sn=e.sn)&&(List.range d.sn).all λi=>(ar i).sm<|ar' i))=false:=(by rw[rq];intro hh;simp only[lL,mB] at hh;exact ht ⟨hh.1.1.1.1,hh.1.1.1.2,hh.1.1.2,hh.2.1,hh.1.2⟩);rw[j];unfold Nd.val;exact TO _ _ _ _ _ _ _ _ _ _ _ _ _ _ _ _ _ _ _ _ _ _ _ _ _ _ _ w u N a ht
theorem TP (b o cap r l C n:Nat) (xs ys:Nat->Nd) (P:Nat->Bool) (w:World) (M:n<=1099511627776)
  (G:∀i,i<n->NdAt w b (o+i*7) (xs i)) (H:∀i,i<n->NdAt w r (l+i*7) (ys i)) (E:b<w.1.size) (F:r<w.1.size)
  (D:∀i,i<n->∀A,Below w.1.size w A->bF A 95 #[(xs i).val,(ys i).val] (.bool<|P i)):
  bF w 69 #[.slice (some ⟨b,o,none⟩) n cap,.slice (some ⟨r,l,none⟩) n C,.func (.func 95) #[] #[]] (.bool<|(List.range n).all P):=by
 go_enter func69,ntmps69;go_wp2
 go_loopw [17] (λi wr=>∃k:Nat,k<=n/\i=.int .i64 k/\(∀j,j<k->P j=true)/\Below w.1.size w wr) (λi _=>n - (intOf i).toNat)
 case atStart=>exact⟨0,kL _,rfl,λj t=>by omega,kE _ _⟩
 case round=>
  obtain⟨k,L,rfl,y,g⟩:=hrel;have u:Hid (∀j,j<k->P j=true):=y;clear y;by_cases s:k<n
  .have am:(k:Int)<(n:Int):=(by omega);obtain⟨N,O,Q,R,S,T,U⟩:=(G k s).below g E;have d:∀a,NdAt (wr.alloc a) r (l+k*7) (ys k):=λa=>(H k s).below (g.alloc g.size a) F;have V:=λa=>(d a).h0;have W:=λa=>(d a).h1;have X:=λa=>(d a).h2;have Y:=λa=>(d a).h3;have Z:=λa=>(d a).h4;have y5:=λa=>(d a).h5;have y6:=λa=>(d a).h6;clear d;have x:=D k s;simp only[Nd.val] at x;have K:=g.size;have q:∀o l,Below w.1.size w ((wr.alloc o).alloc l):=λo l=>(g.alloc K _).alloc (by simp;omega) _;go_wp2_with (go_at_call 95;refine(x _ ?_).mono ?_;exact q _ _;rintro e w5 ⟨rfl,z⟩)
   .go_ret;have J:P k=false:=(by cases h:P k<;>simp_all);have B:(List.range n).all P=false:=(by rw[lV];exact⟨k,kP.2 s,by simp[J]⟩);rw[B];exact⟨rfl,(q _ _).trans<|z.mono (q _ _).size⟩
   go_roundw
   case rel=>
    refine⟨k+1,by omega,by go_num,λj t=>?_,(q _ _).trans<|z.mono (q _ _).size⟩
    rcases kS j k with h | h
    .exact u.out j h
    have:j=k:=(by omega);subst this;cases h:P j<;>simp_all
   case measure=>simp[intOf];omega
  have I:k=n:=(by omega);subst I;go_wp2;go_ret;refine⟨?_,g⟩;have:(List.range k).all P=true:=(by rw[lj];intro j t;exact u.out j<|kP.1 t);rw[this];rfl
def Good (x:Ex):Prop:=∃d n a,x.cnt d n=some a
theorem NU {P:Nat->Nat->Option Nat}:∀{c n a:Nat},dZ P c n=some a->∀i,i<c->∃e d,P i e=some d
 | 0,n,a,h,i,hi=>by omega
 | c+1,n,a,h,i,hi=>by
  unfold dZ at h
  cases hq:dZ P c n with
  | none=>rw[hq] at h;cases h
  | some x=>
   rw[hq] at h
   rcases kS i c with b | b
   .exact NU hq i b
   obtain rfl:i=c:=(by omega);exact⟨_,_,h⟩
theorem Good.mk {k:Int} {nu de:List Int} {c:Nat} {b:Nat->Ex} (h:Good (.mk k f ng nu de m c b)):bX k f ng (val nu) (val de) m c=true/\∀i,i<c->Good (b i):=by
 obtain⟨d,n,a,h⟩:=h;unfold Ex.cnt at h;split at h
 .rename_i hc;refine⟨hc.2.2,λi hi=>?_⟩;obtain⟨j,e,g⟩:=NU h i hi;exact⟨d+1,j,e,g⟩
 cases h
theorem Hx {X Y:Int} {n:Nat} (h:bX 1 f ng X Y m n=true):n=0/\large X Y=false:=by unfold bX at h;simp only[lL,mB,if_true,pN] at h;have:=h.1.1;rw[show eX 1=0 from by decide] at this;exact⟨by omega,h.2.1.1⟩
theorem Hy {k:Int} {X Y:Int} {n:Nat} (h:bX k f ng X Y m n=true) (a:k≠1):X=0/\eX k=n:=by unfold bX at h;rw[kZ a] at h;simp only[lL,mB] at h;exact⟨h.2.1,h.1.1⟩
theorem A8 (g1 g2:Bool) (d1 d2:Int):qz g1 0 d1 g2 0 d2=true:=by
 have h:∀(g:Bool) (d:Int),cI g 0 d=false/\db 0 d=0/\dg 0 d=1:=λg d=>by simp[cI,db,dg]
 unfold qz;rw[(h g1 _).1,(h g1 _).2.1,(h g1 _).2.2,(h g2 _).1,(h g2 _).2.1,(h g2 _).2.2];decide
theorem TQ {k1 f1 k2 f2 R:Int} {E:Bool} {aq1 cq1 aq2 cq2:Option Addr} {an1 ac1 cn1 cc1 an2 ac2 cn2 cc2 n1 n2 p1 p2:Nat} {m1 m2:ByteArray}
  (b:k1=1->k2=1->CA w 136 #[.agg<|qA g1 aq1 an1 ac1 cq1 cn1 cc1,.agg<|qA g2 aq2 an2 ac2 cq2 cn2 cc2] (.tuple #[.int .i64 R,.int .i64 0]))
  (d:k1≠1->k1=k2->CA w 69 #[.slice q1 n1 p1,.slice q2 n2 p2,.func (.func 95) #[] #[]] (.bool E)):
  bF w 95 #[.agg<|mA k1 f1 g1 aq1 an1 ac1 cq1 cn1 cc1 m1 q1 n1 p1,.agg<|mA k2 f2 g2 aq2 an2 ac2 cq2 cn2 cc2 m2 q2 n2 p2] (.bool<|decide (k1=k2)&&decide (f1=f2)&&decide (m1.toList=m2.toList)&&(if k1=1 then decide (R=0) else E)):=by
 have a:Hid (Below w.1.size w<|(w.alloc<|.cells (mA k1 f1 g1 aq1 an1 ac1 cq1 cn1 cc1 m1 q1 n1 p1) 33).alloc<|.cells (mA k2 f2 g2 aq2 an2 ac2 cq2 cn2 cc2 m2 q2 n2 p2) 33):=dF w _ _
 obtain⟨Z,e⟩:∃Z,Hid ((decide (k1=k2)&&decide (f1=f2)&&decide (m1.toList=m2.toList)&&(if k1=1 then decide (R=0) else E))=Z):=⟨_,rfl⟩
 rw[e.out];by_cases o:k1=k2
 .subst o;by_cases n:f1=f2
  .subst n;by_cases g:m1.toList=m2.toList
   .have i:Hid (m1.toList=m2.toList):=g;have t:(m1.toList==m2.toList)=true:=(by simpa using g);clear g;by_cases h1:k1=1
    .subst h1;have k:=b rfl rfl _ a.out;have l:(R==0)=decide (R=0):=(by by_cases h:R=0<;>simp[h]);have l:Hid ((R==0)=decide (R=0)):=l;clear b d;go_enter func95,ntmps95;go_wp2_with (go_at_call 136;with_reducible refine jR k λu j=>?_);go_ret;exact⟨by rw[<-e.out];simp[i.out],cV a.out j⟩
    have x:(k1==1)=false:=(by simp[h1]);have k:=d h1 rfl _ a.out;have q:Hid (¬k1=1):=h1;clear b d h1;go_enter func95,ntmps95;go_wp2_with (go_at_call 69;with_reducible refine jR k λu j=>?_);go_ret;exact⟨by rw[<-e.out,lh i.out,kZ q.out];simp,cV a.out j⟩
   have i:Hid (¬m1.toList=m2.toList):=g;have t:(m1.toList==m2.toList)=false:=(by simpa using g);clear b d g;go_enter func95,ntmps95;go_wp2_with fail;go_ret;exact⟨by rw[<-e.out,kQ i.out];simp,a.out⟩
  have r:Hid (¬f1=f2):=n;clear b d;go_enter func95,ntmps95;go_wp2_with fail;go_ret;exact⟨by rw[<-e.out,kQ r.out];simp,a.out⟩
 have s:Hid (¬k1=k2):=o;clear b d;go_enter func95,ntmps95;go_wp2_with fail;go_ret;exact⟨by rw[<-e.out,kQ s.out];simp,a.out⟩
theorem TR:∀(x y:Ex) (d e:Nd) (w:World),ExOk w x d->ExOk w y e->Good x->Good y->Tb w->
  bF w 95 #[d.val,e.val] (.bool<|x.sm y):=by
 intro x
 induction x with
 | non=>exact λy d e w q=>q.elim
 | mk k f ng nu de m n ar ih=>
  intro y d e w q u N P B
  cases y with
  | non=>exact u.elim
  | mk k' f' ng' nu' de' m' n' ar'=>
  obtain⟨g,O⟩:=N.mk;obtain⟨j,Q⟩:=P.mk;unfold ExOk at q u;obtain⟨⟨rfl,rfl,rfl,rfl,rfl⟩,F,G,V,W,X,Y⟩:=q;obtain⟨⟨rfl,rfl,rfl,rfl,rfl⟩,H,I,Z,y5,y6,y7⟩:=u;unfold Ex.sm
  have J:=TQ (w:=w) (k1:=d.k) (f1:=d.f) (k2:=e.k) (f2:=e.f) (g1:=d.neg) (g2:=e.neg) (aq1:=d.aq) (cq1:=d.cq) (aq2:=e.aq) (cq2:=e.cq) (q1:=d.sq) (q2:=e.sq) (an1:=d.an) (ac1:=d.ac) (cn1:=d.cn) (cc1:=d.cc) (an2:=e.an) (ac2:=e.ac) (cn2:=e.cn) (cc2:=e.cc) (n1:=d.sn) (n2:=e.sn) (p1:=d.sc) (p2:=e.sc) (m1:=d.m) (m2:=e.m)
   (R:=nv (cI d.neg (val nu)<|bB<|val de) (db (val nu)<|bB<|val de) (dg (val nu)<|bB<|val de) (cI e.neg (val nu')<|bB<|val de') (db (val nu')<|bB<|val de')<|dg (val nu')<|bB<|val de') (E:=(List.range d.sn).all λi=>(ar i).sm<|ar' i)
   (λh1 h2 z a=>by
     rw[h1] at g;rw[h2] at j
     exact TL (F.below a) (G.below a) (H.below a) (I.below a) V W Z y5 (B.below a) (Hx g).2 (Hx j).2)
   (λh1 h2 z a=>by
     have e1:=(Hy g h1).2;have e2:=(Hy j<|by rw[<-h2];exact h1).2;rw[h2] at e1;have s:d.sn=e.sn:=(by omega);by_cases h0:d.sn=0
     .rw[h0,show e.sn=0 by omega];refine(L7 d.sq e.sq d.sc e.sc _ z).mono ?_;rintro r w' ⟨rfl,rfl⟩;exact⟨rfl,kE _ _⟩
     rcases Y with h | ⟨b,o,hq,S,A,C⟩
     .exact absurd h h0
     rcases y7 with h | ⟨L,o',T,K,es,D⟩
     .omega
     rw[hq,T,<-s];have t:=a.size
     exact TP b o d.sc L o' e.sc d.sn A es (λi=>(ar i).sm<|ar' i) z X (λi hi=>(C i hi).1.below a S) (λi hi=>(D i<|by omega).1.below a K) (by omega) (by omega)
      (λi hi U h2=>ih i (ar' i) (A i) (es i) U ((C i hi).2.below<|a.trans<|h2.mono t) ((D i<|by omega).2.below<|a.trans<|h2.mono t) (O i hi) (Q i<|by omega)<|B.below<|a.trans<|h2.mono t))
  have M:(decide (d.k=e.k)&&decide (d.f=e.f)&&decide (d.m.toList=e.m.toList)&&qz d.neg (val nu) (val de) e.neg (val nu') (val de')&&(decide (d.sn=e.sn)&&(List.range d.sn).all λi=>(ar i).sm<|ar' i))=
    (decide (d.k=e.k)&&decide (d.f=e.f)&&decide (d.m.toList=e.m.toList)&&(if d.k=1 then decide (nv (cI d.neg (val nu)<|bB<|val de) (db (val nu)<|bB<|val de) (dg (val nu)<|bB<|val de) (cI e.neg (val nu')<|bB<|val de') (db (val nu')<|bB<|val de') (dg (val nu')<|bB<|val de')=0) else(List.range d.sn).all λi=>(ar i).sm<|ar' i)):=by
   by_cases l:d.k=e.k
   .by_cases h1:d.k=1
    .have h2:e.k=1:=(by rw[<-l];exact h1);rw[h1] at g;rw[h2] at j;have e1:=(Hx g).1;have e2:=(Hx j).1;rw[kU h1,Hr (ep F.1) (ep G.1) (ep H.1)<|ep I.1,e1,e2];simp[qz]
    have e1:=Hy g h1;have e2:=Hy j (by rw[<-l];exact h1);have s:d.sn=e.sn:=(by have:=e1.2;have:=e2.2;rw[l] at *;omega);rw[kZ h1,e1.1,e2.1,A8,lh s];simp
   simp[l]
  rw[M];exact J
theorem NV {x:Ex} (h:uz x=true):Good x:=by unfold uz at h;obtain⟨a,b⟩:=ql.1 h;exact⟨1,0,a,b⟩
theorem TS {x y:Ex} {d e:Nd} (k:ExOk w x d) (l:ExOk w y e) (h:Tb w) (o:uz x=true) (vy:uz y=true):
  bF w 64 #[d.val,e.val] (.tuple #[.bool<|x.sm y,.int .i64 0]):=by
 have j:Hid (Below w.1.size w<|(w.alloc<|.cells (nA d) 33).alloc<|.cells (nA e) 33):=dF w _ _;have hs:=j.out.size;have k1:=λz (a:Below w.1.size w z)=>FQ (k.below a)<|h.below a;have k2:=λz (a:Below w.1.size w z)=>FQ (l.below a)<|h.below a;have i:=λz (a:Below w.1.size w z)=>TR x y d e z (k.below a) (l.below a) (NV o) (NV vy)<|h.below a;rw[show (x.cnt 1 0).isSome=true from o] at k1;rw[show (y.cnt 1 0).isSome=true from vy] at k2;simp only[Nd.val] at k1 k2 i ⊢;have k2:Hid (CA w 62 #[.agg<|nA e]<|.bool true):=k2;have i:Hid (CA w 95 #[.agg<|nA d,.agg<|nA e]<|.bool<|x.sm y):=i;have h1:=k1 _ j.out;have n:w.1.size+1<((w.alloc<|.cells (nA d) 33).alloc<|.cells (nA e) 33).1.size:=by simp
 have O:((w.alloc<|.cells (nA d) 33).alloc<|.cells (nA e) 33).cell? ⟨w.1.size,0,none⟩=some (.int .i64 d.k):=by simp
 have P:((w.alloc<|.cells (nA d) 33).alloc<|.cells (nA e) 33).cell? ⟨w.1.size,1,none⟩=some (.int .i64 d.f):=by simp
 have Q:((w.alloc<|.cells (nA d) 33).alloc<|.cells (nA e) 33).cell? ⟨w.1.size,2,none⟩=some (.bool d.neg):=by simp
 have R:((w.alloc<|.cells (nA d) 33).alloc<|.cells (nA e) 33).cell? ⟨w.1.size,3,none⟩=some (.slice d.aq d.an d.ac):=by simp
 have S:((w.alloc<|.cells (nA d) 33).alloc<|.cells (nA e) 33).cell? ⟨w.1.size,4,none⟩=some (.slice d.cq d.cn d.cc):=by simp
 have T:((w.alloc<|.cells (nA d) 33).alloc<|.cells (nA e) 33).cell? ⟨w.1.size,5,none⟩=some (.string d.m):=by simp
 have U:((w.alloc<|.cells (nA d) 33).alloc<|.cells (nA e) 33).cell? ⟨w.1.size,6,none⟩=some (.slice d.sq d.sn d.sc):=by simp
 have V:((w.alloc<|.cells (nA d) 33).alloc<|.cells (nA e) 33).cell? ⟨w.1.size+1,0,none⟩=some (.int .i64 e.k):=by simp
 have W:((w.alloc<|.cells (nA d) 33).alloc<|.cells (nA e) 33).cell? ⟨w.1.size+1,1,none⟩=some (.int .i64 e.f):=by simp
 have X:((w.alloc<|.cells (nA d) 33).alloc<|.cells (nA e) 33).cell? ⟨w.1.size+1,2,none⟩=some (.bool e.neg):=by simp
 have Y:((w.alloc<|.cells (nA d) 33).alloc<|.cells (nA e) 33).cell? ⟨w.1.size+1,3,none⟩=some (.slice e.aq e.an e.ac):=by simp
 have Z:((w.alloc<|.cells (nA d) 33).alloc<|.cells (nA e) 33).cell? ⟨w.1.size+1,4,none⟩=some (.slice e.cq e.cn e.cc):=by simp
 have aa:((w.alloc<|.cells (nA d) 33).alloc<|.cells (nA e) 33).cell? ⟨w.1.size+1,5,none⟩=some (.string e.m):=by simp
 have ab:((w.alloc<|.cells (nA d) 33).alloc<|.cells (nA e) 33).cell? ⟨w.1.size+1,6,none⟩=some (.slice e.sq e.sn e.sc):=by simp
 clear k1 k l o vy h;go_enter func64,ntmps64
 go_wp2_with (first
  | (go_at_call 62;with_reducible refine h1.mono ?_;clear h1;rintro r q ⟨rfl,b⟩
     have s:Hid (Below w.1.size w q):=cV j.out b;have M:w.1.size+1<q.1.size:=kw n b.size;have h2:=k2.out q s.out;obtain⟨a0,u,A,B,C,D,E⟩:=CZ b (by exact nH (rI _) n) ⟨O,P,Q,R,S,T,U⟩;obtain⟨F,G,H,I,J,K,L⟩:=CZ b n ⟨V,W,X,Y,Z,aa,ab⟩
     clear b O V P W Q X R Y S Z T aa U ab)
  | (go_at_call 62;with_reducible refine h2.mono ?_;clear h2;rintro r N ⟨rfl,g⟩
     have t:Hid (Below w.1.size w N):=cV s.out g;have h3:=i.out N t.out;obtain⟨c0,c1,c2,c3,c4,c5,c6⟩:=CZ g (by exact nH (rI _) M) ⟨a0,u,A,B,C,D,E⟩;obtain⟨ac,cc1,cc2,ad,ae,af,ag⟩:=CZ g M ⟨F,G,H,I,J,K,L⟩
     clear g a0 F u G A H B I C J D K E L)
  | (go_at_call 95;with_reducible refine jR h3 λw5 jz=>?_))
 go_ret2;exact⟨rfl,cV t.out jz⟩
