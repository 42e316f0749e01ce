import Derived.Test.YthcfmhgihcjloaaGreatDoorPk22
namespace Go.Proofs.YthcfmhgihcjloaaGreatDoor
open Go Go.RowKit Tryz
def IvC.lg (c:IvC):Bool:=large c.n1 c.d1||large c.n2 c.d2
def IvC.vd (c:IvC):Bool:=!c.li&&(!c.hh&&decide (0<nv (cI c.g1 c.n1<|bB c.d1) (db c.n1<|bB c.d1) (dg c.n1<|bB c.d1) (cI c.g2 c.n2<|bB c.d2) (db c.n2<|bB c.d2) (dg c.n2<|bB c.d2)))
def IvC.ins (s t:IvC):Bool:=s.vd||((t.li||(!s.li&&decide (0<=nv (cI s.g1 s.n1<|bB s.d1) (db s.n1<|bB s.d1) (dg s.n1<|bB s.d1) (cI t.g1 t.n1<|bB t.d1) (db t.n1<|bB t.d1) (dg t.n1<|bB t.d1))))&&
 ((t.hh||(!s.hh&&decide (nv (cI s.g2 s.n2<|bB s.d2) (db s.n2<|bB s.d2) (dg s.n2<|bB s.d2) (cI t.g2 t.n2<|bB t.d2) (db t.n2<|bB t.d2) (dg t.n2<|bB t.d2)<=0)))&&!t.vd))
theorem S5 {w:World} {g1s g2s lis hhs:Bool} {q n r o:Option Addr} {j f l h k g m i:Nat} {d a e b:List Int} (y:Sl w (.slice q j f) d) (z:Sl w (.slice n l h) a) (A:Sl w (.slice r k g) e) (C:Sl w (.slice o m i) b) (s:d.length<=274877906000) (t:a.length<=274877906000) (u:e.length<=274877906000) (x:b.length<=274877906000) (D:Tb w):
  bF w 89 #[.agg<|iA g1s q j f n l h g2s r k g o m i lis hhs] (.tuple #[.bool<|!(IvC.mk g1s (val d) (val a) g2s (val e) (val b) lis hhs).lg&&(IvC.mk g1s (val d) (val a) g2s (val e) (val b) lis hhs).vd,.int .i64 (if (IvC.mk g1s (val d) (val a) g2s (val e) (val b) lis hhs).lg then 1 else 0)]):=
 S0 y z A C s t u x D
theorem yM {w:World} {g1s g2s lis hhs:Bool} {am ai ao ak:Option Addr} {aa O ae S ac Q ag U:Nat} {k f m h:List Int} {g1t g2t lit hht:Bool} {an aj ap al:Option Addr} {ab P af T ad R ah V:Nat} {l g n i:List Int} (E:Sl w (.slice am aa O) k) (F:Sl w (.slice ai ae S) f) (G:Sl w (.slice ao ac Q) m) (I:Sl w (.slice ak ag U) h) (x:k.length<=274877906000) (A:f.length<=274877906000) (C:m.length<=274877906000) (D:h.length<=274877906000) (W:Sl w (.slice an ab P) l) (X:Sl w (.slice aj af T) g) (Y:Sl w (.slice ap ad R) n) (Z:Sl w (.slice al ah V) i) (K:l.length<=274877906000) (L:g.length<=274877906000) (M:n.length<=274877906000) (N:i.length<=274877906000) (q:Tb w):
  bF w 65 #[.agg<|iA g1s am aa O ai ae S g2s ao ac Q ak ag U lis hhs,.agg<|iA g1t an ab P aj af T g2t ap ad R al ah V lit hht] (.tuple #[.bool<|!((IvC.mk g1s (val k) (val f) g2s (val m) (val h) lis hhs).lg||(IvC.mk g1t (val l) (val g) g2t (val n) (val i) lit hht).lg)&&(IvC.mk g1s (val k) (val f) g2s (val m) (val h) lis hhs).ins (IvC.mk g1t (val l) (val g) g2t (val n) (val i) lit hht),.int .i64 (if ((IvC.mk g1s (val k) (val f) g2s (val m) (val h) lis hhs).lg||(IvC.mk g1t (val l) (val g) g2t (val n) (val i) lit hht).lg) then 1 else 0)]):=by
 cases J:(IvC.mk g1s (val k) (val f) g2s (val m) (val h) lis hhs).lg with
 | true=>
  refine J9 (b:=false) (y:=1) λz s o r t=>Nw λz1 d=>?_;have j:=cV s d
  exact S2 (bU r d<|by omega) (λu e=>by
   have a:=cV j e
   exact J8 (E.below a) (F.below a) (G.below a) (I.below a) x A C D (q.below a) J)
 | false=>
  cases hB:(IvC.mk g1t (val l) (val g) g2t (val n) (val i) lit hht).lg with
  | true=>
   refine J9 (b:=false) (y:=1) λz s o r t=>Nw λz1 d=>?_;have j:=cV s d
   exact S3 (kw o d.size) (bU r d<|by omega) (bU t d o) (λu e=>by
    have a:=cV j e
    exact Hm (E.below a) (F.below a) (G.below a) (I.below a) x A C D (q.below a) J) (λu e=>by
    have a:=cV j e
    exact J8 (W.below a) (X.below a) (Y.below a) (Z.below a) K L M N (q.below a) hB)
  | false=>
   refine J9 (b:=(IvC.mk g1s (val k) (val f) g2s (val m) (val h) lis hhs).ins<|IvC.mk g1t (val l) (val g) g2t (val n) (val i) lit hht) (y:=0) λz s o r t=>SQ λz1 d=>?_;have j:=cV s d
   exact S1 (kw (by omega) d.size) (kw o d.size) (bU r d<|by omega) (bU t d o) (λu e=>by
    have a:=cV j e
    exact Hm (E.below a) (F.below a) (G.below a) (I.below a) x A C D (q.below a) J) (λu e=>by
    have a:=cV j e
    exact Hm (W.below a) (X.below a) (Y.below a) (Z.below a) K L M N (q.below a) hB)
section
variable {H:Type} {enc:TypeId × Value->H} {w:World} {spare:Nat->Bool} {held:Bool} {B:DataW H->Nat}
theorem Hp (e:Bk B):∀(fuel:Nat) (cs:List Value) (x:DataW H × List MemPlace),B x.1<=1048576->DataW.trod enc prog w 0 spare held fuel 33 cs=some x->
  ∃(X:Ex) (d:Nd),cs=[.int .i64 d.k,.int .i64 d.f,.bool d.neg,.slice d.aq d.an d.ac,.slice d.cq d.cn d.cc,.string d.m,.slice d.sq d.sn d.sc]/\ExOk w X d/\dl X:=by
 intro fuel
 induction fuel using Nat.strongRecOn with
 | _ fuel ih=>
 intro cs x D h;obtain⟨xs,n,hn,rfl,C,E,j⟩:=nG underlying33 h;rw[Ed] at C;have R:xs.length=5:=E;clear E;obtain⟨a0,K,L,M,N,O,P,rfl⟩:=P3 C;obtain⟨y0,y1,I,y3,J,rfl⟩:=P2 R;have h0:DataW.trod enc prog w 0 spare held n 3 [a0]=some y0:=by have:=j 0 _ rfl;simpa [c3] using this
 have h1:DataW.trod enc prog w 0 spare held n 3 [K]=some y1:=by have:=j 1 _ rfl;simpa [c3] using this
 have h2:DataW.trod enc prog w 0 spare held n 30 [L,M,N]=some I:=by have:=j 2 _ rfl;simpa [Ec] using this
 have h3:DataW.trod enc prog w 0 spare held n 9 [O]=some y3:=by have:=j 3 _ rfl;simpa [c9] using this
 have h4:DataW.trod enc prog w 0 spare held n 31 [P]=some J:=by have:=j 4 _ rfl;simpa [QI] using this
 have Q:B I.1<=1048576:=kJ (e.ag _ _<|by simp) D;have r:B J.1<=1048576:=kJ (e.ag _ _<|by simp) D;obtain⟨k,u,_⟩:=pJ underlying3 h0;obtain⟨f,e1,_⟩:=pJ underlying3 h1;obtain⟨g,q,m,c,q',G,t,nu,de,e2,s1,s2,l1,l2⟩:=Fm e Q h2;obtain⟨s,z,_⟩:=pC underlying9 h3;obtain⟨sq,sn,sc,A,_,U,l⟩:=BO underlying31 Ed (by decide) h4;simp only[nJ,qB] at u e1 e2 z A;obtain⟨e2,S,T⟩:=e2;subst u e1 e2 z A S T;have ab:sn<=1048576:=kJ (U B e) r
 rcases l with rfl | ⟨b,o,rfl,W,l⟩
 .exact⟨.mk k f g nu de s 0 λ_=>.non,⟨k,f,g,q,m,c,q',G,t,s,sq,0,sc⟩,rfl,⟨⟨rfl,rfl,rfl,rfl,rfl⟩,s1,s2,l1,l2,by omega,.inl rfl⟩,⟨by omega,λi hi=>by omega⟩⟩
 have Z:∀i,i<sn->∃p:Ex × Nd,(NdAt w b (o+i*7) p.2/\ExOk w p.1 p.2)/\dl p.1:=by intro i hi;obtain⟨ces,y,m1,ac,a,_,ht,V⟩:=l i hi;obtain⟨X,d,rfl,Y,aa⟩:=ih m1 (by omega) ces y (kJ (V B e) r) ht;exact⟨(X,d),⟨⟨a 0 _ rfl,a 1 _ rfl,a 2 _ rfl,a 3 _ rfl,a 4 _ rfl,a 5 _ rfl,a 6 _ rfl⟩,Y⟩,aa⟩
 obtain⟨F,hF⟩:=pick Z;exact⟨.mk k f g nu de s sn λi=>(F i).1,⟨k,f,g,q,m,c,q',G,t,s,some ⟨b,o,none⟩,sn,sc⟩,rfl,⟨⟨rfl,rfl,rfl,rfl,rfl⟩,s1,s2,l1,l2,by omega,.inr ⟨b,o,rfl,W,λi=>(F i).2,λi hi=>(hF i hi).1⟩⟩,⟨ab,λi hi=>(hF i hi).2⟩⟩
theorem S6 (a:Bk B) {fuel:Nat} {cs:List Value} {x:DataW H × List MemPlace} (k:B x.1<=1048576) (h:DataW.trod enc prog w 0 spare held fuel 38 cs=some x):
  ∃q n c ps,cs=[.slice q n c]/\PtsOk w q n ps/\n<=1048576:=by
 obtain⟨q,n,c,rfl,_,I,e⟩:=BO underlying38 QN (by decide) h;have M:n<=1048576:=kJ (I B a) k
 rcases e with rfl | ⟨b,o,rfl,L,e⟩
 .exact⟨q,0,c,default,rfl,⟨by omega,.inl rfl⟩,by omega⟩
 have N:∀i,i<n->∃p:Pt × Va,VaAt w b (o+i*4) p.2/\PtOk w p.1 p.2:=by intro i hi;obtain⟨ces,y,m1,S,d,K,ht,J⟩:=e i hi;have O:=kJ (J B a) k;obtain⟨xs,n1,_,rfl,R,l,j⟩:=nG underlying93 ht;have C:xs.length=2:=l;clear l;obtain⟨a0,t,u,z,rfl⟩:=Gy K;obtain⟨Q,r,rfl⟩:=Gw C;have h0:DataW.trod enc prog w 0 spare held n1 9 [a0]=some Q:=(by have:=j 0 _ rfl;simpa [c9] using this);have h1:DataW.trod enc prog w 0 spare held n1 30 [t,u,z]=some r:=(by have:=j 1 _ rfl;simpa [Ec] using this);have A:B r.1<=1048576:=kJ (a.ag _ _<|by simp) O;obtain⟨s,f,_⟩:=pC underlying9 h0;obtain⟨g,q,m,c,q',P,D,nu,de,e2,s1,s2,l1,l2⟩:=Fm a A h1;simp only[nJ,qB] at f e2;obtain⟨e2,E,G⟩:=e2;subst f e2 E G;exact⟨(⟨s,g,nu,de⟩,⟨s,g,q,m,c,q',P,D⟩),⟨d 0 _ rfl,d 1 _ rfl,d 2 _ rfl,d 3 _ rfl⟩,rfl,rfl,s1,s2,l1,l2⟩
 obtain⟨F,hF⟩:=pick N;exact⟨_,n,c,λi=>(F i).1,rfl,⟨by omega,.inr ⟨b,o,rfl,L,λi=>(F i).2,λi hi=>hF i hi⟩⟩,M⟩
theorem S8 (e:Bk B) {fuel:Nat} {cs:List Value} {x:DataW H × List MemPlace} (l:B x.1<=1048576) (h:DataW.trod enc prog w 0 spare held fuel 39 cs=some x):
  ∃q n c ps,cs=[.slice q n c]/\BdsOk w q n ps/\n<=1048576/\∀i,i<n->dl (ps i).x:=by
 obtain⟨q,n,c,rfl,_,N,f⟩:=BO underlying39 QO (by decide) h;have R:n<=1048576:=kJ (N B e) l
 rcases f with rfl | ⟨b,o,rfl,Q,f⟩
 .exact⟨q,0,c,default,rfl,⟨by omega,.inl rfl⟩,by omega,λi hi=>by omega⟩
 have T:∀i,i<n->∃p:Bd × Bi,(BiAt w b (o+i*8) p.2/\BdOk w p.1 p.2)/\dl p.1.x:=by intro i hi;obtain⟨ces,y,m1,Z,a,P,ht,O⟩:=f i hi;have V:=kJ (O B e) l;obtain⟨xs,n1,_,rfl,Y,m,k⟩:=nG underlying96 ht;have G:xs.length=2:=m;clear m;obtain⟨a0,r,t,u,z,A,C,D,rfl⟩:=Jc P;obtain⟨W,g,rfl⟩:=Gw G;have h0:DataW.trod enc prog w 0 spare held n1 9 [a0]=some W:=(by have:=k 0 _ rfl;simpa [c9] using this);have h1:DataW.trod enc prog w 0 spare held n1 33 [r,t,u,z,A,C,D]=some g:=(by have:=k 1 _ rfl;simpa [Ed] using this);have E:B g.1<=1048576:=kJ (e.ag _ _<|by simp) V;obtain⟨s,j,_⟩:=pC underlying9 h0;obtain⟨X,d,e1,S,U⟩:=Hp e n1 _ g E h1;simp only[nJ,qB] at j e1;obtain⟨e1,e2,I,J,K,L,M⟩:=e1;subst j e1 e2 I J K L M;exact⟨(⟨s,X⟩,⟨s,d.k,d.f,d.neg,d.aq,d.an,d.ac,d.cq,d.cn,d.cc,d.m,d.sq,d.sn,d.sc⟩),⟨⟨a 0 _ rfl,a 1 _ rfl,a 2 _ rfl,a 3 _ rfl,a 4 _ rfl,a 5 _ rfl,a 6 _ rfl,a 7 _ rfl⟩,rfl,S⟩,U⟩
 obtain⟨F,hF⟩:=pick T;exact⟨_,n,c,λi=>(F i).1,rfl,⟨by omega,.inr ⟨b,o,rfl,Q,λi=>(F i).2,λi hi=>(hF i hi).1⟩⟩,R,λi hi=>(hF i hi).2⟩
theorem S9 (e:Bk B):∀(fuel:Nat) (cs:List Value) (x:DataW H × List MemPlace),B x.1<=1048576->DataW.trod enc prog w 0 spare held fuel 42 cs=some x->
  ∃(X:St) (d:Sd),cs=d.cells/\StOk w X d/\dC X:=by
 intro fuel
 induction fuel using Nat.strongRecOn with
 | _ fuel ih=>
 intro cs x f ar;obtain⟨xs,n,hn,rfl,Q,R,a⟩:=nG underlying42 ar;rw[Jp] at Q;have bk:xs.length=13:=R;clear R;obtain⟨a0,aL,rfl,a'⟩:=xA (n:=20) Q;obtain⟨a1,aM,rfl,aA⟩:=xA (n:=19) a';obtain⟨a2,aN,rfl,aB⟩:=xA (n:=18) aA;obtain⟨a3,aO,rfl,aC⟩:=xA (n:=17) aB;obtain⟨a4,aP,rfl,aD⟩:=xA (n:=16) aC;obtain⟨a5,aQ,rfl,aE⟩:=xA (n:=15) aD;obtain⟨a6,aR,rfl,aF⟩:=xA (n:=14) aE;obtain⟨a7,aS,rfl,aG⟩:=xA (n:=13) aF;obtain⟨a8,a9,aa,ab,ad,ae,af,ag,ah,ai,aj,ak,al,rfl⟩:=Fc aG;obtain⟨y0,y1,y2,Z,y4,y5,y6,m,y8,y9,aK,V,W,rfl⟩:=Fc bk;have h0:DataW.trod enc prog w 0 spare held n 3 [a0]=some y0:=by have:=a 0 _ rfl;simpa [c3] using this
 have h1:DataW.trod enc prog w 0 spare held n 9 [a1]=some y1:=by have:=a 1 _ rfl;simpa [c9] using this
 have h2:DataW.trod enc prog w 0 spare held n 9 [a2]=some y2:=by have:=a 2 _ rfl;simpa [c9] using this
 have h3:DataW.trod enc prog w 0 spare held n 30 [a3,a4,a5]=some Z:=by have:=a 3 _ rfl;simpa [Ec] using this
 have h4:DataW.trod enc prog w 0 spare held n 3 [a6]=some y4:=by have:=a 4 _ rfl;simpa [c3] using this
 have h5:DataW.trod enc prog w 0 spare held n 3 [a7]=some y5:=by have:=a 5 _ rfl;simpa [c3] using this
 have h6:DataW.trod enc prog w 0 spare held n 3 [a8]=some y6:=by have:=a 6 _ rfl;simpa [c3] using this
 have h7:DataW.trod enc prog w 0 spare held n 33 [a9,aa,ab,ad,ae,af,ag]=some m:=by have:=a 7 _ rfl;simpa [Ed] using this
 have h8:DataW.trod enc prog w 0 spare held n 38 [ah]=some y8:=by have:=a 8 _ rfl;simpa [QJ] using this
 have h9:DataW.trod enc prog w 0 spare held n 9 [ai]=some y9:=by have:=a 9 _ rfl;simpa [c9] using this
 have au:DataW.trod enc prog w 0 spare held n 3 [aj]=some aK:=by have:=a 10 _ rfl;simpa [c3] using this
 have av:DataW.trod enc prog w 0 spare held n 39 [ak]=some V:=by have:=a 11 _ rfl;simpa [QK] using this
 have aw:DataW.trod enc prog w 0 spare held n 40 [al]=some W:=by have:=a 12 _ rfl;simpa [QM] using this
 have b3:B Z.1<=1048576:=kJ (e.ag _ _<|by simp) f;have b7:B m.1<=1048576:=kJ (e.ag _ _<|by simp) f;have b8:B y8.1<=1048576:=kJ (e.ag _ _<|by simp) f;have am:B V.1<=1048576:=kJ (e.ag _ _<|by simp) f;have q:B W.1<=1048576:=kJ (e.ag _ _<|by simp) f;obtain⟨ru,r,_⟩:=pJ underlying3 h0;obtain⟨nm,e1,_⟩:=pC underlying9 h1;obtain⟨ot,e2,_⟩:=pC underlying9 h2;obtain⟨g,aq,an,ac,cq,cn,cc,nu,de,h,s1,s2,l1,l2⟩:=Fm e b3 h3;obtain⟨kk,z,_⟩:=pJ underlying3 h4;obtain⟨nn,A,_⟩:=pJ underlying3 h5;obtain⟨pr,C,_⟩:=pJ underlying3 h6;obtain⟨X,d,E,O,P⟩:=Hp e n _ m b7 h7;obtain⟨U,k,T,ps,G,M,N⟩:=S6 e b8 h8;obtain⟨en,I,_⟩:=pC underlying9 h9;obtain⟨ve,s,_⟩:=pJ underlying3 au;obtain⟨bq,bn,bc,bs,t,J,K,L⟩:=S8 e am av;obtain⟨kq,j,S,u,_,ax,l⟩:=BO underlying40 Jp (by decide) aw;simp only[nJ,qB] at r e1 e2 h z A C E G I s t u;obtain⟨h,ao,ap⟩:=h;obtain⟨f1,f2,f3,f4,f5,f6,f7⟩:=E;subst r e1 e2 h ao ap z A C f1 f2 f3 f4 f5 f6 f7 G I s t u;have az:j<=1048576:=kJ (ax B e) q
 rcases l with rfl | ⟨b,o,rfl,aH,l⟩
 .exact⟨.mk ⟨ru,nm,ot,g,kk,nn,pr,en,ve⟩ nu de X k ps bn bs 0 λ_=>.non,⟨⟨ru,nm,ot,g,kk,nn,pr,en,ve⟩,aq,an,ac,cq,cn,cc,d,U,k,T,bq,bn,bc,kq,0,S⟩,rfl,
   ⟨⟨rfl,rfl,rfl,rfl⟩,s1,s2,l1,l2,O,M,J,by omega,.inl rfl⟩,⟨P,N,K,L,by omega,λi hi=>by omega⟩⟩
 have hp:∀i,i<j->∃p:St × Sd,(w.rangeAt b (o+i*21) p.2.cells/\StOk w p.1 p.2)/\dC p.1:=by intro i hi;obtain⟨ces,y,m1,aT,hr,_,ht,ay⟩:=l i hi;obtain⟨Y,D,rfl,aI,aJ⟩:=ih m1 (by omega) ces y (kJ (ay B e) q) ht;exact⟨(Y,D),⟨hr,aI⟩,aJ⟩
 obtain⟨F,hF⟩:=pick hp
 exact⟨.mk ⟨ru,nm,ot,g,kk,nn,pr,en,ve⟩ nu de X k ps bn bs j λi=>(F i).1,⟨⟨ru,nm,ot,g,kk,nn,pr,en,ve⟩,aq,an,ac,cq,cn,cc,d,U,k,T,bq,bn,bc,some ⟨b,o,none⟩,j,S⟩,rfl,
  ⟨⟨rfl,rfl,rfl,rfl⟩,s1,s2,l1,l2,O,M,J,by omega,.inr ⟨b,o,rfl,aH,λi=>(F i).2,λi hi=>(hF i hi).1⟩⟩,⟨P,N,K,L,az,λi hi=>(hF i hi).2⟩⟩
end
structure Si where
 m:ByteArray
 g1:Bool
 nu1:List Int
 de1:List Int
 g2:Bool
 nu2:List Int
 de2:List Int
 li:Bool
 hh:Bool
structure Sv where
 q1:Option Addr
 l1:Nat
 c1:Nat
 p1:Option Addr
 m1:Nat
 e1:Nat
 q2:Option Addr
 l2:Nat
 c2:Nat
 p2:Option Addr
 m2:Nat
 e2:Nat
def Si.iv (s:Si) (d:Sv):List Value:=[.bool s.g1,.slice d.q1 d.l1 d.c1,.slice d.p1 d.m1 d.e1,.bool s.g2,.slice d.q2 d.l2 d.c2,.slice d.p2 d.m2 d.e2,.bool s.li,.bool s.hh]
def Si.cells (s:Si) (d:Sv):List Value:=.string s.m::s.iv d
def SiA (w:World) (A:Nat->Prop) (s:Si) (d:Sv):Prop:=
 SlA w A (.slice d.q1 d.l1 d.c1) s.nu1/\SlA w A (.slice d.p1 d.m1 d.e1) s.de1/\SlA w A (.slice d.q2 d.l2 d.c2) s.nu2/\SlA w A (.slice d.p2 d.m2 d.e2) s.de2/\
 s.nu1.length<=1048576/\s.de1.length<=1048576/\s.nu2.length<=1048576/\s.de2.length<=1048576
theorem SiA.keep {w w':World} {A A':Nat->Prop} (e:Keeps A w w') (a:∀b,A b->A' b) {s:Si} {d:Sv} (h:SiA w A s d):SiA w' A' s d:=
 ⟨h.1.keep e a,h.2.1.keep e a,h.2.2.1.keep e a,h.2.2.2.1.keep e a,h.2.2.2.2⟩
theorem Si.len (s:Si) (d:Sv):(s.cells d).length=9:=rfl
theorem Si.one (s:Si) (d:Sv):∀u∈s.cells d,u.oneCell'=true:=by
 intro u hu;simp only[Si.cells,Si.iv,lO,nw,qy] at hu
 rcases hu with rfl | rfl | rfl | rfl | rfl | rfl | rfl | rfl | rfl<;>rfl
structure Co where
 x:Ex
 st:Bool
def Co.cells (c:Co) (d:Nd):List Value:=d.cells++[.bool c.st]
theorem Co.len (c:Co) (d:Nd):(c.cells d).length=8:=rfl
theorem Co.one (c:Co) (d:Nd):∀u∈c.cells d,u.oneCell'=true:=by
 intro u hu;simp only[Co.cells,Nd.cells,lO,nw,qy,mZ,mL] at hu
 rcases hu with rfl | rfl | rfl | rfl | rfl | rfl | rfl | rfl<;>rfl
structure Cl where
 goal:Ex
 st:Bool
 nb:Nat
 bs:Nat->Si
 nc:Nat
 cs:Nat->Co
structure Cd where
 d:Nd
 bq:Option Addr
 bc:Nat
 cq:Option Addr
 cc:Nat
def Cl.cells (C:Cl) (D:Cd):List Value:=D.d.cells++[.bool C.st,.slice D.bq C.nb D.bc,.slice D.cq C.nc D.cc]
theorem Cl.len (C:Cl) (D:Cd):(C.cells D).length=10:=rfl
theorem Cl.one (C:Cl) (D:Cd):∀u∈C.cells D,u.oneCell'=true:=by
 intro u hu;simp only[Cl.cells,Nd.cells,lO,nw,qy,mZ,mL] at hu
 rcases hu with rfl | rfl | rfl | rfl | rfl | rfl | rfl | rfl | rfl | rfl<;>rfl
def SisA (w:World) (A:Nat->Prop) (q:Option Addr) (n:Nat) (bs:Nat->Si):Prop:=
 n=0\/∃b o,q=some ⟨b,o,none⟩/\A b/\∃ds:Nat->Sv,∀i,i<n->w.rangeAt b (o+i*9) ((bs i).cells<|ds i)/\SiA w A (bs i) (ds i)
def CosA (w:World) (A:Nat->Prop) (q:Option Addr) (n:Nat) (cs:Nat->Co):Prop:=
 n=0\/∃b o,q=some ⟨b,o,none⟩/\A b/\∃ds:Nat->Nd,∀i,i<n->w.rangeAt b (o+i*8) ((cs i).cells<|ds i)/\ExA w A (cs i).x (ds i)
theorem SisA.keep {w w':World} {A A':Nat->Prop} (g:Keeps A w w') (a:∀b,A b->A' b) {q:Option Addr} {n:Nat} {bs:Nat->Si} (h:SisA w A q n bs):SisA w' A' q n bs:=by refine h.imp id ?_;rintro⟨b,o,e,d,j,f⟩;exact⟨b,o,e,a b d,j,λi hi=>⟨g.range d (f i hi).1,(f i hi).2.keep g a⟩⟩
theorem CosA.keep {w w':World} {A A':Nat->Prop} (g:Keeps A w w') (a:∀b,A b->A' b) {q:Option Addr} {n:Nat} {cs:Nat->Co} (h:CosA w A q n cs):CosA w' A' q n cs:=by refine h.imp id ?_;rintro⟨b,o,e,d,j,f⟩;exact⟨b,o,e,a b d,j,λi hi=>⟨g.range d (f i hi).1,(f i hi).2.keep g a⟩⟩
def ClA (w:World) (A:Nat->Prop) (C:Cl) (D:Cd):Prop:=
 ExA w A C.goal D.d/\C.nb<=1048576/\C.nc<=1048576/\SisA w A D.bq C.nb C.bs/\CosA w A D.cq C.nc C.cs
theorem ClA.keep {w w':World} {A A':Nat->Prop} (d:Keeps A w w') (a:∀b,A b->A' b) {C:Cl} {D:Cd} (h:ClA w A C D):ClA w' A' C D:=
 ⟨h.1.keep d a,h.2.1,h.2.2.1,h.2.2.2.1.keep d a,h.2.2.2.2.keep d a⟩
def ClOk (w:World) (C:Cl) (D:Cd):Prop:=ClA w (·<w.1.size) C D
theorem ClOk.below {w w':World} (a:Below w.1.size w w') {C:Cl} {D:Cd} (h:ClOk w C D):ClOk w' C D:=
 ClA.keep (QR a) (λ_ h=>kw h a.size) h
theorem ClA.ok {w:World} {A:Nat->Prop} (a:∀b,A b->b<w.1.size) {C:Cl} {D:Cd} (h:ClA w A C D):ClOk w C D:=h.keep (Keeps.refl _ _) a
def fJ (C:Cl):Prop:=dl C.goal/\∀i,i<C.nc->dl (C.cs i).x
instance:Inhabited Si:=⟨⟨⟨#[]⟩,false,[],[],false,[],[],false,false⟩⟩
instance:Inhabited Sv:=⟨⟨none,0,0,none,0,0,none,0,0,none,0,0⟩⟩
instance:Inhabited Co:=⟨⟨.non,false⟩⟩
theorem S':prog.cellsOf 37=10:=by kernel_rfl
theorem Ta:prog.cellsOf 34=1:=by kernel_rfl
theorem Tc:prog.cellsOf 35=1:=by kernel_rfl
theorem NA:prog.cellsOf 83=8:=by kernel_rfl
theorem Td:prog.cellsOf 85=9:=by kernel_rfl
theorem J':prog.cellsOf 90=8:=by kernel_rfl
section
variable {H:Type} {enc:TypeId × Value->H} {w:World} {spare:Nat->Bool} {held:Bool} {B:DataW H->Nat}
theorem AS (a:Bk B) {fuel:Nat} {cs:List Value} {x:DataW H × List MemPlace} (j:B x.1<=1048576) (h:DataW.trod enc prog w 0 spare held fuel 83 cs=some x):
  ∃(s:Si) (d:Sv),cs=s.iv d/\SiA w (·<w.1.size) s d:=by
 obtain⟨xs,n,K,rfl,i,k,b⟩:=nG underlying83 h;rw[NA] at i;have C:xs.length=4:=k;clear k;obtain⟨a0,o,q,r,t,u,y,z,rfl⟩:=Jc i;obtain⟨l,m,I,J,rfl⟩:=Gy C;have h0:DataW.trod enc prog w 0 spare held n 30 [a0,o,q]=some l:=by have:=b 0 _ rfl;simpa [Ec] using this
 have h1:DataW.trod enc prog w 0 spare held n 30 [r,t,u]=some m:=by have:=b 1 _ rfl;simpa [Ec] using this
 have h2:DataW.trod enc prog w 0 spare held n 4 [y]=some I:=by have:=b 2 _ rfl;simpa [c4] using this
 have h3:DataW.trod enc prog w 0 spare held n 4 [z]=some J:=by have:=b 3 _ rfl;simpa [c4] using this
 have b0:B l.1<=1048576:=kJ (a.ag _ _<|by simp) j;have A:B m.1<=1048576:=kJ (a.ag _ _<|by simp) j;obtain⟨g1,q1,l1,c1,p1,m1,e1,nu1,de1,e,s1,s2,k1,k2⟩:=Fm a b0 h0;obtain⟨g2,q2,l2,c2,p2,m2,e2,nu2,de2,f,F,G,D,E⟩:=Fm a A h1;obtain⟨li,f2,_⟩:=qU underlying4 h2;obtain⟨hh,g,_⟩:=qU underlying4 h3;simp only[nJ,qB] at e f f2 g;obtain⟨rfl,rfl,rfl⟩:=e;obtain⟨rfl,rfl,rfl⟩:=f;subst f2 g;exact⟨⟨⟨#[]⟩,g1,nu1,de1,g2,nu2,de2,li,hh⟩,⟨q1,l1,c1,p1,m1,e1,q2,l2,c2,p2,m2,e2⟩,rfl,s1.toA,s2.toA,F.toA,G.toA,k1,k2,D,E⟩
theorem Te (a:Bk B) {fuel:Nat} {cs:List Value} {x:DataW H × List MemPlace} (k:B x.1<=1048576) (h:DataW.trod enc prog w 0 spare held fuel 34 cs=some x):
  ∃q n c bs,cs=[.slice q n c]/\n<=1048576/\SisA w (·<w.1.size) q n bs:=by
 obtain⟨q,n,c,rfl,_,u,e⟩:=BO underlying34 Td (by decide) h;have D:n<=1048576:=kJ (u B a) k
 rcases e with rfl | ⟨b,o,rfl,C,e⟩
 .exact⟨q,0,c,default,rfl,by omega,.inl rfl⟩
 have E:∀i,i<n->∃p:Si × Sv,w.rangeAt b (o+i*9) (p.1.cells p.2)/\SiA w (·<w.1.size) p.1 p.2:=by
  intro i hi;obtain⟨ces,y,m1,M,G,A,ht,z⟩:=e i hi;have I:=kJ (z B a) k;obtain⟨xs,n1,_,rfl,K,l,j⟩:=nG underlying85 ht;have t:xs.length=2:=l;clear l;obtain⟨a0,r,rfl,L⟩:=xA (n:=8) A;obtain⟨J,f,rfl⟩:=Gw t;have h0:DataW.trod enc prog w 0 spare held n1 9 [a0]=some J:=by have:=j 0 _ rfl;simpa [c9] using this
  have h1:DataW.trod enc prog w 0 spare held n1 83 r=some f:=by
   have h:DataW.trod enc prog w 0 spare held n1 83 (r.take<|prog.cellsOf 83)=some f:=j 1 _ rfl
   rwa [lI<|by rw[NA];omega] at h
  have m:B f.1<=1048576:=kJ (a.ag _ _<|by simp) I;obtain⟨s,g,_⟩:=pC underlying9 h0;obtain⟨v,d,rfl,hv⟩:=AS a m h1;simp only[nJ,qB] at g;subst g;exact⟨(⟨s,v.g1,v.nu1,v.de1,v.g2,v.nu2,v.de2,v.li,v.hh⟩,d),G,hv⟩
 obtain⟨F,hF⟩:=pick E;exact⟨_,n,c,λi=>(F i).1,rfl,D,.inr ⟨b,o,rfl,C,λi=>(F i).2,λi hi=>hF i hi⟩⟩
theorem Tf (a:Bk B) {fuel:Nat} {cs:List Value} {x:DataW H × List MemPlace} (l:B x.1<=1048576) (h:DataW.trod enc prog w 0 spare held fuel 35 cs=some x):
  ∃q n c ks,cs=[.slice q n c]/\n<=1048576/\CosA w (·<w.1.size) q n ks/\∀i,i<n->dl (ks i).x:=by
 obtain⟨q,n,c,rfl,_,E,e⟩:=BO underlying35 J' (by decide) h;have K:n<=1048576:=kJ (E B a) l
 rcases e with rfl | ⟨b,o,rfl,J,e⟩
 .exact⟨q,0,c,default,rfl,by omega,.inl rfl,λi hi=>by omega⟩
 have M:∀i,i<n->∃p:Co × Nd,(w.rangeAt b (o+i*8) (p.1.cells p.2)/\ExA w (·<w.1.size) p.1.x p.2)/\dl p.1.x:=by intro i hi;obtain⟨ces,y,m1,S,N,I,ht,G⟩:=e i hi;have P:=kJ (G B a) l;obtain⟨xs,n1,_,rfl,R,m,k⟩:=nG underlying90 ht;have D:xs.length=2:=m;clear m;obtain⟨a0,r,s,t,u,z,A,C,rfl⟩:=Jc I;obtain⟨f,Q,rfl⟩:=Gw D;have h0:DataW.trod enc prog w 0 spare held n1 33 [a0,r,s,t,u,z,A]=some f:=(by have:=k 0 _ rfl;simpa [Ed] using this);have h1:DataW.trod enc prog w 0 spare held n1 4 [C]=some Q:=(by have:=k 1 _ rfl;simpa [c4] using this);have b0:B f.1<=1048576:=kJ (a.ag _ _<|by simp) P;obtain⟨X,d,e1,L,O⟩:=Hp a n1 _ f b0 h0;obtain⟨g,j,_⟩:=qU underlying4 h1;simp only[nJ,qB] at j e1;obtain⟨rfl,rfl,rfl,rfl,rfl,rfl,rfl⟩:=e1;subst j;exact⟨(⟨X,g⟩,d),⟨N,L.toA⟩,O⟩
 obtain⟨F,hF⟩:=pick M;exact⟨_,n,c,λi=>(F i).1,rfl,K,.inr ⟨b,o,rfl,J,λi=>(F i).2,λi hi=>(hF i hi).1⟩,λi hi=>(hF i hi).2⟩
theorem Tg (a:Bk B) {fuel:Nat} {cs:List Value} {x:DataW H × List MemPlace} (e:B x.1<=1048576) (h:DataW.trod enc prog w 0 spare held fuel 37 cs=some x):
  ∃(C:Cl) (D:Cd),cs=C.cells D/\ClOk w C D/\fJ C:=by
 obtain⟨xs,n,Z,rfl,k,l,b⟩:=nG underlying37 h;rw[S'] at k;have I:xs.length=4:=l;clear l;obtain⟨a0,q,r,s,t,u,y,z,A,E,rfl⟩:=Jd k;obtain⟨f,Y,m,o,rfl⟩:=Gy I;have h0:DataW.trod enc prog w 0 spare held n 33 [a0,q,r,s,t,u,y]=some f:=by have:=b 0 _ rfl;simpa [Ed] using this
 have h1:DataW.trod enc prog w 0 spare held n 4 [z]=some Y:=by have:=b 1 _ rfl;simpa [c4] using this
 have h2:DataW.trod enc prog w 0 spare held n 34 [A]=some m:=by have:=b 2 _ rfl;simpa [Ta] using this
 have h3:DataW.trod enc prog w 0 spare held n 35 [E]=some o:=by have:=b 3 _ rfl;simpa [Tc] using this
 have b0:B f.1<=1048576:=kJ (a.ag _ _<|by simp) e;have F:B m.1<=1048576:=kJ (a.ag _ _<|by simp) e;have G:B o.1<=1048576:=kJ (a.ag _ _<|by simp) e;obtain⟨X,d,i,S,U⟩:=Hp a n _ f b0 h0;obtain⟨g,e1,_⟩:=qU underlying4 h1;obtain⟨q2,n2,c2,bs,e2,Q,O⟩:=Te a F h2;obtain⟨W,V,c3,ks,j,R,P,T⟩:=Tf a G h3;simp only[nJ,qB] at i e1 e2 j;obtain⟨f1,f2,J,K,L,M,N⟩:=i;subst f1 f2 J K L M N e1 e2 j;exact⟨⟨X,g,n2,bs,V,ks⟩,⟨d,q2,c2,W,c3⟩,rfl,⟨S.toA,Q,R,O,P⟩,U,T⟩
end
def SiOk (w:World) (s:Si) (d:Sv):Prop:=
 Sl w (.slice d.q1 d.l1 d.c1) s.nu1/\Sl w (.slice d.p1 d.m1 d.e1) s.de1/\Sl w (.slice d.q2 d.l2 d.c2) s.nu2/\Sl w (.slice d.p2 d.m2 d.e2) s.de2/\
 s.nu1.length<=1048576/\s.de1.length<=1048576/\s.nu2.length<=1048576/\s.de2.length<=1048576
theorem SiOk.below {w w':World} (a:Below w.1.size w w') {s:Si} {d:Sv} (h:SiOk w s d):SiOk w' s d:=
 ⟨h.1.below a,h.2.1.below a,h.2.2.1.below a,h.2.2.2.1.below a,h.2.2.2.2⟩
def SisOk (w:World) (q:Option Addr) (n:Nat) (bs:Nat->Si):Prop:=
 n=0\/∃b o,q=some ⟨b,o,none⟩/\b<w.1.size/\∃ds:Nat->Sv,∀i,i<n->w.rangeAt b (o+i*9) ((bs i).cells<|ds i)/\SiOk w (bs i) (ds i)
def CosOk (w:World) (q:Option Addr) (n:Nat) (cs:Nat->Co):Prop:=
 n=0\/∃b o,q=some ⟨b,o,none⟩/\b<w.1.size/\∃ds:Nat->Nd,∀i,i<n->w.rangeAt b (o+i*8) ((cs i).cells<|ds i)/\ExOk w (cs i).x (ds i)
theorem SisOk.below {w w':World} (a:Below w.1.size w w') {q:Option Addr} {n:Nat} {bs:Nat->Si} (h:SisOk w q n bs):SisOk w' q n bs:=by refine h.imp id ?_;rintro⟨b,o,e,d,g,f⟩;exact⟨b,o,e,kw d a.size,g,λi hi=>⟨bU (f i hi).1 a d,(f i hi).2.below a⟩⟩
theorem CosOk.below {w w':World} (a:Below w.1.size w w') {q:Option Addr} {n:Nat} {cs:Nat->Co} (h:CosOk w q n cs):CosOk w' q n cs:=by refine h.imp id ?_;rintro⟨b,o,e,d,g,f⟩;exact⟨b,o,e,kw d a.size,g,λi hi=>⟨bU (f i hi).1 a d,(f i hi).2.below a⟩⟩
def ClV (w:World) (C:Cl) (D:Cd):Prop:=
 ExOk w C.goal D.d/\C.nb<=1048576/\C.nc<=1048576/\SisOk w D.bq C.nb C.bs/\CosOk w D.cq C.nc C.cs
theorem ClV.below {w w':World} (a:Below w.1.size w w') {C:Cl} {D:Cd} (h:ClV w C D):ClV w' C D:=
 ⟨h.1.below a,h.2.1,h.2.2.1,h.2.2.2.1.below a,h.2.2.2.2.below a⟩
section
variable {H:Type} {enc:TypeId × Value->H} {w:World} {spare:Nat->Bool} {held:Bool} {B:DataW H->Nat}
instance:Inhabited Cl:=⟨⟨.non,false,0,default,0,default⟩⟩
instance:Inhabited Cd:=⟨⟨default,none,0,none,0⟩⟩
instance:Inhabited En:=⟨⟨(⟨#[]⟩,0),[]⟩⟩
end
theorem SiA.v {w:World} {s:Si} {d:Sv} (h:SiA w (·<w.1.size) s d):SiOk w s d:=⟨h.1.ok λ_ h=>h,h.2.1.ok λ_ h=>h,h.2.2.1.ok λ_ h=>h,h.2.2.2.1.ok λ_ h=>h,h.2.2.2.2⟩
theorem ClOk.v {w:World} {C:Cl} {D:Cd} (h:ClOk w C D):ClV w C D:=by
 obtain⟨h1,h2,h3,h4,h5⟩:=h;refine⟨h1.ok λ_ h=>h,h2,h3,h4.imp id ?_,h5.imp id ?_⟩
 .rintro⟨b,o,e,f,d,a⟩;exact⟨b,o,e,f,d,λi hi=>⟨(a i hi).1,(a i hi).2.v⟩⟩
 rintro⟨b,o,e,f,d,a⟩;exact⟨b,o,e,f,d,λi hi=>⟨(a i hi).1,(a i hi).2.ok λ_ h=>h⟩⟩
