import Derived.Test.YthcfmhgihcjloaaGreatDoorPk23
namespace Go.Proofs.YthcfmhgihcjloaaGreatDoor
open Go Go.RowKit Tryz
set_option maxRecDepth 100000
set_option maxHeartbeats 16000000
def Si.c (s:Si):IvC:=IvC.mk s.g1 (val s.nu1) (val s.de1) s.g2 (val s.nu2) (val s.de2) s.li s.hh
def o0 (bs:Nat->Si) (i:Nat):Bool:=dV (bs i).m&&((decide (i=0)||Op.bytesLess (bs<|i - 1).m.toList (bs i).m.toList)&&(!(bs i).c.lg&&!(bs i).c.vd))
def i5 (n:Nat) (bs:Nat->Si):Bool:=decide (n<=6)&&(List.range n).all (o0 bs)
theorem vi {n:Nat} {bs:Nat->Si} {k:Nat} (a:k<n) (h:o0 bs k=false):i5 n bs=false:=by unfold i5;rw[Bool.and_eq_false_iff];right;rw[lV];exact⟨k,kP.2 a,by rw[h];simp⟩
theorem Hq {n:Nat} {bs:Nat->Si} (b:n<=6) (h:∀j,j<n->o0 bs j=true):i5 n bs=true:=by unfold i5;rw[lh b,pg,lj];exact λj a=>h j<|kP.1 a
theorem Th {w:World} (b o n c:Nat) (bs:Nat->Si) (d:Nat->Sv) (hn:n<=6) (hb:b<w.1.size) (hx:∀i,i<n->w.rangeAt b (o+i*9) ((bs i).cells<|d i)/\SiOk w (bs i) (d i)) (hT:Tb w):
  bF w 61 #[.slice (some ⟨b,o,none⟩) n c] (.bool<|i5 n bs):=by
 have ab:=bC hx;have ag:Hid (Tb w):=hT;have an:¬((n:Int) > 6):=by omega
 clear hx hT;go_enter func61,ntmps61;go_wp2_with fail
 go_loopw [12] (λi wr=>∃k:Nat,k<=n/\i=.int .i64 k/\(∀j,j<k->o0 bs j=true)/\Below w.1.size w wr) (λi _=>n - (intOf i).toNat)
 case atStart=>exact⟨0,kL _,rfl,λj hj=>by omega,kE _ _⟩
 case round=>
  obtain⟨k,hk,rfl,aI,J⟩:=hrel;have aN:Hid (∀j,j<k->o0 bs j=true):=aI;clear aI;by_cases F:k<n
  .have am:(k:Int)<(n:Int):=(by omega);have hR:=bU (ab.out k F).1 J hb;have B:=(ab.out k F).2.below J;have ah:Hid (∀z,Below w.1.size w z->∀j,j+1=k->z.cell? ⟨b,o+j*9,none⟩=some (.string (bs j).m)):=(by intro z q j hj;have h0:=(bU (ab.out j<|by omega).1 q hb) 0 _ rfl;simpa using h0);obtain⟨S,E⟩:∃S,Hid (o0 bs k=S):=⟨_,rfl⟩;obtain⟨x0,x1,x2,x3,x4,x5,x6,x7,x8⟩:=PZ hR;have r:Hid (S=(dV (bs k).m&&((decide (k=0)||Op.bytesLess (bs<|k - 1).m.toList (bs k).m.toList)&&(!(bs k).c.lg&&!(bs k).c.vd)))):=(by show S=_;rw[<-E.out];rfl);have aa:=λz (q:Below wr.1.size wr z)=>S5 (g1s:=(bs k).g1) (g2s:=(bs k).g2) (lis:=(bs k).li) (hhs:=(bs k).hh) (B.1.below q) (B.2.1.below q) (B.2.2.1.below q) (B.2.2.2.1.below q) (by have:=B.2.2.2.2.1;omega) (by have:=B.2.2.2.2.2.1;omega) (by have:=B.2.2.2.2.2.2.1;omega) (by have:=B.2.2.2.2.2.2.2;omega)<|(ag.out.below J).below q
   have aa:Hid (CA wr 89 #[.agg #[.bool (bs k).g1,.slice (d k).q1 (d k).l1 (d k).c1,.slice (d k).p1 (d k).m1 (d k).e1,.bool (bs k).g2,.slice (d k).q2 (d k).l2 (d k).c2,.slice (d k).p2 (d k).m2 (d k).e2,.bool (bs k).li,.bool (bs k).hh]]<|.tuple #[.bool<|!(bs k).c.lg&&(bs k).c.vd,.int .i64 (if (bs k).c.lg then 1 else 0)]):=aa
   clear hR B;obtain⟨y,ac⟩:∃b,(bs k).c.lg=b:=⟨_,rfl⟩;obtain⟨M,ad⟩:∃b,(bs k).c.vd=b:=⟨_,rfl⟩;rw[ac,ad] at aa r;clear ac ad;generalize (bs k).m=m at*;generalize (bs k).g1=g1 at*;generalize (bs k).g2=g2 at*;generalize (bs k).li=li at*;generalize (bs k).hh=hh at*;generalize (d k).q1=q1 at*;generalize (d k).l1=l1 at*;generalize (d k).c1=c1 at*;generalize (d k).p1=p1 at*;generalize (d k).m1=m1 at*;generalize (d k).e1=e1 at*;generalize (d k).q2=q2 at*;generalize (d k).l2=l2 at*;generalize (d k).c2=c2 at*;generalize (d k).p2=p2 at*;generalize (d k).m2=m2 at*;generalize (d k).e2=e2 at*;have B1:Below wr.1.size wr (wr.alloc<|.cells (jA m g1 q1 l1 c1 p1 m1 e1 g2 q2 l2 c2 p2 m2 e2 li hh) 85):=cU wr _;go_upto_region 6 with fail;have BW:=bC<|cV J B1
   have fV:Hid (∀z,Below (wr.alloc<|.cells (jA m g1 q1 l1 c1 p1 m1 e1 g2 q2 l2 c2 p2 m2 e2 li hh) 85).1.size (wr.alloc<|.cells (jA m g1 q1 l1 c1 p1 m1 e1 g2 q2 l2 c2 p2 m2 e2 li hh) 85) z->bF z 89 #[.agg<|iA g1 q1 l1 c1 p1 m1 e1 g2 q2 l2 c2 p2 m2 e2 li hh] (.tuple #[.bool<|!y&&M,.int .i64 (if y then 1 else 0)])):=λz q=>aa.out z<|cV B1 q
   obtain⟨s,O,R,T,U,V,X,Y,Z⟩:=P1 wr (jA m g1 q1 l1 c1 p1 m1 e1 g2 q2 l2 c2 p2 m2 e2 li hh) 85;have af:wr.1.size<(wr.alloc<|.cells (jA m g1 q1 l1 c1 p1 m1 e1 g2 q2 l2 c2 p2 m2 e2 li hh) 85).1.size:=(by simp);have ap:w.1.size<=wr.1.size:=J.size;clear x0 x1 x2 x3 x4 x5 x6 x7 x8 aa B1;generalize wr.alloc (.cells (jA m g1 q1 l1 c1 p1 m1 e1 g2 q2 l2 c2 p2 m2 e2 li hh) 85)=W at*;generalize wr.1.size=P at*;clear J;have G:=Nb m W.drew;have H:Hid (Below w.1.size w W.drew):=BW.out.drew;have N:P<W.drew.1.size:=by simpa using af
   have dT:Hid (∀z,Below W.drew.1.size W.drew z->bF z 89 #[.agg<|iA g1 q1 l1 c1 p1 m1 e1 g2 q2 l2 c2 p2 m2 e2 li hh] (.tuple #[.bool<|!y&&M,.int .i64 (if y then 1 else 0)])):=λz q=>fV.out z<|(ee (kE W.1.size W) 1).trans q
   have s:W.drew.cell? ⟨P,0,none⟩=some (.string m):=(by simpa using s);have O:W.drew.cell? ⟨P,1,none⟩=some (.bool g1):=(by simpa using O);have R:W.drew.cell? ⟨P,2,none⟩=some (.slice q1 l1 c1):=(by simpa using R);have T:W.drew.cell? ⟨P,3,none⟩=some (.slice p1 m1 e1):=(by simpa using T);have U:W.drew.cell? ⟨P,4,none⟩=some (.bool g2):=(by simpa using U);have V:W.drew.cell? ⟨P,5,none⟩=some (.slice q2 l2 c2):=(by simpa using V);have X:W.drew.cell? ⟨P,6,none⟩=some (.slice p2 m2 e2):=(by simpa using X);have Y:W.drew.cell? ⟨P,7,none⟩=some (.bool li):=(by simpa using Y);have Z:W.drew.cell? ⟨P,8,none⟩=some (.bool hh):=by simpa using Z
   cases hN:dV m with
   | false=>
    rw[hN] at G r;clear hN;have C:(λz=>z.cell? ⟨P,0,none⟩=some (.string m)) W.drew:=s;refine kN (S:=(λz=>z.cell? ⟨P,0,none⟩=some (.string m))) (by kernel_rfl) C λl=>?_;refine tk 0 _ rfl l ?_;refine tk 1 _ rfl l ?_;refine dy 2 rfl (λK u=>?_);go_simp
    with_reducible refine G.mono ?_
    rintro e g ⟨rfl,f⟩;have D:(λz=>z.cell? ⟨P,0,none⟩=some (.string m)) g:=fg f N s;refine u.out _ _ D λa=>?_;clear u K l
    try simp only[pz]
    refine tk 3 _ rfl a ?_;refine tk 4 _ rfl a ?_;refine sk 5 rfl a ?_;refine sk 6 rfl a ?_;refine sk 7 rfl a ?_;refine sk 8 rfl a ?_;refine sk 9 rfl a ?_;refine sk 10 rfl a ?_;refine sk 11 rfl a ?_;refine sk 12 rfl a ?_;refine sk 13 rfl a ?_;refine sk 14 rfl a ?_;refine sk 15 rfl a ?_;refine sk 16 rfl a ?_;refine sk 17 rfl a ?_;refine tk 18 _ rfl a ?_;refine kV (by kernel_rfl) ?_ _;go_wp2_with fail;go_ret;exact⟨by rw[vi F<|by rw[E.out,r.out];rfl];rfl,cV H.out f⟩
   | true=>
    rw[hN] at G r;clear hN
    cases k with
    | zero=>
     have C:(λz=>z.cell? ⟨P,0,none⟩=some (.string m)) W.drew:=s;refine kN (S:=(λz=>z.cell? ⟨P,0,none⟩=some (.string m))) (by kernel_rfl) C λl=>?_;refine tk 0 _ rfl l ?_;refine tk 1 _ rfl l ?_;refine dy 2 rfl (λK u=>?_);go_simp
     with_reducible refine G.mono ?_
     rintro e g ⟨rfl,f⟩;have D:(λz=>z.cell? ⟨P,0,none⟩=some (.string m)) g:=fg f N s;refine u.out _ _ D λa=>?_;clear u K l
     try simp only[pz]
     refine tk 3 _ rfl a ?_;refine tk 4 _ rfl a ?_;refine tk 5 _ rfl a ?_;refine tk 6 _ rfl a ?_;refine tk 7 _ rfl a ?_;refine sk 8 rfl a ?_;refine sk 9 rfl a ?_;refine sk 10 rfl a ?_;refine sk 11 rfl a ?_;refine sk 12 rfl a ?_;refine sk 13 rfl a ?_;refine sk 14 rfl a ?_;refine sk 15 rfl a ?_;refine sk 16 rfl a ?_;refine tk 17 _ rfl a ?_;refine tk 18 _ rfl a ?_;refine kV (by kernel_rfl) ?_ _;have jb:=f.size;have A:Hid (Below w.1.size w g):=cV H.out f
     have I:Hid (CA g 89 #[.agg<|iA g1 q1 l1 c1 p1 m1 e1 g2 q2 l2 c2 p2 m2 e2 li hh]<|.tuple #[.bool<|!y&&M,.int .i64 (if y then 1 else 0)]):=λz q=>dT.out z<|cV f q
     obtain⟨z0,z1,z2,z3,z4,z5,z6,z7,z8⟩:=LP f N ⟨s,O,R,T,U,V,X,Y,Z⟩;clear s O R T U V X Y Z G fV dT C D a
     cases y with
     | true=>have t:=I.out g<|kE _ _;go_wp2_with (go_at_call 89;with_reducible refine jR t λw4 x=>?_);go_ret;exact⟨by rw[vi F<|by rw[E.out,r.out];simp];rfl,cV A.out x⟩
     | false=>
      cases M with
      | true=>have t:=I.out g<|kE _ _;go_wp2_with (go_at_call 89;with_reducible refine jR t λw4 x=>?_);go_ret;exact⟨by rw[vi F<|by rw[E.out,r.out];simp];rfl,cV A.out x⟩
      | false=>
       have t:=I.out g<|kE _ _;go_wp2_with (go_at_call 89;with_reducible refine jR t λw4 x=>?_);go_roundw
       case rel=>
        refine⟨0+1,by omega,by go_num,λj hj=>?_,cV A.out x⟩
        rcases kS j 0 with h | h
        .exact aN.out j h
        obtain rfl:j=0:=(by omega);rw[E.out,r.out];simp
       case measure=>simp[intOf];omega
    | succ i=>
     have ak:((i+1:Nat):Int) - 1=(i:Int):=(by omega);have aj:((i+1:Nat):Int) > 0:=(by omega);have ao:¬n<=i:=(by omega);have al:i<n:=(by omega);have wi:IntKind.i64.wrap (i:Int)=(i:Int):=(by rw[sJ];omega);have pv:W.drew.cell? ⟨b,o+i*9,none⟩=some (.string (bs i).m):=ah.out W.drew H.out i rfl;simp only[pT] at r;generalize (bs i).m=L at*
     cases hq:Op.bytesLess L.toList m.toList with
     | false=>
      rw[hq] at r;have C:(λz=>z.cell? ⟨P,0,none⟩=some (.string m)/\z.cell? ⟨b,o+i*9,none⟩=some (.string L)) W.drew:=⟨s,pv⟩;refine kN (S:=(λz=>z.cell? ⟨P,0,none⟩=some (.string m)/\z.cell? ⟨b,o+i*9,none⟩=some (.string L))) (by kernel_rfl) C λl=>?_;refine tk 0 _ rfl l ?_;refine tk 1 _ rfl l ?_;refine dy 2 rfl (λK u=>?_);go_simp
      with_reducible refine G.mono ?_
      rintro e g ⟨rfl,f⟩;have D:(λz=>z.cell? ⟨P,0,none⟩=some (.string m)/\z.cell? ⟨b,o+i*9,none⟩=some (.string L)) g:=⟨fg f N s,(f.cell (p:=⟨b,o+i*9,none⟩)<|by show b<W.drew.1.size;have:=H.out.size;omega).trans pv⟩;refine u.out _ _ D λa=>?_;clear u K l
      try simp only[pz]
      refine tk 3 _ rfl a ?_;refine tk 4 _ rfl a ?_;refine tk 5 _ rfl a ?_;refine tk 6 _ rfl a ?_;refine tk 7 _ rfl a ?_;refine tk 8 _ rfl a ?_;refine tk 9 _ rfl a ?_;refine tk 10 _ rfl a ?_;refine tk 11 _ rfl a ?_;refine tk 12 _ rfl a ?_;refine tk 13 _ rfl a ?_;refine tk 14 _ rfl a ?_;refine tk 15 _ rfl a ?_;refine tk 16 _ rfl a ?_;refine tk 17 _ rfl a ?_;refine tk 18 _ rfl a ?_;refine kV (by kernel_rfl) ?_ _;have A:Hid (Below w.1.size w g):=cV H.out f;go_wp2_with fail;go_ret;exact⟨by rw[vi F<|by rw[E.out,r.out];simp];rfl,A.out⟩
     | true=>
      rw[hq] at r;have C:(λz=>z.cell? ⟨P,0,none⟩=some (.string m)/\z.cell? ⟨b,o+i*9,none⟩=some (.string L)) W.drew:=⟨s,pv⟩;refine kN (S:=(λz=>z.cell? ⟨P,0,none⟩=some (.string m)/\z.cell? ⟨b,o+i*9,none⟩=some (.string L))) (by kernel_rfl) C λl=>?_;refine tk 0 _ rfl l ?_;refine tk 1 _ rfl l ?_;refine dy 2 rfl (λK u=>?_);go_simp
      with_reducible refine G.mono ?_
      rintro e g ⟨rfl,f⟩;have D:(λz=>z.cell? ⟨P,0,none⟩=some (.string m)/\z.cell? ⟨b,o+i*9,none⟩=some (.string L)) g:=⟨fg f N s,(f.cell (p:=⟨b,o+i*9,none⟩)<|by show b<W.drew.1.size;have:=H.out.size;omega).trans pv⟩;refine u.out _ _ D λa=>?_;clear u K l
      try simp only[pz]
      refine tk 3 _ rfl a ?_;refine tk 4 _ rfl a ?_;refine tk 5 _ rfl a ?_;refine tk 6 _ rfl a ?_;refine tk 7 _ rfl a ?_;refine tk 8 _ rfl a ?_;refine tk 9 _ rfl a ?_;refine tk 10 _ rfl a ?_;refine tk 11 _ rfl a ?_;refine tk 12 _ rfl a ?_;refine tk 13 _ rfl a ?_;refine tk 14 _ rfl a ?_;refine tk 15 _ rfl a ?_;refine tk 16 _ rfl a ?_;refine tk 17 _ rfl a ?_;refine tk 18 _ rfl a ?_;refine kV (by kernel_rfl) ?_ _;clear pv;have jb:=f.size;have A:Hid (Below w.1.size w g):=cV H.out f
      have I:Hid (CA g 89 #[.agg<|iA g1 q1 l1 c1 p1 m1 e1 g2 q2 l2 c2 p2 m2 e2 li hh]<|.tuple #[.bool<|!y&&M,.int .i64 (if y then 1 else 0)]):=λz q=>dT.out z<|cV f q
      obtain⟨z0,z1,z2,z3,z4,z5,z6,z7,z8⟩:=LP f N ⟨s,O,R,T,U,V,X,Y,Z⟩;clear s O R T U V X Y Z G fV dT C D a
      cases y with
      | true=>have t:=I.out g<|kE _ _;go_wp2_with (go_at_call 89;with_reducible refine jR t λw4 x=>?_);go_ret;exact⟨by rw[vi F<|by rw[E.out,r.out];simp];rfl,cV A.out x⟩
      | false=>
       cases M with
       | true=>have t:=I.out g<|kE _ _;go_wp2_with (go_at_call 89;with_reducible refine jR t λw4 x=>?_);go_ret;exact⟨by rw[vi F<|by rw[E.out,r.out];simp];rfl,cV A.out x⟩
       | false=>
        have t:=I.out g<|kE _ _;go_wp2_with (go_at_call 89;with_reducible refine jR t λw4 x=>?_);go_roundw
        case rel=>
         refine⟨(i+1)+1,by omega,by go_num,λj hj=>?_,cV A.out x⟩
         rcases kS j (i+1) with h | h
         .exact aN.out j h
         obtain rfl:j=(i+1):=(by omega);rw[E.out,r.out];simp
        case measure=>simp[intOf];omega
  obtain rfl:k=n:=(by omega);go_wp2_with fail;go_ret;exact⟨by rw[Hq hn aN.out];rfl,J⟩
theorem NB {n d:Int} (f:0<=n) (a:0<d):0<dg n d:=by
 unfold dg;split
 .decide
 rename_i h;have g:0<n:=by omega
 have e:=Dn (b:=d) g;exact sC a (qk e) (JJ f<|qk a).2
theorem yN {n d:Int} (b:0<=n) (a:0<=d):0<=db n d:=(xV b a).2.2.1
theorem NC {g:Bool} {n d:Int} (j:0<=n) (e:0<d) (h:db n d=0):cI g n d=false:=by
 unfold cI;unfold db at h;split
 .rfl
 rename_i h1;rw[kZ h1] at h;have a:0<n:=by omega
 have i:=Dn (b:=d) a;have f:cJ n d ∣ n:=(JJ j<|qk e).1;have:=sC a (qk i) f;omega
theorem ND {d:Int} (h:0<d):bB d=d:=by unfold bB;rw[kZ<|by omega]
theorem AT {g1 g2:Bool} {n1 d1 n2 d2:Int} (h1:0<=n1) (h2:0<d1) (h3:0<=n2) (h4:0<d2) (e1:n1=0->g1=false) (e2:n2=0->g2=false):
  nv g1 n1 d1 g2 n2 d2=jo (sg g1*(n1*bB d2) - sg g2*(n2*bB d1)):=by
 rw[ND h2,ND h4];have a0:0<=n1*d2:=nj h1<|qk h4;have b0:0<=n2*d1:=nj h3<|qk h2;have f:¬n1=0->0<n1*d2:=λh=>pP (by omega) h4;have i:¬n2=0->0<n2*d1:=λh=>pP (by omega) h2;have g:n1=0->n1*d2=0:=λh=>by rw[h];simp
 have j:n2=0->n2*d1=0:=λh=>by rw[h];simp
 unfold nv zJ jo sg oZ;generalize n1*d2=a at*;generalize n2*d1=b at*;by_cases d:n1=0<;>by_cases e:n2=0
 .rw[e1 d,e2 e,g d,j e];simp[d,e]
 .rw[e1 d,g d];have:=i e;cases g2<;>simp[d,e]<;>(repeat' split)<;>omega
 .rw[e2 e,j e];have:=f d;cases g1<;>simp[d,e]<;>(repeat' split)<;>omega
 have:=f d;have:=i e;cases g1<;>cases g2<;>simp[d,e]<;>(repeat' split)<;>omega
structure IvC.Nn (c:IvC):Prop where
 n1:0<=c.n1
 d1:0<=c.d1
 n2:0<=c.n2
 d2:0<=c.d2
theorem Hr {g e:Bool} {n d b a:Int} (h1:0<=n) (h2:0<=d) (h3:0<=b) (h4:0<=a):
  nv (cI g n<|bB d) (db n<|bB d) (dg n<|bB d) (cI e b<|bB a) (db b<|bB a) (dg b<|bB a)=
   qS (cI g n<|bB d,db n<|bB d,dg n<|bB d) (cI e b<|bB a,db b<|bB a,dg b<|bB a):=by
 have p1:=FF h2;have p2:=FF h4;exact AT (yN h1<|qk p1) (NB h1 p1) (yN h3<|qk p2) (NB h3 p2) (NC h1 p1)<|NC h3 p2
theorem FV {c:IvC} (h:c.Nn):c.v.em=c.vd:=by
 unfold IvC.v IvC.vd
 cases a:c.li with
 | true=>simp
 | false=>
  cases hh:c.hh with
  | true=>simp
  | false=>rw[Hr h.n1 h.d1 h.n2 h.d2];have e1:c.lo=(cI c.g1 c.n1<|bB c.d1,db c.n1<|bB c.d1,dg c.n1<|bB c.d1):=(by unfold IvC.lo;rw[a];rfl);have e2:c.hi=(cI c.g2 c.n2<|bB c.d2,db c.n2<|bB c.d2,dg c.n2<|bB c.d2):=(by unfold IvC.hi;rw[hh];rfl);rw[<-e1,<-e2];by_cases hq:0<qS c.lo c.hi<;>simp[hq]
def IvV.wi (s t:IvV):Bool:=if s.em||t.em then s.em else
 ((t.li||(!s.li&&decide (qS (t.g1,t.n1,t.d1) (s.g1,s.n1,s.d1)<=0)))&&(t.hh||(!s.hh&&decide (qS (s.g2,s.n2,s.d2) (t.g2,t.n2,t.d2)<=0))))
theorem yO (x:Int):jo (-x)=- jo x:=by
 unfold jo
 repeat' split
 all_goals omega
theorem NE (a b:Bool × Int × Int):qS a b=- qS b a:=by unfold qS;rw[<-yO];congr 1;omega
theorem yP {s t:IvC} (a:s.Nn) (ht:t.Nn):IvV.wi s.v t.v=s.ins t:=by
 unfold IvV.wi;rw[FV a,FV ht];unfold IvC.ins
 cases hv:s.vd with
 | true=>simp
 | false=>
  cases g:t.vd with
  | true=>simp
  | false=>
   have e:∀{c:IvC},c.Nn->c.vd=false->c.v=⟨c.lo.1,c.lo.2.1,c.lo.2.2,c.hi.1,c.hi.2.1,c.hi.2.2,c.li,c.hh,false⟩:=by
    intro c f h;have h2:=FV f;rw[h] at h2;unfold IvC.v at h2 ⊢;split
    .rename_i h3;rw[kU h3] at h2;cases h2
    rfl
   rw[e a hv,e ht g];simp only[Bool.or_self,Bool.false_eq_true,if_false,qO,sh,Bool.and_true];congr 1
   .cases b:t.li with
    | true=>simp
    | false=>
     cases d:s.li with
     | true=>simp
     | false=>rw[Hr a.n1 a.d1 ht.n1 ht.d1];have e1:s.lo=(cI s.g1 s.n1<|bB s.d1,db s.n1<|bB s.d1,dg s.n1<|bB s.d1):=(by unfold IvC.lo;rw[d];rfl);have e2:t.lo=(cI t.g1 t.n1<|bB t.d1,db t.n1<|bB t.d1,dg t.n1<|bB t.d1):=(by unfold IvC.lo;rw[b];rfl);rw[<-e1,<-e2,NE];simp only[qO,sh,pg];congr 1;apply propext;show -qS s.lo t.lo<=0↔0<=qS s.lo t.lo;omega
   cases b:t.hh with
   | true=>simp
   | false=>
    cases d:s.hh with
    | true=>simp
    | false=>rw[Hr a.n2 a.d2 ht.n2 ht.d2];have e1:s.hi=(cI s.g2 s.n2<|bB s.d2,db s.n2<|bB s.d2,dg s.n2<|bB s.d2):=(by unfold IvC.hi;rw[d];rfl);have e2:t.hi=(cI t.g2 t.n2<|bB t.d2,db t.n2<|bB t.d2,dg t.n2<|bB t.d2):=(by unfold IvC.hi;rw[b];rfl);rw[<-e1,<-e2]
def AU:List Nat->Act->Act
 | [],a=>a
 | d::ds,a=>AU ds<|a.put (some d) undef
def Ka:Nat->List Nat->Array Bool->Array Bool
 | _,[],l=>l
 | i,_::ds,l=>Ka (i+1) ds<|l.setIfInBounds i true
def AW (md:Region.Mode) (ops:Array Oper):Nat->List Nat->Array Bool->Act->Bool
 | _,[],_,_=>true
 | i,d::ds,l,a=>(match ops[i]? with
  | some o=>o.dst==some d&&!(Region.wanted o<|yielded ops a.tmps)
  | none=>false)&&(Region.free md ops l i&&((Region.ready md ops l).contains i&&AW md ops (i+1) ds (l.setIfInBounds i true) (a.put (some d) undef)))
section
variable {P:Program} {ops:Array Oper} {Q:Exit->Act->World->Prop} {md:Region.Mode} {S:World->Prop} {fuel:Nat} {w:World}
theorem NF (g:Region.noSelect ops=true) (f:S w) (hQ:∀(c:List PanicEntry) (a:Act) (d:Nat) (v:Value) (w:World),Q (.panic c) (a.put (some d) v) w->Q (.panic c) a w):
  ∀(b:List Nat) (i:Nat) (l:Array Bool) (a:Act),AW md ops i b l a=true->wpAnyH P md ops Q S fuel (Ka i b l) (AU b a) w->wpAnyH P md ops Q S (fuel+b.length) l a w
 | [],_,_,_,_,h=>h
 | d::b,i,l,a,hok,h=>by
  simp only[AW,lL] at hok;obtain⟨h1,h2,h3,h4⟩:=hok
  cases e:ops[i]? with
  | none=>rw[e] at h1;cases h1
  | some o=>rw[e] at h1;simp only[lL,rm,pN] at h1;exact mO e g h2 h3 (hQ:=λc a w hq=>hQ c a d undef w<|by rw[h1.1] at hq;exact hq) (v:=undef) (.inr ⟨h1.2,rfl⟩) f<|by rw[h1.1];exact NF g f hQ b (i+1) _ _ h4 h
theorem Ci (n i:Nat) (b:List Nat) {l:Array Bool} {a f:Act} (g:S w) (h:wpAnyH P md ops Q S fuel (Ka i b l) f w) (e:AU b a=f:=by simp only[AU,pz];rfl) (j:b.length=n:=by rfl) (k:AW md ops i b l a=true:=by kernel_rfl)
  (m:Region.noSelect ops=true:=by kernel_rfl) (hQ:∀(c:List PanicEntry) (a:Act) (d:Nat) (v:Value) (w:World),Q (.panic c) (a.put (some d) v) w->Q (.panic c) a w:=by exact λ_ _ _ _ _ h=>h):wpAnyH P md ops Q S (fuel+n) l a w:=by
 subst j;subst e;exact NF m g hQ b i l a k h
end
theorem Cj {a0 i o q v:Bool} {b f j l:Option Addr} {d e g h k b0 m n:Nat} (z:World):(Instr.field 130 (.agg<|iB a0 b d e f g h i j k b0 l m n o q v) 4).run prog z=.ok (.bool v) z:=by have u:=underlying130;have a:=isAgg4;have s:=sizeOf4;simp[Instr.field,asAgg,part,go_sem,a,Result.andThen]
theorem Ti {w:World} {g1 g2 li hh:Bool} {q1 p1 q2 p2:Option Addr} {l1 c1 m1 e1 l2 c2 m2 e2:Nat} {nu1 de1 nu2 de2:List Int} (h1:Sl w (.slice q1 l1 c1) nu1) (h2:Sl w (.slice p1 m1 e1) de1) (h3:Sl w (.slice q2 l2 c2) nu2) (h4:Sl w (.slice p2 m2 e2) de2)
  (A:nu1.length<=34359737000) (B:de1.length<=34359737000) (C:nu2.length<=34359737000) (D:de2.length<=34359737000):
  bF w 105 #[.agg<|iA g1 q1 l1 c1 p1 m1 e1 g2 q2 l2 c2 p2 m2 e2 li hh] (.bool (IvC.mk g1 (val nu1) (val de1) g2 (val nu2) (val de2) li hh).lg):=by
 have d:=λz (b:Below w.1.size w z)=>JV (g:=g1) (h1.below b) (h2.below b) (by omega) (by omega);have h:=λz (b:Below w.1.size w z)=>JV (g:=g2) (h3.below b) (h4.below b) (by omega) (by omega);have d:Hid (∀z,Below w.1.size w z->cN 145 #[.agg<|qA g1 q1 l1 c1 p1 m1 e1] z _):=d;have h:Hid (∀z,Below w.1.size w z->cN 145 #[.agg<|qA g2 q2 l2 c2 p2 m2 e2] z _):=h;show Calls _ _ _ _ λe w'=>e=.returned (.bool<|large (val nu1) (val de1)||large (val nu2) (val de2))/\Below w.1.size w w';generalize large (val nu1) (val de1)=X at*;generalize large (val nu2) (val de2)=Y at*;clear h1 h2 h3 h4;have b0:Below w.1.size w (w.alloc<|.cells (iA g1 q1 l1 c1 p1 m1 e1 g2 q2 l2 c2 p2 m2 e2 li hh) 83):=cU w _;have f:=d.out _ b0;have n:w.1.size<(w.alloc<|.cells (iA g1 q1 l1 c1 p1 m1 e1 g2 q2 l2 c2 p2 m2 e2 li hh) 83).1.size:=by simp
 obtain⟨o,q,r,s,t,u,x,y⟩:=PX w (iA g1 q1 l1 c1 p1 m1 e1 g2 q2 l2 c2 p2 m2 e2 li hh) 83;go_enter func105,ntmps105;go_upto_region 1 with fail;clear d;have i:=bC b0
 cases X with
 | true=>go_wp2_with (go_at_call 145;with_reducible refine jR f λk a=>?_);go_ret;exact⟨rfl,cV i.out a⟩
 | false=>
  go_wp2_with (first
   | (go_at_call 145;with_reducible refine jR f λk a=>?_
      obtain⟨F,G,H,I,J,K,L,M⟩:=PY a n ⟨o,q,r,s,t,u,x,y⟩;have j:Hid (Below w.1.size w k):=cV i.out a;have l:=h.out _ j.out
      clear a f)
   | (go_at_call 145;with_reducible refine jR l λE m=>?_))
  go_ret;exact⟨by simp,cV j.out m⟩
theorem Tj {w:World} (b o n c:Nat) (bs:Nat->Si) (D:Nat->Sv) (hn:n<=6) (M:b<w.1.size) (Z:∀i,i<n->w.rangeAt b (o+i*9) ((bs i).cells<|D i)/\SiOk w (bs i) (D i)):
  bF w 73 #[.slice (some ⟨b,o,none⟩) n c] (.bool<|i5 n bs):=by
 have J:=bC Z;have af:¬((n:Int) > 6):=by omega
 clear Z;go_enter func73,ntmps73;go_wp2_with fail
 go_loopw [10] (λi wr=>∃k:Nat,k<=n/\i=.int .i64 k/\(∀j,j<k->o0 bs j=true)/\Below w.1.size w wr) (λi _=>n - (intOf i).toNat)
 case atStart=>exact⟨0,kL _,rfl,λj I=>by omega,kE _ _⟩
 case round=>
  obtain⟨k,hk,rfl,L,x⟩:=hrel;have C:=bC L;clear L;by_cases m:k<n
  .have am:(k:Int)<(n:Int):=(by omega);have F:=bC<|bU (J.out k m).1 x M;have s:=bC<|(J.out k m).2.below x;have l:=bC<|show o0 bs k=(dV (bs k).m&&((decide (k=0)||Op.bytesLess (bs<|k - 1).m.toList (bs k).m.toList)&&(!(bs k).c.lg&&!(bs k).c.vd))) from rfl;have V:=bC fun(z:World) (a:Below w.1.size w z) (j:Nat) (I:j+1=k)=>show z.cell? ⟨b,o+j*9,none⟩=some (.string (bs j).m) from (by simpa using (bU (J.out j<|by omega).1 a M) 0 _ rfl);generalize D k=Y at*;generalize bs k=X at F s l
   go_upto_region 6 with(first
    | (with_reducible refine cW (op:=⟨some 14,_,_,_,_,_⟩) D7 13 b (o+k*9) (X.cells Y) F.out rfl ?_)
    | (with_reducible refine si (op:=⟨none,_,_,_,_,_⟩) D7 4 14 (X.cells Y) rfl (mh<|Si.one X Y) ?_))
   have B:Below wr.1.size wr (wr.alloc<|.cells (X.cells Y).toArray 85):=fH _ _;have U:=og<|kR wr<|.cells (X.cells Y).toArray 85;have ab:wr.1.size<(wr.alloc<|.cells (X.cells Y).toArray 85).1.size:=(by simp);generalize wr.alloc (.cells (X.cells Y).toArray 85)=W at*;have g:=bC<|cV x B;have Bd:Below W.1.size W W.drew:=(kE _ _).drew;have ok:=λz (a:Below W.1.size W z)=>s.out.below<|cV B a
   have O:=bC λz (a:Below W.1.size W z)=>show cN 105 #[.agg (X.iv Y).toArray] z λe w'=>e=.returned (.bool X.c.lg)/\Below z.1.size z w' from
    Ti (ok z a).1 (ok z a).2.1 (ok z a).2.2.1 (ok z a).2.2.2.1 (by have:=(ok z a).2.2.2.2.1;omega) (by have:=(ok z a).2.2.2.2.2.1;omega) (by have:=(ok z a).2.2.2.2.2.2.1;omega) (by have:=(ok z a).2.2.2.2.2.2.2;omega)
   have R:=bC λz (a:Below W.1.size W z)=>show cN 81 #[.agg (X.iv Y).toArray] z λe w'=>∃v,e=.returned v/\IAt w' v X.c.v/\Below z.1.size z w' from
    xZ (ok z a).1 (ok z a).2.1 (ok z a).2.2.1 (ok z a).2.2.2.1 (by have:=(ok z a).2.2.2.2.1;omega) (by have:=(ok z a).2.2.2.2.2.1;omega) (by have:=(ok z a).2.2.2.2.2.2.1;omega) (by have:=(ok z a).2.2.2.2.2.2.2;omega) X.li X.hh
   have T:Hid X.c.Nn:=bC ⟨ep s.out.1.1,ep s.out.2.1.1,ep s.out.2.2.1.1,ep s.out.2.2.2.1.1⟩
   have t:=bC λz (a:Below W.1.size W z)=>show z.rangeAt wr.1.size 0 (X.cells Y)/\∀j,j+1=k->z.cell? ⟨b,o+j*9,none⟩=some (.string (bs j).m) from
    ⟨bU U a ab,V.out z<|cV g.out a⟩
   clear F s ok U V x B;refine kN (S:=λz=>z.rangeAt wr.1.size 0 (X.cells Y)/\∀j,j+1=k->z.cell? ⟨b,o+j*9,none⟩=some (.string (bs j).m)) (by kernel_rfl) (t.out _ Bd) λhh=>?_;refine tk 0 _ rfl hh ?_;refine jQ BS 1 15 wr.1.size 0 _ rfl hh (λz h=>h.1 0 _ rfl) ?_;refine dy 2 rfl λK d=>?_;go_simp;refine jR (Nc X.m _) λw3 N=>?_;have q:=cV Bd N;refine d.out _ _ (t.out _ q) λh3=>?_;clear d K hh N
   cases E:dV X.m with
   | false=>refine tk 3 _ rfl h3 ?_;refine tk 4 _ rfl h3 ?_;refine Ci 13 5 [20,21,22,23,24,25,26,27,28,29,30,31,32] h3 ?_;refine tk 18 _ rfl h3 ?_;refine tk 19 _ rfl h3 ?_;refine Ci 3 20 [35,36,37] h3 ?_;refine tk 23 _ rfl h3 ?_;refine tk 24 _ rfl h3 ?_;refine Ci 4 25 [40,41,42,43] h3 ?_;refine tk 29 _ rfl h3 ?_;refine kV (by kernel_rfl) ?_ _;go_wp2_with fail;go_ret;exact⟨by rw[vi m<|by rw[l.out,E];simp];rfl,cV g.out q⟩
   | true=>
    refine tk 3 _ rfl h3 ?_;refine tk 4 _ rfl h3 ?_
    cases k with
    | zero=>
     refine tk 5 _ rfl h3 ?_;refine tk 6 _ rfl h3 ?_;refine tk 7 _ rfl h3 ?_;refine Ci 9 8 [23,24,25,26,27,28,29,30,31] h3 ?_;refine tk 17 _ rfl h3 ?_;refine tk 18 _ rfl h3 ?_;refine tk 19 _ rfl h3 ?_;refine tk 20 _ rfl h3 ?_;refine fE oG 21 35 wr.1.size 1 (X.iv Y) rfl rfl h3 (λz h=>(iE (o:=0) h.1 [.string X.m] [] rfl)) ?_;refine dy 22 rfl λK d=>?_;go_simp;refine jR (O.out _ q) λw4 G=>?_;have f:=cV q G;refine d.out _ _ (t.out _ f) λh4=>?_;clear d K
     cases y:X.c.lg with
     | true=>refine tk 23 _ rfl h4 ?_;refine tk 24 _ rfl h4 ?_;refine Ci 4 25 [40,41,42,43] h4 ?_;refine tk 29 _ rfl h4 ?_;refine kV (by kernel_rfl) ?_ _;go_wp2_with fail;go_ret;exact⟨by rw[vi m<|by rw[l.out,y];simp];rfl,cV g.out f⟩
     | false=>
      refine tk 23 _ rfl h4 ?_;refine tk 24 _ rfl h4 ?_;refine tk 25 _ rfl h4 ?_;refine fE oG 26 40 wr.1.size 1 (X.iv Y) rfl rfl h4 (λz h=>(iE (o:=0) h.1 [.string X.m] [] rfl)) ?_;refine dy 27 rfl λK d=>?_;go_simp;refine(R.out _ f).mono ?_;rintro e w5 ⟨v,rfl,u,H⟩;obtain⟨x1,y1,x2,y2,a1,a2,a3,a4,a5,a6,a7,a8,rfl,-,-⟩:=u.form;rw[FV T.out];have r:=cV f H;refine d.out _ _ (t.out _ r) λh5=>?_;clear d K u;refine tk 28 _ rfl h5 ?_ (.inl ⟨by rfl,λz aa=>by go_simp;rw[Cj];rfl⟩)
      cases A:X.c.vd with
      | true=>refine tk 29 _ rfl h5 ?_;refine kV (by kernel_rfl) ?_ _;go_wp2_with fail;go_ret;exact⟨by rw[vi m<|by rw[l.out,A];simp];rfl,cV g.out r⟩
      | false=>
       refine tk 29 _ rfl h5 ?_;refine kV (by kernel_rfl) ?_ _;go_wp2_with fail;go_roundw
       case rel=>
        refine⟨0+1,by omega,by go_num,λj I=>?_,cV g.out r⟩
        rcases kS j 0 with h | h
        .exact C.out j h
        obtain rfl:j=0:=(by omega);rw[l.out,E,y,A];simp
       case measure=>simp[intOf];omega
    | succ i=>
     have ad:((i+1:Nat):Int) - 1=(i:Int):=(by omega);have ac:((i+1:Nat):Int) > 0:=(by omega);have ag:¬n<=i:=(by omega);have ae:i<n:=(by omega);have wi:IntKind.i64.wrap (i:Int)=(i:Int):=(by rw[sJ];omega);refine tk 5 (.int .i64 ((i+1:Nat):Int)) rfl h3 ?_;refine tk 6 (.bool true) rfl h3 ?_;refine tk 7 _ rfl h3 ?_;refine tk 8 _ rfl h3 ?_;refine tk 9 _ rfl h3 ?_;refine tk 10 (.int .i64 (i:Int)) rfl h3 ?_;refine tk 11 (.pointer<|some ⟨b,o+i*9,none⟩) rfl h3 ?_;refine tk 12 _ rfl h3 ?_;refine jQ BS 13 27 b (o+i*9) _ rfl h3 (λz h=>h.2 i rfl) ?_;refine tk 14 _ rfl h3 ?_;refine jQ BS 15 29 wr.1.size 0 _ rfl h3 (λz h=>h.1 0 _ rfl) ?_
     cases hq:Op.bytesLess (bs i).m.toList X.m.toList with
     | false=>refine tk 16 (.bool true) rfl h3 ?_;refine tk 17 _ rfl h3 ?_;refine tk 18 _ rfl h3 ?_;refine tk 19 _ rfl h3 ?_;refine Ci 3 20 [35,36,37] h3 ?_;refine tk 23 _ rfl h3 ?_;refine tk 24 _ rfl h3 ?_;refine Ci 4 25 [40,41,42,43] h3 ?_;refine tk 29 _ rfl h3 ?_;refine kV (by kernel_rfl) ?_ _;go_wp2_with fail;go_ret;exact⟨by rw[vi m<|by rw[l.out,pT,hq];simp];rfl,cV g.out q⟩
     | true=>
      refine tk 16 (.bool false) rfl h3 ?_;refine tk 17 _ rfl h3 ?_;refine tk 18 _ rfl h3 ?_;refine tk 19 _ rfl h3 ?_;refine tk 20 _ rfl h3 ?_;refine fE oG 21 35 wr.1.size 1 (X.iv Y) rfl rfl h3 (λz h=>(iE (o:=0) h.1 [.string X.m] [] rfl)) ?_;refine dy 22 rfl λK d=>?_;go_simp;refine jR (O.out _ q) λw4 G=>?_;have f:=cV q G;refine d.out _ _ (t.out _ f) λh4=>?_;clear d K
      cases y:X.c.lg with
      | true=>refine tk 23 _ rfl h4 ?_;refine tk 24 _ rfl h4 ?_;refine Ci 4 25 [40,41,42,43] h4 ?_;refine tk 29 _ rfl h4 ?_;refine kV (by kernel_rfl) ?_ _;go_wp2_with fail;go_ret;exact⟨by rw[vi m<|by rw[l.out,y];simp];rfl,cV g.out f⟩
      | false=>
       refine tk 23 _ rfl h4 ?_;refine tk 24 _ rfl h4 ?_;refine tk 25 _ rfl h4 ?_;refine fE oG 26 40 wr.1.size 1 (X.iv Y) rfl rfl h4 (λz h=>(iE (o:=0) h.1 [.string X.m] [] rfl)) ?_;refine dy 27 rfl λK d=>?_;go_simp;refine(R.out _ f).mono ?_;rintro e w5 ⟨v,rfl,u,H⟩;obtain⟨x1,y1,x2,y2,a1,a2,a3,a4,a5,a6,a7,a8,rfl,-,-⟩:=u.form;rw[FV T.out];have r:=cV f H;refine d.out _ _ (t.out _ r) λh5=>?_;clear d K u;refine tk 28 _ rfl h5 ?_ (.inl ⟨by rfl,λz aa=>by go_simp;rw[Cj];rfl⟩)
       cases A:X.c.vd with
       | true=>refine tk 29 _ rfl h5 ?_;refine kV (by kernel_rfl) ?_ _;go_wp2_with fail;go_ret;exact⟨by rw[vi m<|by rw[l.out,A];simp];rfl,cV g.out r⟩
       | false=>
        refine tk 29 _ rfl h5 ?_;refine kV (by kernel_rfl) ?_ _;go_wp2_with fail;go_roundw
        case rel=>
         refine⟨(i+1)+1,by omega,by go_num,λj I=>?_,cV g.out r⟩
         rcases kS j (i+1) with h | h
         .exact C.out j h
         obtain rfl:j=(i+1):=(by omega);rw[l.out,E,y,A,pT,hq];simp
        case measure=>simp[intOf];omega
  obtain rfl:k=n:=(by omega);go_wp2_with fail;go_ret;exact⟨by rw[Hq hn C.out];rfl,x⟩
theorem NG {n:Nat} {bs:Nat->Si} (h:¬n<=6):i5 n bs=false:=by unfold i5;rw[kQ h];rfl
theorem Tk {w:World} (q:Option Addr) (n c:Nat) (a:¬n<=6):cN 61 #[.slice q n c] w λe w'=>e=.returned (.bool false)/\w'=w:=by
 have b:(n:Int) > 6:=by omega
 go_enter func61,ntmps61;go_wp2_with fail;go_ret;exact⟨rfl,rfl⟩
theorem Tl {w:World} (q:Option Addr) (c:Nat):cN 61 #[.slice q 0 c] w λe w'=>e=.returned (.bool true)/\w'=w:=by go_enter func61,ntmps61;go_wp2_with fail;refine my ?_;go_wp2_with fail;go_ret;exact⟨rfl,rfl⟩
theorem Tm {w:World} (q:Option Addr) (n c:Nat) (a:¬n<=6):cN 73 #[.slice q n c] w λe w'=>e=.returned (.bool false)/\w'=w:=by
 have b:(n:Int) > 6:=by omega
 go_enter func73,ntmps73;go_wp2_with fail;go_ret;exact⟨rfl,rfl⟩
theorem Tn {w:World} (q:Option Addr) (c:Nat):cN 73 #[.slice q 0 c] w λe w'=>e=.returned (.bool true)/\w'=w:=by go_enter func73,ntmps73;go_wp2_with fail;refine my ?_;go_wp2_with fail;go_ret;exact⟨rfl,rfl⟩
theorem To {w:World} {q:Option Addr} {n:Nat} (c:Nat) {bs:Nat->Si} (h:SisOk w q n bs) (d:Tb w):bF w 61 #[.slice q n c] (.bool<|i5 n bs):=by
 by_cases a:n<=6
 .rcases h with rfl | ⟨b,o,rfl,hlt,ds,hds⟩
  .refine(Tl q c).mono ?_;rintro x w' ⟨rfl,rfl⟩;exact⟨by rw[Hq (by omega) λj e=>by omega],kE _ _⟩
  exact Th b o n c bs ds a hlt hds d
 refine(Tk q n c a).mono ?_;rintro x w' ⟨rfl,rfl⟩;exact⟨by rw[NG a],kE _ _⟩
theorem Tp {w:World} {q:Option Addr} {n:Nat} (c:Nat) {bs:Nat->Si} (h:SisOk w q n bs):bF w 73 #[.slice q n c] (.bool<|i5 n bs):=by
 by_cases a:n<=6
 .rcases h with rfl | ⟨b,o,rfl,hlt,ds,hds⟩
  .refine(Tn q c).mono ?_;rintro x w' ⟨rfl,rfl⟩;exact⟨by rw[Hq (by omega) λj d=>by omega],kE _ _⟩
  exact Tj b o n c bs ds a hlt hds
 refine(Tm q n c a).mono ?_;rintro x w' ⟨rfl,rfl⟩;exact⟨by rw[NG a],kE _ _⟩
