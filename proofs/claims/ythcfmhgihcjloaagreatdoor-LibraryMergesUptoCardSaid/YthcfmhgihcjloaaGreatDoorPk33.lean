import Derived.Test.YthcfmhgihcjloaaGreatDoorPk29
namespace Go.Proofs.YthcfmhgihcjloaaGreatDoor
open Go Go.RowKit Tryz
variable {w:World} {X1 X2:List Value} {C:Cl}
set_option maxRecDepth 100000 in
set_option maxHeartbeats 16000000 in
theorem Uh {g1 g2:List Value} {st1 st2 V1 V2 G:Bool} {ad ae cq1 cq2:Option Addr} {f H al R g L cc1 cc2:Nat} (u v:Nat->ByteArray) (xs ys:Nat->List Value) (E:Nat->Bool) (s t:Nat->Bool) (x y:Nat->List Value) (F:Nat->Bool)
  (aQ:f<=1048576) (aS:H<=1048576) (aT:g<=1048576) (aU:L<=1048576) (l1:g1.length=7) (l2:g2.length=7) (aN:∀i,i<f->(xs i).length=8) (aO:∀i,i<H->(ys i).length=8) (lx:∀i,i<g->(x i).length=7) (ly:∀i,i<L->(y i).length=7)
  (aE:∀i,i<f->∀u∈xs i,u.oneCell'=true) (ox:∀i,i<g->∀u∈x i,u.oneCell'=true)
  (h1:cS w 9 f ad λi=>.string (u i)::xs i) (h2:cS w 9 H ae λi=>.string (v i)::ys i) (h3:cS w 8 g cq1 λi=>gE (x i)<|s i) (h4:cS w 8 L cq2 λi=>gE (y i)<|t i)
  (a3:CA w 36 #[.agg (oJ g1 st1 ad f al cq1 g cc1).toArray] (.bool V1))
  (a4:CA w 36 #[.agg (oJ g2 st2 ae H R cq2 L cc2).toArray] (.bool V2))
  (hG:V1=true->V2=true->CA w 37 #[.agg g1.toArray,.agg g2.toArray] (.bool G))
  (hE:V1=true->V2=true->∀i,i<f->i<H->CA w 38 #[.agg (xs i).toArray,.agg (ys i).toArray] (.bool<|E i))
  (hF:V1=true->V2=true->∀i,i<g->i<L->CA w 37 #[.agg (x i).toArray,.agg (y i).toArray] (.bool<|F i)):
  bF w 24 #[.agg (oJ g1 st1 ad f al cq1 g cc1).toArray,.agg (oJ g2 st2 ae H R cq2 L cc2).toArray] (.tuple #[.bool<|V1&&(V2&&(st1==st2&&(decide (f=H)&&(decide (g=L)&&(G&&(((List.range f).all λi=>(u i).toList==(v i).toList&&E i)&&(List.range g).all λi=>s i==t i&&F i)))))),.int .i64 (if V1&&V2 then 0 else 60)]):=by
 obtain⟨ak,hA⟩:∃b,Hid (((List.range f).all λi=>(u i).toList==(v i).toList&&E i)=b):=⟨_,rfl⟩;obtain⟨B,hB⟩:∃b,Hid (((List.range g).all λi=>s i==t i&&F i)=b):=⟨_,rfl⟩;obtain⟨D,hD⟩:∃b,(st1==st2)=b:=⟨_,rfl⟩;rw[hA.out,hB.out,hD];have H1:=bC h1;have H2:=bC h2;have H3:=bC h3;have H4:=bC h4;have ay:=bC hE;have a0:=bC hF;have a1:=bC hG;clear h1 h2 h3 h4 hE hF hG;have L1:(oJ g1 st1 ad f al cq1 g cc1).length=10:=by simp[oJ,l1]
 have L2:(oJ g2 st2 ae H R cq2 L cc2).length=10:=by simp[oJ,l2]
 generalize a5:oJ g1 st1 ad f al cq1 g cc1=X1 at*;generalize a':oJ g2 st2 ae H R cq2 L cc2=X2 at*;have T:Hid (((w.alloc<|.cells X1.toArray 37).alloc<|.cells X2.toArray 37).rangeAt w.1.size 0 X1/\((w.alloc<|.cells X1.toArray 37).alloc<|.cells X2.toArray 37).rangeAt (w.1.size+1) 0 X2):=oI;have W1:=bC<|dF w (.cells X1.toArray 37)<|.cells X2.toArray 37;have e:w.1.size+1<((w.alloc<|.cells X1.toArray 37).alloc<|.cells X2.toArray 37).1.size:=by simp
 have hV:=a3 _ W1.out;have aF:=bC a5;have aG:=bC a';clear a3 a5 a';go_enter func24,ntmps24;go_upto_region 1 with fail;generalize (w.alloc _).alloc _=w1 at*
 cases V1 with
 | false=>
  go_wp2_with (first
   | (with_reducible refine cW (op:=⟨some 10,_,_,_,_,_⟩) i4 2 _ 0 X1 T.out.1 L1 ?_)
   | (go_at_call 36;with_reducible refine jR hV λw2 I=>?_))
  go_ret2;exact⟨rfl,cV W1.out I⟩
 | true=>
  cases V2 with
  | false=>
   go_wp2_with (first
    | (with_reducible refine cW (op:=⟨some 10,_,_,_,_,_⟩) i4 2 _ 0 X1 T.out.1 L1 ?_)
    | (go_at_call 36;with_reducible refine jR hV λw2 I=>?_
       have W:=bC<|cV W1.out I;have V:=bC<|bU T.out.2 I e;have cZ:=a4 _ W.out
       clear hV I)
    | (with_reducible refine cW (op:=⟨some 14,_,_,_,_,_⟩) i4 3 _ 0 X2 V.out L2 ?_)
    | (go_at_call 36;with_reducible refine jR cZ λw3 U=>?_))
   go_ret2;exact⟨rfl,cV W.out U⟩
  | true=>
   have a2:=a1.out rfl rfl;have az:=bC<|ay.out rfl rfl;have aJ:=bC<|a0.out rfl rfl;clear ay a0 a1
   go_upto_region 3 with(first
    | (with_reducible refine cW (op:=⟨some 10,_,_,_,_,_⟩) i4 2 _ 0 X1 T.out.1 L1 ?_)
    | (go_at_call 36;with_reducible refine jR hV λw2 I=>?_
       have W:=bC<|cV W1.out I;have V:=bC<|And.intro (bU T.out.1 I<|by exact lp e)<|bU T.out.2 I e;have an:=kw e I.size;have cZ:=a4 _ W.out
       clear hV I)
    | (with_reducible refine cW (op:=⟨some 14,_,_,_,_,_⟩) i4 3 _ 0 X2 V.out.2 L2 ?_)
    | (go_at_call 36;with_reducible refine jR cZ λw3 U=>?_))
   have Q:=bC<|cV W.out U;have R3:=bC<|And.intro (bU V.out.1 U<|by exact lp an)<|bU V.out.2 U an;have Z:=kw an U.size;clear cZ U V W1 W T e an;rw[<-aF.out,<-aG.out] at R3;obtain⟨a6,a7,a8,a9⟩:=EB R3.out.1 l1;obtain⟨b6,b7,b8,b9⟩:=EB R3.out.2 l2;have A6:=bC a6;have B6:=bC b6;have av:=a2 _ Q.out;clear a6 b6 R3 a2
   cases D with
   | false=>go_wp2_with fail;go_ret2;exact⟨rfl,Q.out⟩
   | true=>
    by_cases aA:f=H
    .by_cases hnc:g=L
     .cases G with
      | false=>
       go_wp2_with (first
        | (with_reducible refine cW (op:=⟨some 43,_,_,_,_,_⟩) eU 42 _ 0 g1 A6.out l1 ?_)
        | (with_reducible refine cW (op:=⟨some 45,_,_,_,_,_⟩) eU 44 _ 0 g2 B6.out l2 ?_)
        | (go_at_call 37;with_reducible refine jR av λw4 O=>?_))
       go_ret2;exact⟨by simp,cV Q.out O⟩
      | true=>
       subst aA hnc
       have jN:Hid (∀i,i<f->((Value.string (u i)::xs i).toArray.all (·.oneCell')=true)):=λi hi=>mh λa N=>by
        rcases lO.1 N with rfl | N
        .rfl
        exact aE i hi a N
       have ci:Hid (∀i,i<g->((gE (x i)<|s i).toArray.all (·.oneCell')=true)):=λi hi=>mh λa N=>by
        rcases mN.1 N with N | N
        .exact ox i hi a N
        rw[qx.1 N];rfl
       have aM:Hid (∀i,i<g->(gE (x i)<|s i).length=8):=λi hi=>(by simp[gE,lx i hi]);clear aE ox
       have ab:Hid (∀a b:Bool,ak=a->B=b->(Ending.returned (.tuple #[.bool<|a&&b,.int .i64 0]):Ending)=.returned (.tuple #[.bool<|true&&(true&&(true&&(decide (f=f)&&(decide (g=g)&&(true&&(ak&&B)))))),.int .i64 (if true&&true then 0 else 60)])):=λ_ _ h k=>by subst h k;simp
       go_wp2_with (first
        | (with_reducible refine cW (op:=⟨some 43,_,_,_,_,_⟩) eU 42 _ 0 g1 A6.out l1 ?_)
        | (with_reducible refine cW (op:=⟨some 45,_,_,_,_,_⟩) eU 44 _ 0 g2 B6.out l2 ?_)
        | (go_at_call 37;with_reducible refine jR av λw4 O=>?_
           have W4:=bC<|cV Q.out O;have ao:=kw Z O.size;have c8:=fg O (lp Z) a8;have d8:=fg O Z b8;have c9:=fg O (lp Z) a9;have d9:=fg O Z b9
           clear O av a7 a8 a9 b7 b8 b9 A6 B6 Z Q))
       go_loopw [52] (λi wr=>∃k:Nat,k<=f/\i=.int .i64 k/\Hid (∀j,j<k->((u j).toList==(v j).toList&&E j)=true)/\Below w4.1.size w4 wr) (λi _=>f - (intOf i).toNat)
       case atStart=>exact⟨0,kL _,rfl,λj hj=>by omega,kE _ _⟩
       case round=>
        obtain⟨k,hk,rfl,Y,K⟩:=hrel;have X:=cV W4.out K;have ap:=kw ao K.size;by_cases r:k<f
        .have am:(k:Int)<(f:Int):=(by omega);obtain⟨b,o,rfl,aw,ag⟩:=H1.out.resolve_left (by omega);obtain⟨m,q,rfl,aR,ah⟩:=H2.out.resolve_left (by omega);have e8:=fg K ao d8;have gx:Hid (wr.rangeAt b (o+k*9) (.string (u k)::xs k)):=bU (ag k r) X aw;have gy:Hid (wr.rangeAt m (q+k*9) (.string (v k)::ys k)):=bU (ah k r) X aR;have ai:=kw aR X.size;have au:=az.out k r r;have aa:=aN k r;have aj:=aO k r;have ok:=jN.out k r;have ac:Hid (((u k).toList==(v k).toList&&E k)=false->ak=false):=λh=>hA.out.symm.trans<|yK r h;have aq:Hid (((u k).toList==(v k).toList&&E k)=true->∀j,j<k+1->((u j).toList==(v j).toList&&E j)=true):=λh=>J4 Y.out h;clear ag ah;generalize u k=m1 at*;generalize v k=m2 at*;generalize E k=Ek at*;generalize xs k=l at*;generalize ys k=P at*;have aD:(Value.string m1::l).length=9:=by simp[aa]
         go_wp2_with (first
          | (with_reducible refine cW (op:=⟨some 56,_,_,_,_,_⟩) D7 55 b (o+k*9) (.string m1::l) gx.out aD ?_)
          | (with_reducible refine si (op:=⟨none,_,_,_,_,_⟩) D7 7 56 (.string m1::l) aD ok ?_))
         have A:Below wr.1.size wr (wr.alloc<|.cells (Value.string m1::l).toArray 85).drew:=(fH wr _).drew;have M:(λz:World=>z.cell? ⟨w.1.size+1,8,none⟩=some (.slice (some ⟨m,q,none⟩) f R)/\z.rangeAt wr.1.size 0 (.string m1::l)/\z.rangeAt m (q+k*9) (.string m2::P)) (wr.alloc<|.cells (Value.string m1::l).toArray 85).drew:=⟨fg A ap e8,oe wr (Value.string m1::l) 85,bU gy.out A ai⟩;have B2:=cV K A;have W6:=cV W4.out B2;have aK:=kw ap A.size;have hP:wr.1.size<(wr.alloc<|.cells (Value.string m1::l).toArray 85).drew.1.size:=(by simp);have ax:=kw ai A.size;clear A gx gy e8;generalize wr.alloc (.cells (Value.string m1::l).toArray 85)=wa at*;refine kN (S:=λz=>z.cell? ⟨w.1.size+1,8,none⟩=some (.slice (some ⟨m,q,none⟩) f R)/\z.rangeAt wr.1.size 0 (.string m1::l)/\z.rangeAt m (q+k*9) (.string m2::P)) (by kernel_rfl) M λd=>?_
         cases hq:m1.toList==m2.toList with
         | false=>obtain rfl:=ac.out (by rw[hq];rfl);refine tk 0 _ rfl d ?_;refine tk 1 (.string m1) rfl d ?_ (.inl ⟨by rfl,λz e=>by have h:=e.2.1 0 _ rfl;go_simp<;>with_reducible rfl⟩);refine tk 2 _ rfl d ?_;refine tk 3 _ rfl d ?_ (.inl ⟨by rfl,λz e=>by have h:=e.1;go_simp<;>with_reducible rfl⟩);refine tk 4 _ rfl d ?_;refine tk 5 _ rfl d ?_;refine tk 6 _ rfl d ?_;refine tk 7 (.string m2) rfl d ?_ (.inl ⟨by rfl,λz e=>by have h:=(show z.cell? ⟨m,q+k*9,none⟩=some (.string m2) from e.2.2 0 _ rfl);go_simp<;>with_reducible rfl⟩);refine tk 8 _ rfl d ?_;refine tk 9 _ rfl d ?_;refine tk 10 undef rfl d ?_ (.inr ⟨by rfl,rfl⟩);refine tk 11 undef rfl d ?_ (.inr ⟨by rfl,rfl⟩);refine tk 12 undef rfl d ?_ (.inr ⟨by rfl,rfl⟩);refine tk 13 undef rfl d ?_ (.inr ⟨by rfl,rfl⟩);refine tk 14 undef rfl d ?_ (.inr ⟨by rfl,rfl⟩);refine tk 15 undef rfl d ?_ (.inr ⟨by rfl,rfl⟩);refine tk 16 undef rfl d ?_ (.inr ⟨by rfl,rfl⟩);refine tk 17 undef rfl d ?_ (.inr ⟨by rfl,rfl⟩);refine tk 18 undef rfl d ?_ (.inr ⟨by rfl,rfl⟩);refine tk 19 undef rfl d ?_ (.inr ⟨by rfl,rfl⟩);refine tk 20 _ rfl d ?_;refine kV (by kernel_rfl) ?_ _;go_wp2_with fail;go_ret2;exact⟨ab.out _ _ rfl rfl,W6⟩
         | true=>
          refine tk 0 _ rfl d ?_;refine tk 1 (.string m1) rfl d ?_ (.inl ⟨by rfl,λz e=>by have h:=e.2.1 0 _ rfl;go_simp<;>with_reducible rfl⟩);refine tk 2 _ rfl d ?_;refine tk 3 _ rfl d ?_ (.inl ⟨by rfl,λz e=>by have h:=e.1;go_simp<;>with_reducible rfl⟩);refine tk 4 _ rfl d ?_;refine tk 5 _ rfl d ?_;refine tk 6 _ rfl d ?_;refine tk 7 (.string m2) rfl d ?_ (.inl ⟨by rfl,λz e=>by have h:=(show z.cell? ⟨m,q+k*9,none⟩=some (.string m2) from e.2.2 0 _ rfl);go_simp<;>with_reducible rfl⟩);refine tk 8 _ rfl d ?_;refine tk 9 _ rfl d ?_;refine tk 10 _ rfl d ?_;refine fE oG 11 67 wr.1.size 1 l aa rfl d (λz h=>(by simpa using Ey h.2.1)) ?_;refine tk 12 _ rfl d ?_;refine tk 13 _ rfl d ?_ (.inl ⟨by rfl,λz e=>by have h:=e.1;go_simp<;>with_reducible rfl⟩);refine tk 14 _ rfl d ?_;refine tk 15 _ rfl d ?_;refine tk 16 _ rfl d ?_;refine fE oG 17 73 m (q+k*9+1) P aj rfl d (λz h=>Ey h.2.2) ?_;refine dy 18 rfl λar hK=>?_;go_simp;refine jR (au _ W6) λw7 J=>?_;have S7:(λz:World=>z.cell? ⟨w.1.size+1,8,none⟩=some (.slice (some ⟨m,q,none⟩) f R)/\z.rangeAt wr.1.size 0 (.string m1::l)/\z.rangeAt m (q+k*9) (.string m2::P)) w7:=⟨fg J aK M.1,bU M.2.1 J hP,bU M.2.2 J ax⟩;refine hK.out _ _ S7 λd=>?_;have B7:=cV B2 J;clear hK ar S7 J
          cases Ek with
          | false=>obtain rfl:=ac.out (by simp);refine tk 19 _ rfl d ?_;refine tk 20 _ rfl d ?_;refine kV (by kernel_rfl) ?_ _;go_wp2_with fail;go_ret2;exact⟨ab.out _ _ rfl rfl,cV W4.out B7⟩
          | true=>
           refine tk 19 _ rfl d ?_;refine tk 20 _ rfl d ?_;refine kV (by kernel_rfl) ?_ _;go_wp2_with fail;go_roundw
           case rel=>exact⟨k+1,by omega,by go_num,aq.out<|by rw[hq];rfl,B7⟩
           case measure=>simp[intOf];omega
        obtain rfl:k=f:=(by omega);obtain rfl:ak=true:=hA.out.symm.trans<|J6 Y.out;have aP:=fg K (lp ao) c9;have aH:=fg K ao d9;clear Y az H1 H2;generalize aW:wr=w6 at*;go_wp2_with fail
        go_loopw [82] (λi wr=>∃k:Nat,k<=g/\i=.int .i64 k/\Hid (∀j,j<k->(s j==t j&&F j)=true)/\Below w6.1.size w6 wr) (λi _=>g - (intOf i).toNat)
        case atStart=>exact⟨0,kL _,rfl,λj hj=>by omega,kE _ _⟩
        case round=>
         obtain⟨k,hk,rfl,Y,K⟩:=hrel;have W8:=cV X K;have aB:=kw ap K.size;by_cases r:k<g
         .have am:(k:Int)<(g:Int):=(by omega);obtain⟨b,o,rfl,aw,ag⟩:=H3.out.resolve_left (by omega);obtain⟨m,q,rfl,aR,ah⟩:=H4.out.resolve_left (by omega);have e8:=fg K ap aH;have gx:Hid (wr.rangeAt b (o+k*8)<|gE (x k)<|s k):=bU (ag k r) W8 aw;have gy:Hid (wr.rangeAt m (q+k*8)<|gE (y k)<|t k):=bU (ah k r) W8 aR;have ai:=kw aR W8.size;have au:=aJ.out k r r;have aa:=lx k r;have aj:=ly k r;have ok:=ci.out k r;have aC:=aM.out k r;have ac:Hid ((s k==t k&&F k)=false->B=false):=λh=>hB.out.symm.trans<|yK r h;have aq:Hid ((s k==t k&&F k)=true->∀j,j<k+1->(s j==t j&&F j)=true):=λh=>J4 Y.out h;clear ag ah;generalize s k=sk at*;generalize t k=uk at*;generalize F k=Ek at*;generalize x k=l at*;generalize y k=P at*
          go_wp2_with (first
           | (with_reducible refine cW (op:=⟨some 86,_,_,_,_,_⟩) GA 85 b (o+k*8) (gE l sk) gx.out aC ?_)
           | (with_reducible refine si (op:=⟨none,_,_,_,_,_⟩) GA 9 86 (gE l sk) aC ok ?_))
          have A:Below wr.1.size wr (wr.alloc<|.cells (gE l sk).toArray 90).drew:=(fH wr _).drew;have M:(λz:World=>z.cell? ⟨w.1.size+1,9,none⟩=some (.slice (some ⟨m,q,none⟩) g cc2)/\z.rangeAt wr.1.size 0 (gE l sk)/\z.rangeAt m (q+k*8) (gE P uk)) (wr.alloc<|.cells (gE l sk).toArray 90).drew:=⟨fg A aB e8,oe wr (gE l sk) 90,bU gy.out A ai⟩;have B2:=cV K A;have W9:=cV X B2;have aL:=kw aB A.size;have hP:wr.1.size<(wr.alloc<|.cells (gE l sk).toArray 90).drew.1.size:=(by simp);have ax:=kw ai A.size;clear A gx gy e8;generalize wr.alloc (.cells (gE l sk).toArray 90)=wa at*;refine kN (S:=λz=>z.cell? ⟨w.1.size+1,9,none⟩=some (.slice (some ⟨m,q,none⟩) g cc2)/\z.rangeAt wr.1.size 0 (gE l sk)/\z.rangeAt m (q+k*8) (gE P uk)) (by kernel_rfl) M λd=>?_
          cases hq:sk==uk with
          | false=>obtain rfl:=ac.out (by rw[hq];rfl);refine tk 0 _ rfl d ?_;refine tk 1 (.bool sk) rfl d ?_ (.inl ⟨by rfl,λz e=>by have h:=(show z.cell? ⟨wr.1.size,7,none⟩=some (.bool sk) by simpa using zI e.2.1 aa);go_simp<;>with_reducible rfl⟩);refine tk 2 _ rfl d ?_;refine tk 3 _ rfl d ?_ (.inl ⟨by rfl,λz e=>by have h:=e.1;go_simp<;>with_reducible rfl⟩);refine tk 4 _ rfl d ?_;refine tk 5 _ rfl d ?_;refine tk 6 _ rfl d ?_;refine tk 7 (.bool uk) rfl d ?_ (.inl ⟨by rfl,λz e=>by have h:=zI e.2.2 aj;go_simp<;>with_reducible rfl⟩);refine tk 8 _ rfl d ?_;refine tk 9 _ rfl d ?_;refine tk 10 undef rfl d ?_ (.inr ⟨by rfl,rfl⟩);refine tk 11 undef rfl d ?_ (.inr ⟨by rfl,rfl⟩);refine tk 12 undef rfl d ?_ (.inr ⟨by rfl,rfl⟩);refine tk 13 undef rfl d ?_ (.inr ⟨by rfl,rfl⟩);refine tk 14 undef rfl d ?_ (.inr ⟨by rfl,rfl⟩);refine tk 15 undef rfl d ?_ (.inr ⟨by rfl,rfl⟩);refine tk 16 undef rfl d ?_ (.inr ⟨by rfl,rfl⟩);refine tk 17 undef rfl d ?_ (.inr ⟨by rfl,rfl⟩);refine tk 18 undef rfl d ?_ (.inr ⟨by rfl,rfl⟩);refine tk 19 undef rfl d ?_ (.inr ⟨by rfl,rfl⟩);refine tk 20 _ rfl d ?_;refine kV (by kernel_rfl) ?_ _;go_wp2_with fail;go_ret2;exact⟨ab.out true false rfl rfl,W9⟩
          | true=>
           refine tk 0 _ rfl d ?_;refine tk 1 (.bool sk) rfl d ?_ (.inl ⟨by rfl,λz e=>by have h:=(show z.cell? ⟨wr.1.size,7,none⟩=some (.bool sk) by simpa using zI e.2.1 aa);go_simp<;>with_reducible rfl⟩);refine tk 2 _ rfl d ?_;refine tk 3 _ rfl d ?_ (.inl ⟨by rfl,λz e=>by have h:=e.1;go_simp<;>with_reducible rfl⟩);refine tk 4 _ rfl d ?_;refine tk 5 _ rfl d ?_;refine tk 6 _ rfl d ?_;refine tk 7 (.bool uk) rfl d ?_ (.inl ⟨by rfl,λz e=>by have h:=zI e.2.2 aj;go_simp<;>with_reducible rfl⟩);refine tk 8 _ rfl d ?_;refine tk 9 _ rfl d ?_;refine tk 10 _ rfl d ?_;refine fE eU 11 97 wr.1.size 0 l aa rfl d (λz h=>DD h.2.1) ?_;refine tk 12 _ rfl d ?_;refine tk 13 _ rfl d ?_ (.inl ⟨by rfl,λz e=>by have h:=e.1;go_simp<;>with_reducible rfl⟩);refine tk 14 _ rfl d ?_;refine tk 15 _ rfl d ?_;refine tk 16 _ rfl d ?_;refine fE eU 17 103 m (q+k*8) P aj rfl d (λz h=>DD h.2.2) ?_;refine dy 18 rfl λar hK=>?_;go_simp;refine jR (au _ W9) λwx J=>?_;have S7:(λz:World=>z.cell? ⟨w.1.size+1,9,none⟩=some (.slice (some ⟨m,q,none⟩) g cc2)/\z.rangeAt wr.1.size 0 (gE l sk)/\z.rangeAt m (q+k*8) (gE P uk)) wx:=⟨fg J aL M.1,bU M.2.1 J hP,bU M.2.2 J ax⟩;refine hK.out _ _ S7 λd=>?_;have B7:=cV B2 J;clear hK ar S7 J
           cases Ek with
           | false=>obtain rfl:=ac.out (by simp);refine tk 19 _ rfl d ?_;refine tk 20 _ rfl d ?_;refine kV (by kernel_rfl) ?_ _;go_wp2_with fail;go_ret2;exact⟨ab.out true false rfl rfl,cV X B7⟩
           | true=>
            refine tk 19 _ rfl d ?_;refine tk 20 _ rfl d ?_;refine kV (by kernel_rfl) ?_ _;go_wp2_with fail;go_roundw
            case rel=>exact⟨k+1,by omega,by go_num,aq.out<|by rw[hq];rfl,B7⟩
            case measure=>simp[intOf];omega
         obtain rfl:k=g:=(by omega);obtain rfl:B=true:=hB.out.symm.trans<|J6 Y.out;go_wp2_with fail;go_ret2;exact⟨ab.out true true rfl rfl,W8⟩
     have ga:(f:Int)=(H:Int):=(by omega);have aV:¬(g:Int)=(L:Int):=(by omega);go_wp2_with fail;go_ret2;exact⟨by simp,Q.out⟩
    have ga:¬(f:Int)=(H:Int):=(by omega);go_wp2_with fail;go_ret2;exact⟨by simp,Q.out⟩
set_option maxRecDepth 100000 in
set_option maxHeartbeats 4000000 in
theorem Ui {k1 k2 c1 c2 p1 p2:List Value} {y:Int} {E T:Bool} (e1:X1=k1++c1++p1) (e2:X2=k2++c2++p2) (l1:k1.length=2) (l2:k2.length=2) (f:c1.length=10) (g:c2.length=10) (I:p1.length=21) (J:p2.length=21) (H:y=0\/y=60)
  (t:CA w 24 #[.agg c1.toArray,.agg c2.toArray] (.tuple #[.bool E,.int .i64 y]))
  (D:CA w 25 #[.agg p1.toArray,.agg p2.toArray] (.bool T)):
  bF w 10 #[.agg X1.toArray,.agg X2.toArray] (.bool<|decide (y=0)&&(E&&T)):=by
 have b:Hid (((w.alloc<|.cells X1.toArray 44).alloc<|.cells X2.toArray 44).rangeAt w.1.size 0 X1/\((w.alloc<|.cells X1.toArray 44).alloc<|.cells X2.toArray 44).rangeAt (w.1.size+1) 0 X2):=oI;have h:=bC e1;have i:=bC e2;clear e1 e2;go_enter func10,ntmps10;go_upto_region 1 with fail;generalize l:(w.alloc _).alloc _=u at*;have e:Below w.1.size w u:=by rw[<-l];exact dF _ _ _
 have K:w.1.size+2<=u.1.size:=by rw[<-l];simp
 clear l;have n:=iE b.out.1 _ _ h.out;have o:=iE b.out.2 _ _ i.out;have q:=iE b.out.1 (k1++c1) [] (by rw[h.out,mU]);have r:=iE b.out.2 (k2++c2) [] (by rw[i.out,mU]);rw[l1] at n;rw[l2] at o;rw[kY,l1,f] at q;rw[kY,l2,g] at r;have j:=bC n;have k:=bC o;have x:=bC q;have z:=bC r;clear n o q r b h i;have d:=t _ e;clear t
 rcases H with rfl | rfl
 .cases E with
  | true=>
   go_wp2_with (first
    | (with_reducible refine cW (op:=⟨some 9,_,_,_,_,_⟩) i4 8 _ 2 c1 j.out f ?_)
    | (with_reducible refine cW (op:=⟨some 11,_,_,_,_,_⟩) i4 10 _ 2 c2 k.out g ?_)
    | (go_at_call 24;with_reducible refine jR d λm a=>?_
       have s:Below w.1.size w m:=cV e a;have A:=bC (bU x.out a<|by omega);have B:=bC (bU z.out a<|by omega);have F:=D _ s
       clear a d)
    | (with_reducible refine cW (op:=⟨some 22,_,_,_,_,_⟩) jh 21 _ 12 p1 A.out I ?_)
    | (with_reducible refine cW (op:=⟨some 24,_,_,_,_,_⟩) jh 23 _ 12 p2 B.out J ?_)
    | (go_at_call 25;with_reducible refine jR F λL G=>?_))
   go_ret;exact⟨by simp,cV s G⟩
  | false=>
   go_wp2_with (first
    | (with_reducible refine cW (op:=⟨some 9,_,_,_,_,_⟩) i4 8 _ 2 c1 j.out f ?_)
    | (with_reducible refine cW (op:=⟨some 11,_,_,_,_,_⟩) i4 10 _ 2 c2 k.out g ?_)
    | (go_at_call 24;with_reducible refine jR d λm a=>?_))
   go_ret;exact⟨by simp,cV e a⟩
 go_wp2_with (first
  | (with_reducible refine cW (op:=⟨some 9,_,_,_,_,_⟩) i4 8 _ 2 c1 j.out f ?_)
  | (with_reducible refine cW (op:=⟨some 11,_,_,_,_,_⟩) i4 10 _ 2 c2 k.out g ?_)
  | (go_at_call 24;with_reducible refine jR d λm a=>?_))
 go_ret;exact⟨by simp,cV e a⟩
set_option maxRecDepth 100000 in
set_option maxHeartbeats 4000000 in
theorem Uj {k1 k2 c1 c2 p1 p2:List Value} {y:Int} {E T:Bool} (e1:X1=k1++c1++p1) (e2:X2=k2++c2++p2) (l1:k1.length=2) (l2:k2.length=2) (f:c1.length=10) (g:c2.length=10) (I:p1.length=21) (J:p2.length=21) (H:y=0\/y=60)
  (t:CA w 29 #[.agg c1.toArray,.agg c2.toArray] (.tuple #[.bool E,.int .i64 y]))
  (D:CA w 30 #[.agg p1.toArray,.agg p2.toArray] (.bool T)):
  bF w 16 #[.agg X1.toArray,.agg X2.toArray] (.bool<|decide (y=0)&&(E&&T)):=by
 have b:Hid (((w.alloc<|.cells X1.toArray 44).alloc<|.cells X2.toArray 44).rangeAt w.1.size 0 X1/\((w.alloc<|.cells X1.toArray 44).alloc<|.cells X2.toArray 44).rangeAt (w.1.size+1) 0 X2):=oI;have h:=bC e1;have i:=bC e2;clear e1 e2;go_enter func16,ntmps16;go_upto_region 1 with fail;generalize l:(w.alloc _).alloc _=u at*;have e:Below w.1.size w u:=by rw[<-l];exact dF _ _ _
 have K:w.1.size+2<=u.1.size:=by rw[<-l];simp
 clear l;have n:=iE b.out.1 _ _ h.out;have o:=iE b.out.2 _ _ i.out;have q:=iE b.out.1 (k1++c1) [] (by rw[h.out,mU]);have r:=iE b.out.2 (k2++c2) [] (by rw[i.out,mU]);rw[l1] at n;rw[l2] at o;rw[kY,l1,f] at q;rw[kY,l2,g] at r;have j:=bC n;have k:=bC o;have x:=bC q;have z:=bC r;clear n o q r b h i;have d:=t _ e;clear t
 rcases H with rfl | rfl
 .cases E with
  | true=>
   go_wp2_with (first
    | (with_reducible refine cW (op:=⟨some 9,_,_,_,_,_⟩) i4 8 _ 2 c1 j.out f ?_)
    | (with_reducible refine cW (op:=⟨some 11,_,_,_,_,_⟩) i4 10 _ 2 c2 k.out g ?_)
    | (go_at_call 29;with_reducible refine jR d λm a=>?_
       have s:Below w.1.size w m:=cV e a;have A:=bC (bU x.out a<|by omega);have B:=bC (bU z.out a<|by omega);have F:=D _ s
       clear a d)
    | (with_reducible refine cW (op:=⟨some 22,_,_,_,_,_⟩) jh 21 _ 12 p1 A.out I ?_)
    | (with_reducible refine cW (op:=⟨some 24,_,_,_,_,_⟩) jh 23 _ 12 p2 B.out J ?_)
    | (go_at_call 30;with_reducible refine jR F λL G=>?_))
   go_ret;exact⟨by simp,cV s G⟩
  | false=>
   go_wp2_with (first
    | (with_reducible refine cW (op:=⟨some 9,_,_,_,_,_⟩) i4 8 _ 2 c1 j.out f ?_)
    | (with_reducible refine cW (op:=⟨some 11,_,_,_,_,_⟩) i4 10 _ 2 c2 k.out g ?_)
    | (go_at_call 29;with_reducible refine jR d λm a=>?_))
   go_ret;exact⟨by simp,cV e a⟩
 go_wp2_with (first
  | (with_reducible refine cW (op:=⟨some 9,_,_,_,_,_⟩) i4 8 _ 2 c1 j.out f ?_)
  | (with_reducible refine cW (op:=⟨some 11,_,_,_,_,_⟩) i4 10 _ 2 c2 k.out g ?_)
  | (go_at_call 29;with_reducible refine jR d λm a=>?_))
 go_ret;exact⟨by simp,cV e a⟩
set_option maxRecDepth 100000 in
set_option maxHeartbeats 4000000 in
theorem Uk {V1 V2 B:Bool} (h:X1.length=10) (l:X2.length=10)
  (q:CA w 49 #[.agg X1.toArray] (.bool V1))
  (m:CA w 49 #[.agg X2.toArray] (.bool V2))
  (t:CA w 50 #[.agg X1.toArray,.agg X2.toArray] (.bool B)):
  bF w 29 #[.agg X1.toArray,.agg X2.toArray] (.tuple #[.bool<|V1&&(V2&&B),.int .i64 (if V1&&V2 then 0 else 60)]):=by
 have b:Hid (((w.alloc<|.cells X1.toArray 37).alloc<|.cells X2.toArray 37).rangeAt w.1.size 0 X1/\((w.alloc<|.cells X1.toArray 37).alloc<|.cells X2.toArray 37).rangeAt (w.1.size+1) 0 X2):=oI;have i:=bC<|dF w (.cells X1.toArray 37)<|.cells X2.toArray 37;have k:w.1.size+1<((w.alloc<|.cells X1.toArray 37).alloc<|.cells X2.toArray 37).1.size:=by simp
 have g:=q _ i.out;clear q;go_enter func29,ntmps29;go_upto_region 1 with fail;generalize (w.alloc _).alloc _=z at*
 cases V1 with
 | false=>
  go_wp2_with (first
   | (with_reducible refine cW (op:=⟨some 6,_,_,_,_,_⟩) i4 2 _ 0 X1 b.out.1 h ?_)
   | (go_at_call 49;with_reducible refine jR g λs a=>?_))
  go_ret2;exact⟨rfl,cV i.out a⟩
 | true=>
  cases V2 with
  | false=>
   go_wp2_with (first
    | (with_reducible refine cW (op:=⟨some 6,_,_,_,_,_⟩) i4 2 _ 0 X1 b.out.1 h ?_)
    | (go_at_call 49;with_reducible refine jR g λs a=>?_
       have f:=bC<|cV i.out a;have e:=bC<|bU b.out.2 a k;have j:=m _ f.out
       clear g a)
    | (with_reducible refine cW (op:=⟨some 10,_,_,_,_,_⟩) i4 3 _ 0 X2 e.out l ?_)
    | (go_at_call 49;with_reducible refine jR j λy d=>?_))
   go_ret2;exact⟨rfl,cV f.out d⟩
  | true=>
   go_wp2_with (first
    | (with_reducible refine cW (op:=⟨some 6,_,_,_,_,_⟩) i4 2 _ 0 X1 b.out.1 h ?_)
    | (go_at_call 49;with_reducible refine jR g λs a=>?_
       have f:=bC<|cV i.out a;have e:=bC<|And.intro (bU b.out.1 a<|by exact lp k)<|bU b.out.2 a k;have r:=kw k a.size;have j:=m _ f.out
       clear g a)
    | (with_reducible refine cW (op:=⟨some 10,_,_,_,_,_⟩) i4 3 _ 0 X2 e.out.2 l ?_)
    | (go_at_call 49;with_reducible refine jR j λy d=>?_
       have o:=bC<|cV f.out d;have n:=bC<|And.intro (bU e.out.1 d<|by exact lp r)<|bU e.out.2 d r;have u:=t _ o.out
       clear j d m)
    | (with_reducible refine cW (op:=⟨some 14,_,_,_,_,_⟩) i4 2 _ 0 X1 n.out.1 h ?_)
    | (with_reducible refine cW (op:=⟨some 15,_,_,_,_,_⟩) i4 3 _ 0 X2 n.out.2 l ?_)
    | (go_at_call 50;with_reducible refine jR u λA x=>?_))
   go_ret2;exact⟨rfl,cV o.out x⟩
set_option maxRecDepth 100000 in
theorem Ul (q1 q2:Option Addr) {n1 n2:Nat} (c1 c2:Nat) (h:¬n1=n2) (_a:n1<=1048576) (_b:n2<=1048576):bF w 76 #[.slice q1 n1 c1,.slice q2 n2 c2] (.bool false):=by
 have d:¬(n1:Int)=(n2:Int):=by omega
 go_enter func76,ntmps76;go_wp2_with fail;go_ret;exact⟨rfl,kE _ _⟩
structure Cl.Parts (C:Cl):Prop where
 lg:∀i,i<C.nb->(C.bs i).c.lg=false
 goal:uz C.goal=true
 co:∀i,i<C.nc->uz (C.cs i).x=true
theorem Cl.parts (h:C.vld=true):C.Parts:=by
 unfold Cl.vld DJ i5 at h;simp only[lL,mB] at h;obtain⟨⟨_,h2⟩,_,⟨h4,_⟩,h5⟩:=h;refine⟨λi hi=>?_,h4,λi hi=>?_⟩
 .have:=lj.1 h2 i<|kP.2 hi;unfold o0 at this;simp only[lL,pN] at this;exact this.2.2.1
 have:=lj.1 h5 i<|kP.2 hi;simp only[lL] at this;exact this.1
def Cl.eqv (C E:Cl):Bool:=C.st==E.st&&(decide (C.nb=E.nb)&&(decide (C.nc=E.nc)&&(C.goal.sm E.goal&&(((List.range C.nb).all λi=>(C.bs i).m.toList==(E.bs i).m.toList&&((C.bs i).c.ins (E.bs i).c&&(E.bs i).c.ins (C.bs i).c))&&(List.range C.nc).all λi=>(C.cs i).st==(E.cs i).st&&(C.cs i).x.sm (E.cs i).x))))
theorem Um {E:Cl} {D F:Cd} (h:ClOk w C D) (k:ClOk w E F) (m:Tb w):
  bF w 24 #[.agg (C.cells D).toArray,.agg (E.cells F).toArray] (.tuple #[.bool<|C.vld&&(E.vld&&C.eqv E),.int .i64 (if C.vld&&E.vld then 0 else 60)]):=by
 obtain⟨xs,x,h1,h2,h3,h4⟩:=h.rows;obtain⟨ys,y,k1,k2,o,q⟩:=k.rows;have lt:∀b,b<w.1.size->b<w.1.size:=λ_ h=>h
 have ex:∀(x y:Ex) (d e:Nd),ExOk w x d->ExOk w y e->uz x=true->uz y=true->CA w 37 #[.agg d.cells.toArray,.agg e.cells.toArray] (.bool<|x.sm y):=λx y d e a b r vy z f=>
  SE rfl rfl λs n=>TS (a.below<|cV f n) (b.below<|cV f n) (m.below<|cV f n) r vy
 refine Uh (g1:=D.d.cells) (g2:=F.d.cells) (V1:=C.vld) (V2:=E.vld) (G:=C.goal.sm E.goal) (λi=>(C.bs i).m) (λi=>(E.bs i).m) (λi=>(C.bs i).iv<|xs i) (λi=>(E.bs i).iv<|ys i) (λi=>(C.bs i).c.ins (E.bs i).c&&(E.bs i).c.ins (C.bs i).c) (λi=>(C.cs i).st) (λi=>(E.cs i).st) (λi=>(x i).cells) (λi=>(y i).cells) (λi=>(C.cs i).x.sm (E.cs i).x)
  h.2.1 k.2.1 h.2.2.1 k.2.2.1 rfl rfl (λ_ _=>rfl) (λ_ _=>rfl) (λ_ _=>rfl) (λ_ _=>rfl) (λi _ u hu=>Si.one (C.bs i) (xs i) u<|lM _ hu) (λi _ u hu=>Co.one ⟨(C.cs i).x,false⟩ (x i) u<|mP _ hu) h1 k1 h3 o
  (λz f=>NR (h.below f).v<|m.below f) (λz f=>NR (k.below f).v<|m.below f) (λj l z f=>ex _ _ _ _ (h.1.ok lt) (k.1.ok lt) (Cl.parts j).goal (Cl.parts l).goal z f)
  (λj l i hi g z f=>TT ((h2 i hi).below f) ((k2 i g).below f) ((Cl.parts j).lg i hi) ((Cl.parts l).lg i g)<|m.below f) (λj l i hi g z f=>ex _ _ _ _ (h4 i hi) (q i g) ((Cl.parts j).co i hi) ((Cl.parts l).co i g) z f)
theorem Un {E:Cl} {D F:Cd} (h:ClOk w C D) (k:ClOk w E F):
  bF w 29 #[.agg (C.cells D).toArray,.agg (E.cells F).toArray] (.tuple #[.bool<|C.vld&&(E.vld&&C.eqv E),.int .i64 (if C.vld&&E.vld then 0 else 60)]):=by
 have lt:∀z:World,∀b,b<z.1.size->b<z.1.size:=λ_ _ h=>h;refine Uk rfl rfl (λz l=>NS (h.below l).v) (λz l=>NS (k.below l).v) λz l=>?_;obtain⟨xs,x,h1,h2,h3,h4⟩:=(h.below l).rows;obtain⟨ys,y,k1,k2,A,B⟩:=(k.below l).rows
 have t:∀q,Below z.1.size z q->bF q 76 #[.slice D.bq C.nb D.bc,.slice F.bq E.nb F.bc] (.bool<|decide (C.nb=E.nb)&&(List.range C.nb).all λi=>(C.bs i).m.toList==(E.bs i).m.toList&&((C.bs i).c.ins (E.bs i).c&&(E.bs i).c.ins (C.bs i).c)):=λq j=>by
  by_cases m:C.nb=E.nb
  .rw[show decide (C.nb=E.nb)=true from lh m,pg];rw[<-m];refine SG (λi=>(C.bs i).m) (λi=>(E.bs i).m) (λi=>(C.bs i).iv<|xs i) (λi=>(E.bs i).iv<|ys i) (λi=>(C.bs i).c.ins (E.bs i).c&&(E.bs i).c.ins (C.bs i).c) h.2.1 (λ_ _=>rfl) (λ_ _=>rfl) ?_ ?_ (λi hi H s=>NX (((h2 i hi).below j).below s)<|((k2 i<|m ▸ hi).below j).below s)
   .exact h1.imp id λ⟨b,o,e,n,r⟩=>⟨b,o,e,kw n j.size,λi hi=>bU (r i hi) j n⟩
   rw[m];exact k1.imp id λ⟨b,o,e,n,r⟩=>⟨b,o,e,kw n j.size,λi hi=>bU (r i hi) j n⟩
  rw[show decide (C.nb=E.nb)=false from kQ m,r9];exact Ul _ _ _ _ m h.2.1 k.2.1
 have:=SK (cc1:=D.cc) (cc2:=F.cc) (g1:=D.d.cells) (g2:=F.d.cells) (st1:=C.st) (st2:=E.st) (G:=C.goal.sm E.goal) (λi=>(C.cs i).st) (λi=>(E.cs i).st) (λi=>(x i).cells) (λi=>(y i).cells) (λi=>(C.cs i).x.sm (E.cs i).x) h.2.2.1 k.2.2.1 rfl rfl (λ_ _=>rfl) (λ_ _=>rfl) h3 A (λq j=>NT _ _ _ _ _ (((h.below l).1.ok<|lt z).below j)<|((k.below l).1.ok<|lt z).below j) t (λi hi u q j=>NT _ _ _ _ _ ((h4 i hi).below j)<|(B i u).below j)
 have e:C.eqv E=(C.goal.sm E.goal&&(C.st==E.st&&((decide (C.nb=E.nb)&&(List.range C.nb).all λi=>(C.bs i).m.toList==(E.bs i).m.toList&&((C.bs i).c.ins (E.bs i).c&&(E.bs i).c.ins (C.bs i).c))&&(decide (C.nc=E.nc)&&(List.range C.nc).all λi=>(C.cs i).x.sm (E.cs i).x&&(C.cs i).st==(E.cs i).st)))):=by
  unfold Cl.eqv;rw[show (λi=>(C.cs i).st==(E.cs i).st&&(C.cs i).x.sm (E.cs i).x)=λi=>(C.cs i).x.sm (E.cs i).x&&(C.cs i).st==(E.cs i).st from funext λi=>Bool.and_comm _ _];generalize (List.range C.nb).all _=a;generalize (List.range C.nc).all _=b;generalize (C.st==E.st)=c;generalize C.goal.sm E.goal=d;generalize decide (C.nb=E.nb)=f;generalize decide (C.nc=E.nc)=g
  revert a b c d f g
  decide
 rw[e];exact this
