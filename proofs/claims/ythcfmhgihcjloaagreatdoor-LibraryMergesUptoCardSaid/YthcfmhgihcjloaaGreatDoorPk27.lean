import Derived.Test.YthcfmhgihcjloaaGreatDoorPk26
namespace Go.Proofs.YthcfmhgihcjloaaGreatDoor
open Go Go.RowKit Tryz
set_option maxRecDepth 100000
set_option maxHeartbeats 16000000
variable {w:World}
def uz (x:Ex):Bool:=(x.cnt 1 0).isSome
def DJ (nb:Nat) (bs:Nat->Si) (x:Ex):Bool:=uz x&&cov x nb bs
def Cl.vld (C:Cl):Bool:=i5 C.nb C.bs&&(decide (C.nc<=12)&&(DJ C.nb C.bs C.goal&&(List.range C.nc).all λi=>DJ C.nb C.bs (C.cs i).x))
theorem Hv {x:Ex} (h:uz x=true):∃a,x.cnt 1 0=some a:=by unfold uz at h;exact ql.1 h
theorem Hw {n:Nat} {P:Nat->Bool} {j:Nat} (a:j<n) (h:P j=false):(List.range n).all P=false:=by rw[lV];exact⟨j,kP.2 a,by rw[h];simp⟩
theorem NQ {n:Nat} {P:Nat->Bool} (h:∀j,j<n->P j=true):(List.range n).all P=true:=by rw[lj];exact λj a=>h j<|kP.1 a
theorem TJ {k f:Int} {ng st:Bool} {aq dq sq bq cq:Option Addr} {an ac dn dc sn sc nb bc nc cc:Nat} {m:ByteArray} {BX EV CV:Bool} {ks:Nat->Co} {EK CK:Nat->Bool}
  (ao:CA w 61 #[.slice bq nb bc] (.bool BX))
  (aw:CA w 62 #[.agg<|mA k f ng aq an ac dq dn dc m sq sn sc] (.bool EV))
  (au:EV=true->CA w 63 #[.agg<|mA k f ng aq an ac dq dn dc m sq sn sc,.slice bq nb bc] (.bool CV))
  (ar:nc=0\/∃b o,cq=some ⟨b,o,none⟩/\b<w.1.size/\∃a:Nat->Nd,∀i,i<nc->w.rangeAt b (o+i*8) ((ks i).cells<|a i)/\
    (CA w 62 #[(a i).val]<|.bool<|EK i)/\
    (EK i=true->CA w 63 #[(a i).val,.slice bq nb bc] (.bool<|CK i)))
  (hn:nc<=1048576):
  bF w 36 #[.agg<|mC k f ng aq an ac dq dn dc m sq sn sc st bq nb bc cq nc cc] (.bool<|BX&&(decide (nc<=12)&&((EV&&CV)&&(List.range nc).all λi=>EK i&&CK i))):=by
 have dw:=bC ao;have dP:=bC aw;have bV:=bC au
 have gw:Hid (nc=0\/∃b o,cq=some ⟨b,o,none⟩/\b<w.1.size/\∃a:Nat->Nd,∀i,i<nc->w.rangeAt b (o+i*8) ((ks i).cells<|a i)/\
  (CA w 62 #[(a i).val]<|.bool<|EK i)/\
  (EK i=true->CA w 63 #[(a i).val,.slice bq nb bc] (.bool<|CK i))):=ar
 have Q:Hid (Below w.1.size w<|w.alloc<|.cells (mC k f ng aq an ac dq dn dc m sq sn sc st bq nb bc cq nc cc) 37):=cU w _;have r:w.1.size<(w.alloc<|.cells (mC k f ng aq an ac dq dn dc m sq sn sc st bq nb bc cq nc cc) 37).1.size:=by simp
 clear ao aw au ar;obtain⟨t,u,x,y,z,A,B,C,D,F⟩:=Fb w (mC k f ng aq an ac dq dn dc m sq sn sc st bq nb bc cq nc cc) 37;have W:=dw.out _ Q.out;go_enter func36,ntmps36
 cases BX with
 | false=>go_wp2_with (go_at_call 61;with_reducible refine jR W λh ay=>?_);go_ret;exact⟨by simp,cV Q.out ay⟩
 | true=>
  by_cases al:nc<=12
  .have gz:¬((nc:Int) > 12):=(by omega);rw[lh al]
   cases EV with
   | false=>
    go_wp2_with (first
     | (go_at_call 61;with_reducible refine jR W λh e=>?_
        have l:Hid (Below w.1.size w h):=cV Q.out e;have G:w.1.size<h.1.size:=kw r e.size;obtain⟨a0,H,I,J,K,L,M,N,O,P⟩:=il e r ⟨t,u,x,y,z,A,B,C,D,F⟩;have X:=dP.out h l.out
        clear e t u x y z A B C D F)
     | (go_at_call 62;with_reducible refine jR X λs az=>?_))
    go_ret;exact⟨by simp,cV l.out az⟩
   | true=>
    cases CV with
    | false=>
     go_wp2_with (first
      | (go_at_call 61;with_reducible refine jR W λh e=>?_
         have l:Hid (Below w.1.size w h):=cV Q.out e;have G:w.1.size<h.1.size:=kw r e.size;obtain⟨a0,H,I,J,K,L,M,N,O,P⟩:=il e r ⟨t,u,x,y,z,A,B,C,D,F⟩;have X:=dP.out h l.out
         clear e t u x y z A B C D F)
      | (go_at_call 62;with_reducible refine jR X λs q=>?_
         have V:Hid (Below w.1.size w s):=cV l.out q;have ae:w.1.size<s.1.size:=kw G q.size;obtain⟨c0,c1,c2,c3,c4,c5,c6,c7,c8,c9⟩:=il q G ⟨a0,H,I,J,K,L,M,N,O,P⟩;have dQ:=bV.out (by simp) s V.out
         clear q a0 H I J K L M N O P)
      | (go_at_call 63;with_reducible refine jR dQ λZ a'=>?_))
     go_ret;exact⟨by simp,cV V.out a'⟩
    | true=>
     go_upto_region 3 with(first
      | (go_at_call 61;with_reducible refine jR W λh e=>?_
         have l:Hid (Below w.1.size w h):=cV Q.out e;have G:w.1.size<h.1.size:=kw r e.size;obtain⟨a0,H,I,J,K,L,M,N,O,P⟩:=il e r ⟨t,u,x,y,z,A,B,C,D,F⟩;have X:=dP.out h l.out
         clear e t u x y z A B C D F)
      | (go_at_call 62;with_reducible refine jR X λs q=>?_
         have V:Hid (Below w.1.size w s):=cV l.out q;have ae:w.1.size<s.1.size:=kw G q.size;obtain⟨c0,c1,c2,c3,c4,c5,c6,c7,c8,c9⟩:=il q G ⟨a0,H,I,J,K,L,M,N,O,P⟩;have dQ:=bV.out (by simp) s V.out
         clear q a0 H I J K L M N O P)
      | (go_at_call 63;with_reducible refine jR dQ λZ bG=>?_
         have ai:Hid (Below w.1.size w Z):=cV V.out bG;have aj:w.1.size<Z.1.size:=kw ae bG.size;obtain⟨p0,p1,p2,p3,p4,p5,p6,p7,p8,p9⟩:=il bG ae ⟨c0,c1,c2,c3,c4,c5,c6,c7,c8,c9⟩
         clear bG c0 c1 c2 c3 c4 c5 c6 c7 c8 c9))
     clear dw dP bV Q;go_wp2_with fail
     go_loopw [32] (λi wr=>∃j:Nat,j<=nc/\i=.int .i64 j/\Hid (∀i,i<j->(EK i&&CK i)=true)/\Hid (Below Z.1.size Z wr)) (λi _=>nc - (intOf i).toNat)
     case atStart=>exact⟨0,kL _,rfl,λj hj=>by omega,kE _ _⟩
     case round=>
      obtain⟨j,hj,rfl,aI,T⟩:=hrel;by_cases ag:j<nc
      .have am:(j:Int)<(nc:Int):=(by omega);obtain⟨b,o,rfl,aA,a,av⟩:=gw.out.resolve_left (by omega);have hW:Hid (Below w.1.size w wr):=cV ai.out T.out;obtain⟨hr,he,hc⟩:=av j ag;have hr:=bU hr hW.out aA;obtain⟨x0,x1,x2,x3,x4,x5,x6,x7⟩:=BI hr;have ax:=fg T.out aj p8;have ad:Below wr.1.size wr (wr.alloc<|.cells #[.int .i64 (a j).k,.int .i64 (a j).f,.bool (a j).neg,.slice (a j).aq (a j).an (a j).ac,.slice (a j).cq (a j).cn (a j).cc,.string (a j).m,.slice (a j).sq (a j).sn (a j).sc,.bool (ks j).st] 90):=cU wr _;have ab:=bC<|cV hW.out ad;have g:wr.1.size<(wr.alloc<|.cells #[.int .i64 (a j).k,.int .i64 (a j).f,.bool (a j).neg,.slice (a j).aq (a j).an (a j).ac,.slice (a j).cq (a j).cn (a j).cc,.string (a j).m,.slice (a j).sq (a j).sn (a j).sc,.bool (ks j).st] 90).1.size:=(by simp);have Y:=he _ ab.out;have ap:=bC hc;obtain⟨E,n⟩:∃E,EK j=E:=⟨_,rfl⟩;have n:Hid (EK j=E):=n;rw[n.out] at Y;have ah:w.1.size<wr.1.size:=kw aj T.out.size;have q8:=fg ad ah ax;clear hc he hr av ax;simp only[Nd.val] at Y
       cases E with
       | false=>go_wp2_with (go_at_call 62;with_reducible refine jR Y λU d=>?_);go_ret;exact⟨by rw[Hw ag<|by rw[n.out];rfl];simp,cV ab.out d⟩
       | true=>
        obtain⟨aa,S⟩:∃aa,CK j=aa:=⟨_,rfl⟩;have S:Hid (CK j=aa):=S
        cases aa with
        | false=>
         go_wp2_with (first
          | (go_at_call 62;with_reducible refine jR Y λU d=>?_
             have B4:Hid (Below w.1.size w U):=cV ab.out d
             have R:=ap.out (by first | exact n.out | simp[n.out]) U B4.out
             rw[S.out] at R;simp only[Nd.val] at R;have r8:=(d.cell (p:=⟨w.1.size,8,none⟩)<|by show w.1.size<_;exact nH ah g).trans q8;have z0:=(d.cell (p:=⟨wr.1.size,0,none⟩) g).trans (by simp:_=some (.int .i64 (a j).k));have z1:=(d.cell (p:=⟨wr.1.size,1,none⟩) g).trans (by simp:_=some (.int .i64 (a j).f));have z2:=(d.cell (p:=⟨wr.1.size,2,none⟩) g).trans (by simp:_=some (.bool (a j).neg));have z3:=(d.cell (p:=⟨wr.1.size,3,none⟩) g).trans (by simp:_=some (.slice (a j).aq (a j).an (a j).ac));have z4:=(d.cell (p:=⟨wr.1.size,4,none⟩) g).trans (by simp:_=some (.slice (a j).cq (a j).cn (a j).cc));have z5:=(d.cell (p:=⟨wr.1.size,5,none⟩) g).trans (by simp:_=some (.string (a j).m));have z6:=(d.cell (p:=⟨wr.1.size,6,none⟩) g).trans (by simp:_=some (.slice (a j).sq (a j).sn (a j).sc));have z7:=(d.cell (p:=⟨wr.1.size,7,none⟩) g).trans (by simp:_=some (.bool (ks j).st))
             clear x0 x1 x2 x3 x4 x5 x6 x7)
          | (go_at_call 63;with_reducible refine jR R λw5 af=>?_))
         go_ret;exact⟨by rw[Hw ag<|by rw[n.out,S.out];rfl];simp,cV B4.out af⟩
        | true=>
         go_wp2_with (first
          | (go_at_call 62;with_reducible refine jR Y λU d=>?_
             have B4:Hid (Below w.1.size w U):=cV ab.out d
             have R:=ap.out (by first | exact n.out | simp[n.out]) U B4.out
             rw[S.out] at R;simp only[Nd.val] at R;have r8:=(d.cell (p:=⟨w.1.size,8,none⟩)<|by show w.1.size<_;exact nH ah g).trans q8;have z0:=(d.cell (p:=⟨wr.1.size,0,none⟩) g).trans (by simp:_=some (.int .i64 (a j).k));have z1:=(d.cell (p:=⟨wr.1.size,1,none⟩) g).trans (by simp:_=some (.int .i64 (a j).f));have z2:=(d.cell (p:=⟨wr.1.size,2,none⟩) g).trans (by simp:_=some (.bool (a j).neg));have z3:=(d.cell (p:=⟨wr.1.size,3,none⟩) g).trans (by simp:_=some (.slice (a j).aq (a j).an (a j).ac));have z4:=(d.cell (p:=⟨wr.1.size,4,none⟩) g).trans (by simp:_=some (.slice (a j).cq (a j).cn (a j).cc));have z5:=(d.cell (p:=⟨wr.1.size,5,none⟩) g).trans (by simp:_=some (.string (a j).m));have z6:=(d.cell (p:=⟨wr.1.size,6,none⟩) g).trans (by simp:_=some (.slice (a j).sq (a j).sn (a j).sc));have z7:=(d.cell (p:=⟨wr.1.size,7,none⟩) g).trans (by simp:_=some (.bool (ks j).st))
             clear x0 x1 x2 x3 x4 x5 x6 x7)
          | (go_at_call 63;with_reducible refine jR R λw5 af=>?_))
         go_roundw
         case rel=>
          refine⟨j+1,by omega,by go_num,λi hi=>?_,T.out.trans<|(ad.trans<|(cV d af).mono ad.size).mono T.out.size⟩
          rcases kS i j with ak | ak
          .exact aI.out i ak
          obtain rfl:i=j:=(by omega);rw[n.out,S.out];rfl
         case measure=>simp[intOf];omega
      obtain rfl:j=nc:=(by omega);go_wp2_with fail;go_ret;exact⟨by rw[NQ aI.out];rfl,cV ai.out T.out⟩
  have gz:(nc:Int) > 12:=(by omega);rw[kQ al]
  go_wp2_with (go_at_call 61;with_reducible refine jR W λh e=>?_
               have l:Hid (Below w.1.size w h):=cV Q.out e;have G:w.1.size<h.1.size:=kw r e.size;obtain⟨a0,H,I,J,K,L,M,N,O,P⟩:=il e r ⟨t,u,x,y,z,A,B,C,D,F⟩
               clear e t u x y z A B C D F)
  go_ret;exact⟨by simp,l.out⟩
abbrev zf (w:World) (k:Int) (f:Int) (ng:Bool) (aq:Option Addr) (an:Nat) (ac:Nat) (dq:Option Addr) (dn:Nat) (dc:Nat) (m:ByteArray) (sq:Option Addr) (sn:Nat) (sc:Nat) (st:Bool) (bq:Option Addr) (nb:Nat) (bc:Nat) (b:Nat) (o:Nat) (nc:Nat) (cc:Nat) (j:Nat) (ds:Nat->Nd):World->Prop:=λz=>BlkI z w.1.size 37 (mC k f ng aq an ac dq dn dc m sq sn sc st bq nb bc (some ⟨b,o,none⟩) nc cc)/\NdAt z b (o+j*8) (ds j)
theorem TK {k f:Int} {ng st:Bool} {aq dq sq bq cq:Option Addr} {an ac dn dc sn sc nb bc nc cc:Nat} {m:ByteArray} {BX EV CV:Bool} {ks:Nat->Co} {EK CK:Nat->Bool}
  (aA:CA w 73 #[.slice bq nb bc] (.bool BX))
  (aG:CA w 72 #[.agg<|mA k f ng aq an ac dq dn dc m sq sn sc] (.bool EV))
  (aE:EV=true->CA w 74 #[.agg<|mA k f ng aq an ac dq dn dc m sq sn sc,.slice bq nb bc] (.bool CV))
  (aD:nc=0\/∃b o,cq=some ⟨b,o,none⟩/\b<w.1.size/\∃d:Nat->Nd,∀i,i<nc->w.rangeAt b (o+i*8) ((ks i).cells<|d i)/\
    (CA w 72 #[(d i).val]<|.bool<|EK i)/\
    (EK i=true->CA w 74 #[(d i).val,.slice bq nb bc] (.bool<|CK i)))
  (hn:nc<=1048576):
  bF w 49 #[.agg<|mC k f ng aq an ac dq dn dc m sq sn sc st bq nb bc cq nc cc] (.bool<|BX&&(decide (nc<=12)&&((EV&&CV)&&(List.range nc).all λi=>EK i&&CK i))):=by
 have dw:=bC aA;have dP:=bC aG;have bV:=bC aE
 have gw:Hid (nc=0\/∃b o,cq=some ⟨b,o,none⟩/\b<w.1.size/\∃d:Nat->Nd,∀i,i<nc->w.rangeAt b (o+i*8) ((ks i).cells<|d i)/\
  (CA w 72 #[(d i).val]<|.bool<|EK i)/\
  (EK i=true->CA w 74 #[(d i).val,.slice bq nb bc] (.bool<|CK i))):=aD
 have ab:Hid (Below w.1.size w<|w.alloc<|.cells (mC k f ng aq an ac dq dn dc m sq sn sc st bq nb bc cq nc cc) 37):=cU w _;have Q:w.1.size<(w.alloc<|.cells (mC k f ng aq an ac dq dn dc m sq sn sc st bq nb bc cq nc cc) 37).1.size:=by simp
 clear aA aG aE aD;obtain⟨R,T,U,V,W,X,Y,Z,y8,P⟩:=Fb w (mC k f ng aq an ac dq dn dc m sq sn sc st bq nb bc cq nc cc) 37;have cK:=dP.out _ ab.out;go_enter func49,ntmps49
 cases EV with
 | false=>go_wp2_with (go_at_call 72;with_reducible refine jR cK λn aJ=>?_);go_ret;exact⟨by simp,cV ab.out aJ⟩
 | true=>
  cases BX with
  | false=>
   go_wp2_with (first
    | (go_at_call 72;with_reducible refine jR cK λn l=>?_
       have t:Hid (Below w.1.size w n):=cV ab.out l;have C:w.1.size<n.1.size:=kw Q l.size;obtain⟨a0,D,F,G,H,I,J,L,M,N⟩:=il l Q ⟨R,T,U,V,W,X,Y,Z,y8,P⟩;have bW:=dw.out n t.out
       clear l R T U V W X Y Z y8 P)
    | (go_at_call 73;with_reducible refine jR bW λu aK=>?_))
   go_ret;exact⟨by simp,cV t.out aK⟩
  | true=>
   by_cases ax:nc<=12
   .have gz:¬((nc:Int) > 12):=(by omega);rw[lh ax]
    cases CV with
    | false=>
     go_wp2_with (first
      | (go_at_call 72;with_reducible refine jR cK λn l=>?_
         have t:Hid (Below w.1.size w n):=cV ab.out l;have C:w.1.size<n.1.size:=kw Q l.size;obtain⟨a0,D,F,G,H,I,J,L,M,N⟩:=il l Q ⟨R,T,U,V,W,X,Y,Z,y8,P⟩;have bW:=dw.out n t.out
         clear l R T U V W X Y Z y8 P)
      | (go_at_call 73;with_reducible refine jR bW λu q=>?_
         have aa:Hid (Below w.1.size w u):=cV t.out q;have ao:w.1.size<u.1.size:=kw C q.size;obtain⟨c0,c1,c2,c3,c4,c5,c6,c7,c8,c9⟩:=il q C ⟨a0,D,F,G,H,I,J,L,M,N⟩;have dQ:=bV.out (by simp) u aa.out
         clear q a0 D F G H I J L M N)
      | (go_at_call 74;with_reducible refine jR dQ λw3 aL=>?_))
     go_ret;exact⟨by simp,cV aa.out aL⟩
    | true=>
     have ay:Hid (BlkI (w.alloc<|.cells (mC k f ng aq an ac dq dn dc m sq sn sc st bq nb bc cq nc cc) 37) w.1.size 37<|mC k f ng aq an ac dq dn dc m sq sn sc st bq nb bc cq nc cc):=lK _ _
     go_upto_region 3 with(first
      | (go_at_call 72;with_reducible refine jR cK λn l=>?_
         have t:Hid (Below w.1.size w n):=cV ab.out l;have C:w.1.size<n.1.size:=kw Q l.size;obtain⟨a0,D,F,G,H,I,J,L,M,N⟩:=il l Q ⟨R,T,U,V,W,X,Y,Z,y8,P⟩;have bW:=dw.out n t.out;have az:=bC<|ay.out.below l
         clear l R T U V W X Y Z y8 P)
      | (go_at_call 73;with_reducible refine jR bW λu q=>?_
         have aa:Hid (Below w.1.size w u):=cV t.out q;have ao:w.1.size<u.1.size:=kw C q.size;obtain⟨c0,c1,c2,c3,c4,c5,c6,c7,c8,c9⟩:=il q C ⟨a0,D,F,G,H,I,J,L,M,N⟩;have dQ:=bV.out (by simp) u aa.out;have a':=bC<|az.out.below q
         clear q a0 D F G H I J L M N)
      | (go_at_call 74;with_reducible refine jR dQ λw3 bG=>?_
         have av:Hid (Below w.1.size w w3):=cV aa.out bG;have aO:w.1.size<w3.1.size:=kw ao bG.size;obtain⟨p0,p1,p2,p3,p4,p5,p6,p7,p8,p9⟩:=il bG ao ⟨c0,c1,c2,c3,c4,c5,c6,c7,c8,c9⟩;have aH:=bC<|a'.out.below bG
         clear bG c0 c1 c2 c3 c4 c5 c6 c7 c8 c9))
     clear dw dP bV ab p0 p1 p2 p3 p4 p5 p6 p7 p8 p9 ay az a';go_wp2_with fail
     go_loopw [3] (λi wr=>∃j:Nat,j<=nc/\i=.int .i64 j/\Hid (∀i,i<j->(EK i&&CK i)=true)/\Hid (Below w3.1.size w3 wr)) (λi _=>nc - (intOf i).toNat)
     case atStart=>exact⟨0,kL _,rfl,λj hj=>by omega,kE _ _⟩
     case round=>
      obtain⟨j,hj,rfl,aI,ak⟩:=hrel;have B:=aH.out.below ak.out;have P:wr.cell? ⟨w.1.size,9,none⟩=some (.slice cq nc cc):=B.cell 9;by_cases au:j<nc
      .have am:(j:Int)<(nc:Int):=(by omega);have aP:¬nc<=j:=(by omega);obtain⟨b,o,rfl,aN,d,aF⟩:=gw.out.resolve_left (by omega);have hW:Hid (Below w.1.size w wr):=cV av.out ak.out;have aj:Hid (Below w.1.size w wr.drew):=hW.out.drew;have aQ:w.1.size<=wr.1.size:=hW.out.size;obtain⟨y,he,hc⟩:=aF j au;have y:=bU y aj.out aN;have ag:NdAt wr.drew b (o+j*8) (d j):=⟨by simpa using y 0 _ rfl,by simpa using y 1 _ rfl,by simpa using y 2 _ rfl,by simpa using y 3 _ rfl,by simpa using y 4 _ rfl,by simpa using y 5 _ rfl,by simpa using y 6 _ rfl⟩;have B:BlkI wr.drew w.1.size 37 (mC k f ng aq an ac dq dn dc m sq sn sc st bq nb bc (some ⟨b,o,none⟩) nc cc):=B;have al:=he _ aj.out;have aC:=bC hc;obtain⟨E,x⟩:∃E,EK j=E:=⟨_,rfl⟩;have x:Hid (EK j=E):=x;rw[x.out] at al;clear hc he y aF;simp only[Nd.val] at al
       cases E with
       | false=>
        go_upto_region 6 with fail;have ah:(zf w k f ng aq an ac dq dn dc m sq sn sc st bq nb bc b o nc cc j d) wr.drew:=⟨B,ag⟩;refine kN (S:=(zf w k f ng aq an ac dq dn dc m sq sn sc st bq nb bc b o nc cc j d)) (by kernel_rfl) ah λg=>?_;refine tk 0 _ rfl g ?_;refine tk 1 (.slice (some ⟨b,o,none⟩) nc cc) rfl g ?_ (.inl ⟨by rfl,λz h=>by(have h9:=h.1.cell 9;go_simp)⟩);refine tk 2 _ rfl g ?_;refine tk 3 _ rfl g ?_;refine tk 4 _ rfl g ?_;refine tk 5 (.agg<|nA<|d j) rfl g ?_ (.inl ⟨by rfl,λz h=>by(obtain⟨h0,h1,h2,h3,h4,h5,h6⟩:=h.2;go_simp)⟩);refine dy 6 rfl (λK r=>?_);go_simp
        with_reducible refine al.mono ?_
        rintro e A ⟨rfl,s⟩;have B4:Hid (Below w.1.size w A):=cV aj.out s;have O:(zf w k f ng aq an ac dq dn dc m sq sn sc st bq nb bc b o nc cc j d) A:=⟨B.below s,ag.below s<|by show b<wr.1.size;omega⟩;refine r.out _ _ O λa=>?_;clear r K g
        try simp only[pz]
        refine tk 7 _ rfl a ?_;refine tk 8 _ rfl a ?_;refine sk 9 rfl a ?_;refine sk 10 rfl a ?_;refine sk 11 rfl a ?_;refine sk 12 rfl a ?_;refine sk 13 rfl a ?_;refine sk 14 rfl a ?_;refine sk 15 rfl a ?_;refine sk 16 rfl a ?_;refine sk 17 rfl a ?_;refine sk 18 rfl a ?_;refine tk 19 _ rfl a ?_;refine kV (by kernel_rfl) ?_ _;go_wp2_with fail;go_ret;exact⟨by rw[Hw au<|by rw[x.out];rfl];simp,B4.out⟩
       | true=>
        obtain⟨ap,hV⟩:∃ap,CK j=ap:=⟨_,rfl⟩;have hV:Hid (CK j=ap):=hV
        cases ap with
        | false=>
         go_upto_region 6 with fail;have ah:(zf w k f ng aq an ac dq dn dc m sq sn sc st bq nb bc b o nc cc j d) wr.drew:=⟨B,ag⟩;refine kN (S:=(zf w k f ng aq an ac dq dn dc m sq sn sc st bq nb bc b o nc cc j d)) (by kernel_rfl) ah λg=>?_;refine tk 0 _ rfl g ?_;refine tk 1 (.slice (some ⟨b,o,none⟩) nc cc) rfl g ?_ (.inl ⟨by rfl,λz h=>by(have h9:=h.1.cell 9;go_simp)⟩);refine tk 2 _ rfl g ?_;refine tk 3 _ rfl g ?_;refine tk 4 _ rfl g ?_;refine tk 5 (.agg<|nA<|d j) rfl g ?_ (.inl ⟨by rfl,λz h=>by(obtain⟨h0,h1,h2,h3,h4,h5,h6⟩:=h.2;go_simp)⟩);refine dy 6 rfl (λK r=>?_);go_simp
         with_reducible refine al.mono ?_
         rintro e A ⟨rfl,s⟩;have B4:Hid (Below w.1.size w A):=cV aj.out s;have O:(zf w k f ng aq an ac dq dn dc m sq sn sc st bq nb bc b o nc cc j d) A:=⟨B.below s,ag.below s<|by show b<wr.1.size;omega⟩;refine r.out _ _ O λa=>?_;clear r K g
         try simp only[pz]
         refine tk 7 _ rfl a ?_;refine tk 8 _ rfl a ?_;refine tk 9 _ rfl a ?_;refine tk 10 (.slice (some ⟨b,o,none⟩) nc cc) rfl a ?_ (.inl ⟨by rfl,λz h=>by(have h9:=h.1.cell 9;go_simp)⟩);refine tk 11 _ rfl a ?_;refine tk 12 _ rfl a ?_;refine tk 13 _ rfl a ?_;refine tk 14 (.agg<|nA<|d j) rfl a ?_ (.inl ⟨by rfl,λz h=>by(obtain⟨h0,h1,h2,h3,h4,h5,h6⟩:=h.2;go_simp)⟩);refine tk 15 _ rfl a ?_;refine tk 16 (.slice bq nb bc) rfl a ?_ (.inl ⟨by rfl,λz h=>by(have h8:=h.1.cell 8;go_simp)⟩)
         have af:=aC.out (by first | exact x.out | simp[x.out]) A B4.out
         rw[hV.out] at af;simp only[Nd.val] at af;refine dy 17 rfl (λK r=>?_);go_simp
         with_reducible refine af.mono ?_
         rintro e w5 ⟨rfl,ad⟩;have ar:(zf w k f ng aq an ac dq dn dc m sq sn sc st bq nb bc b o nc cc j d) w5:=⟨O.1.below ad,O.2.below ad<|kw (by show b<wr.1.size;omega) s.size⟩;refine r.out _ _ ar λaX=>?_;clear r K a
         try simp only[pz]
         refine tk 18 _ rfl aX ?_;refine tk 19 _ rfl aX ?_;refine kV (by kernel_rfl) ?_ _;go_wp2_with fail;go_ret;exact⟨by rw[Hw au<|by rw[x.out,hV.out];rfl];simp,cV B4.out ad⟩
        | true=>
         go_upto_region 6 with fail;have ah:(zf w k f ng aq an ac dq dn dc m sq sn sc st bq nb bc b o nc cc j d) wr.drew:=⟨B,ag⟩;refine kN (S:=(zf w k f ng aq an ac dq dn dc m sq sn sc st bq nb bc b o nc cc j d)) (by kernel_rfl) ah λg=>?_;refine tk 0 _ rfl g ?_;refine tk 1 (.slice (some ⟨b,o,none⟩) nc cc) rfl g ?_ (.inl ⟨by rfl,λz h=>by(have h9:=h.1.cell 9;go_simp)⟩);refine tk 2 _ rfl g ?_;refine tk 3 _ rfl g ?_;refine tk 4 _ rfl g ?_;refine tk 5 (.agg<|nA<|d j) rfl g ?_ (.inl ⟨by rfl,λz h=>by(obtain⟨h0,h1,h2,h3,h4,h5,h6⟩:=h.2;go_simp)⟩);refine dy 6 rfl (λK r=>?_);go_simp
         with_reducible refine al.mono ?_
         rintro e A ⟨rfl,s⟩;have B4:Hid (Below w.1.size w A):=cV aj.out s;have O:(zf w k f ng aq an ac dq dn dc m sq sn sc st bq nb bc b o nc cc j d) A:=⟨B.below s,ag.below s<|by show b<wr.1.size;omega⟩;refine r.out _ _ O λa=>?_;clear r K g
         try simp only[pz]
         refine tk 7 _ rfl a ?_;refine tk 8 _ rfl a ?_;refine tk 9 _ rfl a ?_;refine tk 10 (.slice (some ⟨b,o,none⟩) nc cc) rfl a ?_ (.inl ⟨by rfl,λz h=>by(have h9:=h.1.cell 9;go_simp)⟩);refine tk 11 _ rfl a ?_;refine tk 12 _ rfl a ?_;refine tk 13 _ rfl a ?_;refine tk 14 (.agg<|nA<|d j) rfl a ?_ (.inl ⟨by rfl,λz h=>by(obtain⟨h0,h1,h2,h3,h4,h5,h6⟩:=h.2;go_simp)⟩);refine tk 15 _ rfl a ?_;refine tk 16 (.slice bq nb bc) rfl a ?_ (.inl ⟨by rfl,λz h=>by(have h8:=h.1.cell 8;go_simp)⟩)
         have af:=aC.out (by first | exact x.out | simp[x.out]) A B4.out
         rw[hV.out] at af;simp only[Nd.val] at af;refine dy 17 rfl (λK r=>?_);go_simp
         with_reducible refine af.mono ?_
         rintro e w5 ⟨rfl,ad⟩;have ar:(zf w k f ng aq an ac dq dn dc m sq sn sc st bq nb bc b o nc cc j d) w5:=⟨O.1.below ad,O.2.below ad<|kw (by show b<wr.1.size;omega) s.size⟩;refine r.out _ _ ar λaX=>?_;clear r K a
         try simp only[pz]
         refine tk 18 _ rfl aX ?_;refine tk 19 _ rfl aX ?_;refine kV (by kernel_rfl) ?_ _;go_wp2_with fail;go_roundw
         case rel=>
          refine⟨j+1,by omega,by go_num,λi hi=>?_,ak.out.drew.trans<|(cV s ad).mono ak.out.drew.size⟩
          rcases kS i j with aw | aw
          .exact aI.out i aw
          obtain rfl:i=j:=(by omega);rw[x.out,hV.out];rfl
         case measure=>simp[intOf];omega
      obtain rfl:j=nc:=(by omega);go_wp2_with fail;go_ret;exact⟨by rw[NQ aI.out];rfl,cV av.out ak.out⟩
   have gz:(nc:Int) > 12:=(by omega);rw[kQ ax]
   go_wp2_with (first
    | (go_at_call 72;with_reducible refine jR cK λn l=>?_
       have t:Hid (Below w.1.size w n):=cV ab.out l;have C:w.1.size<n.1.size:=kw Q l.size;obtain⟨a0,D,F,G,H,I,J,L,M,N⟩:=il l Q ⟨R,T,U,V,W,X,Y,Z,y8,P⟩;have bW:=dw.out n t.out
       clear l R T U V W X Y Z y8 P)
    | (go_at_call 73;with_reducible refine jR bW λu q=>?_
       have aa:Hid (Below w.1.size w u):=cV t.out q;have ao:w.1.size<u.1.size:=kw C q.size;obtain⟨c0,c1,c2,c3,c4,c5,c6,c7,c8,c9⟩:=il q C ⟨a0,D,F,G,H,I,J,L,M,N⟩
       clear q a0 D F G H I J L M N))
   go_ret;exact⟨by simp,aa.out⟩
theorem NR {C:Cl} {D:Cd} (h:ClV w C D) (g:Tb w):bF w 36 #[.agg (C.cells D).toArray] (.bool C.vld):=by
 obtain⟨h1,h2,h3,h4,h5⟩:=h
 refine TJ (k:=D.d.k) (f:=D.d.f) (ng:=D.d.neg) (st:=C.st) (aq:=D.d.aq) (dq:=D.d.cq) (sq:=D.d.sq) (bq:=D.bq) (cq:=D.cq) (an:=D.d.an) (ac:=D.d.ac) (dn:=D.d.cn) (dc:=D.d.cc) (sn:=D.d.sn) (sc:=D.d.sc) (nb:=C.nb) (bc:=D.bc) (nc:=C.nc) (cc:=D.cc) (m:=D.d.m)
  (BX:=i5 C.nb C.bs) (EV:=uz C.goal) (CV:=cov C.goal C.nb C.bs) (ks:=C.cs) (EK:=λi=>uz (C.cs i).x) (CK:=λi=>cov (C.cs i).x C.nb C.bs)
  (λz d=>To D.bc (h4.below d)<|g.below d) (λz d=>FQ (h1.below d)<|g.below d) (λn z d=>?_) (h5.imp id ?_) h3
 .obtain⟨a,j⟩:=Hv n;exact NO (h1.below d) (g.below d) j D.bc (h4.below d) h2
 rintro⟨b,o,e,r,q,l⟩;refine⟨b,o,e,r,q,λi hi=>⟨(l i hi).1,λz d=>FQ ((l i hi).2.below d)<|g.below d,λn z d=>?_⟩⟩;obtain⟨a,j⟩:=Hv n;exact NO ((l i hi).2.below d) (g.below d) j D.bc (h4.below d) h2
theorem NS {C:Cl} {D:Cd} (h:ClV w C D):bF w 49 #[.agg (C.cells D).toArray] (.bool C.vld):=by
 obtain⟨h1,h2,h3,h4,h5⟩:=h
 refine TK (k:=D.d.k) (f:=D.d.f) (ng:=D.d.neg) (st:=C.st) (aq:=D.d.aq) (dq:=D.d.cq) (sq:=D.d.sq) (bq:=D.bq) (cq:=D.cq) (an:=D.d.an) (ac:=D.d.ac) (dn:=D.d.cn) (dc:=D.d.cc) (sn:=D.d.sn) (sc:=D.d.sc) (nb:=C.nb) (bc:=D.bc) (nc:=C.nc) (cc:=D.cc) (m:=D.d.m)
  (BX:=i5 C.nb C.bs) (EV:=uz C.goal) (CV:=cov C.goal C.nb C.bs) (ks:=C.cs) (EK:=λi=>uz (C.cs i).x) (CK:=λi=>cov (C.cs i).x C.nb C.bs)
  (λz d=>Tp D.bc<|h4.below d) (λz d=>Nh<|h1.below d) (λl z d=>?_) (h5.imp id ?_) h3
 .obtain⟨a,g⟩:=Hv l;exact NP (h1.below d) g D.bc (h4.below d) h2
 rintro⟨b,o,e,q,n,j⟩;refine⟨b,o,e,q,n,λi hi=>⟨(j i hi).1,λz d=>Nh<|(j i hi).2.below d,λl z d=>?_⟩⟩;obtain⟨a,g⟩:=Hv l;exact NP ((j i hi).2.below d) g D.bc (h4.below d) h2
