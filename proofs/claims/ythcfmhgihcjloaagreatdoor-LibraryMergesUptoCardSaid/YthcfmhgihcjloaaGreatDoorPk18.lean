import Derived.DeepKeys4
import Derived.Maps.OwnSet
import Derived.Maps.OwnIn
import Derived.Laws.StructEq
import Derived.Test.YthcfmhgihcjloaaGreatDoorPk17
namespace Go.Proofs.YthcfmhgihcjloaaGreatDoor
open Go Go.Proofs.YthcfmhgihcjloaaGreatDoor.Gx Go.RowKit Tryz
set_option maxRecDepth 100000
set_option maxHeartbeats 16000000
variable {w w':World} {k:Ky} {f:Int} {ng:Bool} {aq cq sq:Option Addr} {ac cc sc n i b:Nat} {nu de:List Int} {m:ByteArray} {L S:List Ky}
theorem DA {k:Int}:
  bF w 175 #[.agg<|mA k f ng aq nu.length ac cq de.length cc m sq n sc] (.bool<|decide (qe k<=f)&&decide (f<=qi k)):=by
 by_cases g:k=9
 .subst g;by_cases a:-32<=f
  .by_cases hf2:f<=32
   .go_enter func175,ntmps175;go_wp2;go_ret;exact⟨by simp[qe,qi,a,hf2],cU _ _⟩
   go_enter func175,ntmps175;go_wp2;go_ret;exact⟨by rw[kQ<|show ¬f<=qi 9 from rR.2 hf2,th];rfl,cU _ _⟩
  go_enter func175,ntmps175;go_wp2;go_ret;exact⟨by rw[kQ<|show ¬qe 9<=f from rR.2 a,r9];rfl,cU _ _⟩
 by_cases d:k=10
 .subst d;by_cases a:2<=f
  .by_cases hf2:f<=8
   .go_enter func175,ntmps175;go_wp2;go_ret;exact⟨by simp[qe,qi,a,hf2],cU _ _⟩
   go_enter func175,ntmps175;go_wp2;go_ret;exact⟨by rw[kQ<|show ¬f<=qi 10 from rR.2 hf2,th];rfl,cU _ _⟩
  go_enter func175,ntmps175;go_wp2;go_ret;exact⟨by rw[kQ<|show ¬qe 10<=f from rR.2 a,r9];rfl,cU _ _⟩
 by_cases e:k=11
 .subst e;by_cases a:1<=f
  .by_cases hf2:f<=8
   .go_enter func175,ntmps175;go_wp2;go_ret;exact⟨by simp[qe,qi,a,hf2],cU _ _⟩
   go_enter func175,ntmps175;go_wp2;go_ret;exact⟨by rw[kQ<|show ¬f<=qi 11 from rR.2 hf2,th];rfl,cU _ _⟩
  go_enter func175,ntmps175;go_wp2;go_ret;exact⟨by rw[kQ<|show ¬qe 11<=f from rR.2 a,r9];rfl,cU _ _⟩
 have e1:qe k=0:=(by simp[qe,g,d,e]);have e2:qi k=0:=(by simp[qi,g,d,e]);have s:(k==9)=false:=(by simp;omega);have q:(k==10)=false:=(by simp;omega);have r:(k==11)=false:=(by simp;omega);rw[e1,e2];clear e1 e2 g d e;by_cases l:f=0
 .subst l;go_enter func175,ntmps175;go_wp2;go_ret;exact⟨rfl,cU _ _⟩
 have o:(f==0)=false:=by simp[l]
 have j:(decide (0<=f)&&decide (f<=0))=false:=by
  by_cases h:0<=f
  .rw[kQ (by omega:¬f<=0)];simp
  rw[kQ h];rfl
 rw[j];clear j;go_enter func175,ntmps175;go_wp2;go_ret;exact⟨rfl,cU _ _⟩
theorem AL {k:Int} (h1:Sl w (.slice aq nu.length ac) nu) (h2:Sl w (.slice cq de.length cc) de) (ln:nu.length<=34359738000) (ld:de.length<=34359738000):
  bF w 142 #[.agg<|mA k f ng aq nu.length ac cq de.length cc m sq n sc] (.bool<|bX k f ng (val nu) (val de) m n):=by
 obtain⟨R,q⟩:∃R,Hid (bX k f ng (val nu) (val de) m n=R):=⟨_,rfl⟩;rw[q.out];have ah:Hid (Below w.1.size w<|w.alloc<|.cells (mA k f ng aq nu.length ac cq de.length cc m sq n sc) 33):=cU w _;have ap:Hid (Below w.1.size w (w.alloc<|.cells (mA k f ng aq nu.length ac cq de.length cc m sq n sc) 33).drew):=ah.out.drew;have ak:=ep h1.1;have al:=ep h2.1;have af:Hid _:=M' (g:=ng) ak al;have ar:Hid (∀z,Below w.1.size w z->cN 145 #[.agg<|qA ng aq nu.length ac cq de.length cc] z _):=λz o=>JV (g:=ng) (h1.below o) (h2.below o) ln ld;have av:Hid (∀z,Below w.1.size w z->cN 176 #[.agg<|qA ng aq nu.length ac cq de.length cc] z _):=λz o=>yr (g:=ng) (p1:=cq) (m:=de.length) (e1:=cc) (h1.below o) ln;have ae:Hid (∀z,Below w.1.size w z->cN 110 #[.agg<|qA ng aq nu.length ac cq de.length cc] z _):=λz o=>BY (g:=ng) (h1.below o) (h2.below o) ln ld;clear h1 h2 ak al;obtain⟨K,hK⟩:∃K,Hid (eX k=K):=⟨_,rfl⟩;have aa:=λz=>yB k z;rw[hK.out] at aa;by_cases W:K=n
 .have ai:(K != (n:Int))=false:=by simp[W]
  have aj:Hid (K=n):=W;clear W;obtain⟨ab,hA⟩:∃ab,Hid ((decide (qe k<=f)&&decide (f<=qi k))=ab):=⟨_,rfl⟩;have fR:=DA (w:=(w.alloc<|.cells (mA k f ng aq nu.length ac cq de.length cc m sq n sc) 33).drew) (k:=k) (f:=f) (ng:=ng) (aq:=aq) (cq:=cq) (sq:=sq) (ac:=ac) (cc:=cc) (sc:=sc) (n:=n) (nu:=nu) (de:=de) (m:=m);rw[hA.out] at fR;have d:(λz=>z.cell? ⟨w.1.size,0,none⟩=some (.int .i64 k)/\z.cell? ⟨w.1.size,1,none⟩=some (.int .i64 f)/\z.cell? ⟨w.1.size,2,none⟩=some (.bool ng)/\z.cell? ⟨w.1.size,3,none⟩=some (.slice aq nu.length ac)/\z.cell? ⟨w.1.size,4,none⟩=some (.slice cq de.length cc)/\z.cell? ⟨w.1.size,5,none⟩=some (.string m)/\z.cell? ⟨w.1.size,6,none⟩=some (.slice sq n sc)) (w.alloc<|.cells (mA k f ng aq nu.length ac cq de.length cc m sq n sc) 33).drew:=⟨by simp,by simp,by simp,by simp,by simp,by simp,by simp⟩;have t:w.1.size<(w.alloc<|.cells (mA k f ng aq nu.length ac cq de.length cc m sq n sc) 33).drew.1.size:=by simp
  go_enter func142,ntmps142;go_wp2_with fail
  go_region_held3 (λz=>z.cell? ⟨w.1.size,0,none⟩=some (.int .i64 k)/\z.cell? ⟨w.1.size,1,none⟩=some (.int .i64 f)/\z.cell? ⟨w.1.size,2,none⟩=some (.bool ng)/\z.cell? ⟨w.1.size,3,none⟩=some (.slice aq nu.length ac)/\z.cell? ⟨w.1.size,4,none⟩=some (.slice cq de.length cc)/\z.cell? ⟨w.1.size,5,none⟩=some (.string m)/\z.cell? ⟨w.1.size,6,none⟩=some (.slice sq n sc)) (first | exact ag | exact d)
   (first
     | (go_at_call 174;with_reducible refine jR (aa _) λwz ax=>?_;subst wz)
     | (go_at_call 175;with_reducible refine jR fR λZ r=>?_
        have ag:(λz=>z.cell? ⟨w.1.size,0,none⟩=some (.int .i64 k)/\z.cell? ⟨w.1.size,1,none⟩=some (.int .i64 f)/\z.cell? ⟨w.1.size,2,none⟩=some (.bool ng)/\z.cell? ⟨w.1.size,3,none⟩=some (.slice aq nu.length ac)/\z.cell? ⟨w.1.size,4,none⟩=some (.slice cq de.length cc)/\z.cell? ⟨w.1.size,5,none⟩=some (.string m)/\z.cell? ⟨w.1.size,6,none⟩=some (.slice sq n sc)) Z:=⟨fg r t d.1,fg r t d.2.1,fg r t d.2.2.1,fg r t d.2.2.2.1,fg r t d.2.2.2.2.1,fg r t d.2.2.2.2.2.1,fg r t d.2.2.2.2.2.2⟩))
  obtain⟨D,I,J,M,N,F,O⟩:=ag;have s:Hid (Below w.1.size w Z):=cV ap.out r;have A:w.1.size<Z.1.size:=kw t r.size;clear d fR r t aa ai
  cases ab with
  | false=>go_wp2_with fail;go_ret;exact⟨by rw[<-q.out];unfold bX;rw[hA.out];simp,s.out⟩
  | true=>
   have hB:Hid ((decide (eX k=n)&&(decide (qe k<=f)&&decide (f<=qi k)))=true):=(by show _=true;rw[hA.out,hK.out,lh aj.out];rfl);clear hA aj hK;by_cases k1:k=1
   .subst k1;have V:=ar.out Z s.out;obtain⟨L,hL⟩:∃L,Hid (large (val nu) (val de)=L):=⟨_,rfl⟩;rw[hL.out] at V
    cases L with
    | true=>go_wp2_with (go_at_call 145;with_reducible refine jR V λj a=>?_);go_ret;exact⟨by rw[<-q.out];unfold bX;rw[hL.out];simp,cV s.out a⟩
    | false=>
     obtain⟨G,T⟩:∃S,Hid (yq ng (val nu) (val de)=S):=⟨_,rfl⟩;by_cases d:0<=G
     .have ao:(G:Int)>=0:=d;have d:Hid (0<=G):=d
      cases U:(m.toList==[]) with
      | true=>
       have hm:Hid (m.size=0):=pX (p:=m.size=0)<|by rw[<-AI];exact U
       go_wp2_with (first
        | (go_at_call 145;with_reducible refine jR V λj a=>?_
           obtain⟨P,y1,y2,y3,y4,x,y6⟩:=CZ a A ⟨D,I,J,M,N,F,O⟩;have y:w.1.size<j.1.size:=kw A a.size;have C:Hid (Below w.1.size w j):=cV s.out a
           clear D I J M N F O a)
        | (go_at_call 110;with_reducible refine(ae.out j C.out).mono ?_;rintro e u ⟨v,rfl,hq,h⟩
           have B:=GW hq;rw[af.out,T.out] at B;have H:=fg h y x;have Q:w.1.size<u.1.size:=kw y h.size;have X:Hid (Below w.1.size w u):=cV C.out h
           clear h hq P y1 y2 y3 y4 x y6)
        | (go_at_call 112;with_reducible refine jR B λw5 l=>?_
           have v5:=fg l Q H;have Y:Hid (Below w.1.size w w5):=cV X.out l
           clear l H))
       go_ret;exact⟨by rw[<-q.out];unfold bX;rw[hB.out,hL.out,T.out,lh d.out,lh hm.out];rfl,Y.out⟩
      | false=>
       have hm:Hid (¬m.size=0):=λan=>by rw[AI,lh an] at U;cases U
       go_wp2_with (first
        | (go_at_call 145;with_reducible refine jR V λj a=>?_
           obtain⟨P,y1,y2,y3,y4,x,y6⟩:=CZ a A ⟨D,I,J,M,N,F,O⟩;have y:w.1.size<j.1.size:=kw A a.size;have C:Hid (Below w.1.size w j):=cV s.out a
           clear D I J M N F O a)
        | (go_at_call 110;with_reducible refine(ae.out j C.out).mono ?_;rintro e u ⟨v,rfl,hq,h⟩
           have B:=GW hq;rw[af.out,T.out] at B;have H:=fg h y x;have Q:w.1.size<u.1.size:=kw y h.size;have X:Hid (Below w.1.size w u):=cV C.out h
           clear h hq P y1 y2 y3 y4 x y6)
        | (go_at_call 112;with_reducible refine jR B λw5 l=>?_
           have v5:=fg l Q H;have Y:Hid (Below w.1.size w w5):=cV X.out l
           clear l H))
       go_ret;exact⟨by rw[<-q.out];unfold bX;rw[kQ hm.out];simp,Y.out⟩
     have ao:¬(G:Int)>=0:=d;have d:Hid (¬0<=G):=d
     go_wp2_with (first
      | (go_at_call 145;with_reducible refine jR V λj a=>?_
         obtain⟨P,y1,y2,y3,y4,x,y6⟩:=CZ a A ⟨D,I,J,M,N,F,O⟩;have y:w.1.size<j.1.size:=kw A a.size;have C:Hid (Below w.1.size w j):=cV s.out a
         clear D I J M N F O a)
      | (go_at_call 110;with_reducible refine(ae.out j C.out).mono ?_;rintro e u ⟨v,rfl,hq,h⟩
         have B:=GW hq;rw[af.out,T.out] at B;have H:=fg h y x;have Q:w.1.size<u.1.size:=kw y h.size;have X:Hid (Below w.1.size w u):=cV C.out h
         clear h hq P y1 y2 y3 y4 x y6)
      | (go_at_call 112;with_reducible refine jR B λw5 l=>?_
         have v5:=fg l Q H;have Y:Hid (Below w.1.size w w5):=cV X.out l
         clear l H))
     go_ret;exact⟨by rw[<-q.out];unfold bX;rw[T.out,kQ (by have:=d.out;omega:¬0<=G)];simp,Y.out⟩
   have n1:(k==1)=false:=(by simp;omega);have am:Hid (k≠1):=k1;have o:=av.out Z s.out;clear k1;obtain⟨ad,hZ⟩:∃ad,Hid (decide (val nu=0)=ad):=⟨_,rfl⟩;rw[hZ.out] at o
   cases ad with
   | false=>go_wp2_with (go_at_call 176;with_reducible refine jR o λj a=>?_);go_ret;exact⟨by rw[<-q.out];unfold bX;rw[kZ am.out,hZ.out];simp,cV s.out a⟩
   | true=>
    go_upto_region 7 with(go_at_call 176;with_reducible refine jR o λj a=>?_);have cj:Hid (Below w.1.size w j):=cV s.out a;have P:=fg a A D;have x:=fg a A F;clear D I J M N F O a;by_cases k2:k=2
    .subst k2;have au:=Nc m j;go_wp2_with (go_at_call 104;with_reducible refine jR au λu h=>?_);go_ret;exact⟨by rw[<-q.out];unfold bX;rw[hB.out,hZ.out];simp,cV cj.out h⟩
    have n2:(k==2)=false:=(by simp;omega);have aw:Hid (k≠2):=k2;clear k2;have U:=AI m;obtain⟨E,hE⟩:∃E,Hid (decide (m.size=0)=E):=⟨_,rfl⟩;rw[hE.out] at U;go_wp2_with fail;go_ret;exact⟨by rw[<-q.out];unfold bX;rw[hB.out,hZ.out,kZ am.out,kZ aw.out,hE.out];rfl,cj.out⟩
 have ai:(K != (n:Int))=true:=by simp[W]
 go_enter func142,ntmps142;go_wp2_with fail
 go_quiet (first | (go_at_call_of 174 (Value.int IntKind.i64 k);refine lw<|aa _))
 go_wp2_with fail;go_ret;exact⟨by rw[<-q.out];unfold bX;rw[hK.out,kQ W];simp,ee ah.out _⟩
def dZ (P:Nat->Nat->Option Nat):Nat->Nat->Option Nat
 | 0,n=>some n
 | c+1,n=>(dZ P c n).bind<|P c
def Ex.cnt:Ex->Nat->Nat->Option Nat
 | .non,_,_=>none
 | .mk k f ng nu de m c ar,d,n=>if n+1<=300/\d<=30/\bX k f ng (val nu) (val de) m c=true then dZ (λi a=>(ar i).cnt (d+1) a) c (n+1) else none
def qm (o:Option Nat):Int:=match o with | some n=>n | none=>301
def re (o:Option Nat):Int:=match o with | some n=>300 - n | none=>-1
theorem AM {P:Nat->Nat->Option Nat} (e:∀i a d,P i a=some d->d<=300):∀{c n a:Nat},n<=300->dZ P c n=some a->a<=300
 | 0,n,a,hn,h=>by simp only[dZ,mc] at h;omega
 | c+1,n,a,hn,h=>by
  unfold dZ at h
  cases hq:dZ P c n with
  | none=>rw[hq] at h;cases h
  | some x=>rw[hq] at h;exact e _ _ _ h
theorem Ex.cnt_le:∀(x:Ex) (d n a:Nat),x.cnt d n=some a->a<=300:=by
 intro x
 induction x with
 | non=>intro d n a h;cases h
 | mk k f ng nu de m c ar ih=>
  intro d n a h;unfold Ex.cnt at h;split at h
  .rename_i hc;exact AM (λi a e=>ih i _ a e) hc.1 h
  cases h
theorem Ng {P:Nat->Nat->Option Nat} {a c:Nat} (h1:dZ P i n=some a) (h2:P i a=none) (hi:i<c):dZ P c n=none:=by
 induction c with
 | zero=>omega
 | succ c d=>
  unfold dZ
  rcases kS i c with h | h
  .rw[d h];rfl
  have:i=c:=(by omega);subst this;rw[h1];exact h2
theorem Sk {k:Int} {dep cn:Nat} {x:Nat->Nd} {P:Nat->Nat->Option Nat} (h1:Sl w (.slice aq nu.length ac) nu) (h2:Sl w (.slice cq de.length cc) de) (ln:nu.length<=1048576) (ld:de.length<=1048576) (K:Tb w) (hn:n<=1099511627776) (G:n=0\/∃b o,sq=some ⟨b,o,none⟩/\b<w.1.size/\∀i,i<n->NdAt w b (o+i*7) (x i)) (H:∀i a e,P i a=some e->e<=300) (hd:dep<=31) (aa:cn<=300)
  (J:∀i,i<n->dep<=30->∀a:Nat,a<=300->∀d,Below w.1.size w d->bF d 90 #[(x i).val,.int .i64<|(dep:Int)+1,.int .i64 a] (.int .i64<|qm<|P i a)):
  bF w 90 #[.agg<|mA k f ng aq nu.length ac cq de.length cc m sq n sc,.int .i64 dep,.int .i64 cn] (.int .i64<|qm (if cn+1<=300/\dep<=30/\bX k f ng (val nu) (val de) m n=true then dZ P n (cn+1) else none)):=by
 have h:Hid (Below w.1.size w<|w.alloc<|.cells (mA k f ng aq nu.length ac cq de.length cc m sq n sc) 33):=cU w _;have l:=Sj (k:=k) (f:=f) (ng:=ng) (sq:=sq) (sc:=sc) (n:=n) (m:=m) (h1.below h.out) (h2.below h.out) (by omega) (by omega)<|K.below h.out;have T:=bC G;have U:=bC H;obtain⟨A,I⟩:∃A,Hid (bX k f ng (val nu) (val de) m n=A):=⟨_,rfl⟩;rw[I.out] at l ⊢;have V:=bC J;clear h1 h2 K G H J;by_cases c1:cn+1<=300
 .have O:¬(cn:Int)+1 > 300:=by omega
  by_cases c2:dep<=30
  .have Q:¬(dep:Int) > 30:=by omega
   cases A with
   | false=>rw[kZ<|by simp];go_enter func90,ntmps90;go_wp2_with (go_at_call 129;with_reducible refine jR l λd q=>?_);go_ret;exact⟨rfl,cV h.out q⟩
   | true=>
    rw[kU ⟨c1,c2,rfl⟩];obtain⟨R,y⟩:∃R,Hid (qm (dZ P n<|cn+1)=R):=⟨_,rfl⟩;rw[y.out];clear I;go_enter func90,ntmps90
    go_wp2_with (go_at_call 129;with_reducible refine jR l λd q=>?_
                 have N:d.cell? ⟨w.1.size,6,none⟩=some (.slice sq n sc):=fg q (by simp) (by simp);have u:Hid (Below w.1.size w d):=cV h.out q
                 clear q)
    go_loopw [2,25] (λt2 F wr=>∃(i a:Nat),i<=n/\a<=300/\F=.int .i64 i/\t2=.int .i64 a/\Hid (dZ P i (cn+1)=some a)/\Below d.1.size d wr) (λ_ F _=>n - (intOf F).toNat)
    case atStart=>exact⟨0,cn+1,kL _,c1,rfl,by go_num,rfl,kE _ _⟩
    case round=>
     obtain⟨i,a,hi,W,rfl,rfl,r,t⟩:=hrel;clear N l;by_cases E:i<n
     .have am:(i:Int)<(n:Int):=(by omega);obtain⟨b,o,rfl,Y,M⟩:=T.out.resolve_left (by omega);have B:Below w.1.size w wr:=cV u.out t;obtain⟨x0,x1,x2,x3,x4,x5,N⟩:=(M i E).below B Y;have C:Hid (Below wr.1.size wr<|wr.alloc<|.cells (nA<|x i) 33):=cU wr _;have g:=V.out i E c2 a W _<|cV B C.out;simp only[Nd.val] at g;have s:Hid (Below d.1.size d wr):=t;clear t M B
      cases j:P i a with
      | none=>rw[j] at g;have z:R=301:=(by rw[<-y.out,Ng r.out j E];rfl);subst z;clear j;simp only[qm] at g;go_wp2_with (go_at_call 90;with_reducible refine jR g λw3 D=>?_);go_ret;exact⟨rfl,u.out.trans<|(s.out.trans<|(cV C.out D).mono s.out.size).mono u.out.size⟩
      | some e=>
       rw[j] at g;have X:=U.out _ _ _ j;have ab:¬(e:Int) > 300:=(by omega);have Z:Hid (dZ P (i+1) (cn+1)=some e):=(by show dZ P (i+1) (cn+1)=some e;unfold dZ;rw[r.out];exact j);clear j r;simp only[qm] at g;go_wp2_with (go_at_call 90;with_reducible refine jR g λw3 D=>?_);go_roundw
       case rel=>exact⟨i+1,e,by omega,X,by go_num,rfl,Z,s.out.trans<|(cV C.out D).mono s.out.size⟩
       case measure=>simp[intOf];omega
     obtain rfl:i=n:=(by omega);have z:R=(a:Int):=(by rw[<-y.out,r.out];rfl);subst z;clear r;go_wp2;go_ret;exact⟨rfl,cV u.out t⟩
  have Q:(dep:Int) > 30:=(by omega);rw[kZ<|by omega];clear l;go_enter func90,ntmps90;go_wp2;go_ret;exact⟨rfl,h.out⟩
 have O:(cn:Int)+1 > 300:=by omega
 rw[kZ<|by omega];clear l;go_enter func90,ntmps90;go_wp2;go_ret;exact⟨rfl,h.out⟩
theorem Sn {k:Int} {dep cn:Nat} {G:Nat->Nd} {P:Nat->Nat->Option Nat} (h1:Sl w (.slice aq nu.length ac) nu) (h2:Sl w (.slice cq de.length cc) de) (ln:nu.length<=1048576) (ld:de.length<=1048576) (hn:n<=1099511627776) (F:n=0\/∃b o,sq=some ⟨b,o,none⟩/\b<w.1.size/\∀i,i<n->NdAt w b (o+i*7) (G i)) (H:∀i a e,P i a=some e->e<=300) (hd:dep<=31) (aa:cn<=300)
  (J:∀i,i<n->dep<=30->∀a:Nat,a<=300->∀d,Below w.1.size w d->bF d 103 #[(G i).val,.int .i64<|(dep:Int)+1,.int .i64<|300 - (a:Int)] (.int .i64<|re<|P i a)):
  bF w 103 #[.agg<|mA k f ng aq nu.length ac cq de.length cc m sq n sc,.int .i64 dep,.int .i64<|300 - (cn:Int)] (.int .i64<|re (if cn+1<=300/\dep<=30/\bX k f ng (val nu) (val de) m n=true then dZ P n (cn+1) else none)):=by
 have j:Hid (Below w.1.size w<|w.alloc<|.cells (mA k f ng aq nu.length ac cq de.length cc m sq n sc) 33):=cU w _;have q:=AL (k:=k) (f:=f) (ng:=ng) (sq:=sq) (sc:=sc) (n:=n) (m:=m) (h1.below j.out) (h2.below j.out) (by omega) (by omega);have O:=bC F;have Q:=bC H;obtain⟨A,I⟩:∃A,Hid (bX k f ng (val nu) (val de) m n=A):=⟨_,rfl⟩;rw[I.out] at q ⊢;have T:=bC J;clear h1 h2 F H J;by_cases c2:dep<=30
 .have N:¬(dep:Int) > 30:=by omega
  by_cases c1:cn+1<=300
  .have M:¬300 - (cn:Int)<=0:=by omega
   cases A with
   | false=>rw[kZ<|by simp];go_enter func103,ntmps103;go_wp2_with (go_at_call 142;with_reducible refine jR q λd l=>?_);go_ret;exact⟨rfl,cV j.out l⟩
   | true=>
    rw[kU ⟨c1,c2,rfl⟩];obtain⟨R,u⟩:∃R,Hid (re (dZ P n<|cn+1)=R):=⟨_,rfl⟩;rw[u.out];clear I;go_enter func103,ntmps103
    go_wp2_with (go_at_call 142;with_reducible refine jR q λd l=>?_
                 have D:d.cell? ⟨w.1.size,6,none⟩=some (.slice sq n sc):=fg l (by simp) (by simp);have Y:w.1.size<d.1.size:=(by have:=l.size;simp at this;omega);have t:Hid (Below w.1.size w d):=cV j.out l
                 clear l)
    go_loopw [2,7] (λZ C wr=>∃(i a:Nat),i<=n/\a<=300/\C=.int .i64 i/\Z=.int .i64 (300 - (a:Int))/\Hid (dZ P i (cn+1)=some a)/\Below d.1.size d wr) (λ_ C _=>n - (intOf C).toNat)
    case atStart=>exact⟨0,cn+1,kL _,c1,rfl,by go_num,rfl,kE _ _⟩
    case round=>
     obtain⟨i,a,hi,U,rfl,rfl,s,r⟩:=hrel;have y6:=fg r Y D;clear D q;by_cases B:i<n
     .have am:(i:Int)<(n:Int):=(by omega);obtain⟨b,o,rfl,W,K⟩:=O.out.resolve_left (by omega);have y:Below w.1.size w wr:=cV t.out r;obtain⟨x0,x1,x2,x3,x4,x5,D⟩:=(K i B).below y W;have g:=T.out i B c2 a U _ y;simp only[Nd.val] at g;have E:Hid (Below d.1.size d wr):=r;clear r K y
      cases h:P i a with
      | none=>rw[h] at g;have x:R=-1:=(by rw[<-u.out,Ng s.out h B];rfl);subst x;clear h;simp only[re] at g;go_wp2_with (go_at_call 103;with_reducible refine jR g λw3 z=>?_);go_ret;exact⟨rfl,t.out.trans<|(cV E.out z).mono t.out.size⟩
      | some e=>
       rw[h] at g;have V:=Q.out _ _ _ h;have ab:¬300 - (e:Int)<0:=(by omega);have X:Hid (dZ P (i+1) (cn+1)=some e):=(by show dZ P (i+1) (cn+1)=some e;unfold dZ;rw[s.out];exact h);clear h s;simp only[re] at g;go_wp2_with (go_at_call 103;with_reducible refine jR g λw3 z=>?_);go_roundw
       case rel=>exact⟨i+1,e,by omega,V,by go_num,rfl,X,cV E.out z⟩
       case measure=>simp[intOf];omega
     obtain rfl:i=n:=(by omega);have x:R=300 - (a:Int):=(by rw[<-u.out,s.out];rfl);subst x;clear s;go_wp2;go_ret;exact⟨rfl,cV t.out r⟩
  have M:300 - (cn:Int)<=0:=(by omega);rw[kZ<|by omega];clear q;go_enter func103,ntmps103;go_wp2;go_ret;exact⟨rfl,j.out⟩
 have N:(dep:Int) > 30:=by omega
 rw[kZ<|by omega];clear q;go_enter func103,ntmps103;go_wp2;go_ret;exact⟨rfl,j.out⟩
theorem yC:∀(x:Ex) (d:Nd) (w:World) (dep cn:Nat),ExOk w x d->dep<=31->cn<=300->Tb w->
  bF w 90 #[d.val,.int .i64 dep,.int .i64 cn] (.int .i64<|qm<|x.cnt dep cn):=by
 intro x
 induction x with
 | non=>intro d w dep cn h;exact h.elim
 | mk k f ng nu de m c ar ih=>
  intro d w dep cn h D C l;obtain⟨F,u,H,aq,an,ac,cq,J,cc,G,sq,sn,sc⟩:=d;unfold ExOk at h;obtain⟨⟨rfl,rfl,rfl,rfl,rfl⟩,h1,h2,ln,ld,s,r⟩:=h;simp only at h1 h2 r s;obtain⟨_,_,e1⟩:=h1.form;obtain⟨_,_,e2⟩:=h2.form;simp only[nT] at e1 e2;obtain⟨rfl,rfl,rfl⟩:=e1;obtain⟨rfl,rfl,rfl⟩:=e2
  have j:∃g:Nat->Nd,(sn=0\/∃b o,sq=some ⟨b,o,none⟩/\b<w.1.size/\∀i,i<sn->NdAt w b (o+i*7) (g i))/\∀i,i<sn->ExOk w (ar i) (g i):=by
   rcases r with rfl | ⟨b,o,e,B,g,j⟩
   .exact⟨λ_=>⟨0,0,false,none,0,0,none,0,0,⟨#[]⟩,none,0,0⟩,.inl rfl,λi hi=>absurd hi<|by omega⟩
   exact⟨g,.inr ⟨b,o,e,B,λi hi=>(j i hi).1⟩,λi hi=>(j i hi).2⟩
  obtain⟨g,y,z⟩:=j
  have E:=Sk (k:=F) (f:=u) (ng:=H) (m:=G) (sc:=sc) (dep:=dep) (cn:=cn) (P:=λi a=>(ar i).cnt (dep+1) a) h1 h2 ln ld l s y (λi a t=>Ex.cnt_le (ar i) _ a t) D C (λi hi K a A I q=>by
   have:=ih i (g i) I (dep+1) a ((z i hi).below q) (by omega) A<|l.below q
   simpa using this)
  unfold Ex.cnt;exact E
theorem yD:∀(x:Ex) (d:Nd) (w:World) (dep cn:Nat),ExOk w x d->dep<=31->cn<=300->
  bF w 103 #[d.val,.int .i64 dep,.int .i64<|300 - (cn:Int)] (.int .i64<|re<|x.cnt dep cn):=by
 intro x
 induction x with
 | non=>intro d w dep cn h;exact h.elim
 | mk k f ng nu de m c ar ih=>
  intro d w dep cn h C B;obtain⟨E,s,G,aq,an,ac,cq,I,cc,F,sq,sn,sc⟩:=d;unfold ExOk at h;obtain⟨⟨rfl,rfl,rfl,rfl,rfl⟩,h1,h2,ln,ld,q,l⟩:=h;simp only at h1 h2 l q;obtain⟨_,_,e1⟩:=h1.form;obtain⟨_,_,e2⟩:=h2.form;simp only[nT] at e1 e2;obtain⟨rfl,rfl,rfl⟩:=e1;obtain⟨rfl,rfl,rfl⟩:=e2
  have j:∃g:Nat->Nd,(sn=0\/∃b o,sq=some ⟨b,o,none⟩/\b<w.1.size/\∀i,i<sn->NdAt w b (o+i*7) (g i))/\∀i,i<sn->ExOk w (ar i) (g i):=by
   rcases l with rfl | ⟨b,o,e,z,g,j⟩
   .exact⟨λ_=>⟨0,0,false,none,0,0,none,0,0,⟨#[]⟩,none,0,0⟩,.inl rfl,λi hi=>absurd hi<|by omega⟩
   exact⟨g,.inr ⟨b,o,e,z,λi hi=>(j i hi).1⟩,λi hi=>(j i hi).2⟩
  obtain⟨g,t,u⟩:=j
  have D:=Sn (k:=E) (f:=s) (ng:=G) (m:=F) (sc:=sc) (dep:=dep) (cn:=cn) (P:=λi a=>(ar i).cnt (dep+1) a) h1 h2 ln ld q t (λi a r=>Ex.cnt_le (ar i) _ a r) C B (λi hi J a y H A=>by
   have:=ih i (g i) H (dep+1) a ((u i hi).below A) (by omega) y
   simpa using this)
  unfold Ex.cnt;exact D
theorem FQ {x:Ex} {d:Nd} (h:ExOk w x d) (o:Tb w):bF w 62 #[d.val] (.bool (x.cnt 1 0).isSome):=by
 have g:Below w.1.size w (w.alloc<|.cells (nA d) 33):=cU w _;have e:=yC x d _ 1 0 (h.below g) (by omega) (by omega)<|o.below g;rw[show ((1:Nat):Int)=1 from rfl,show((0:Nat):Int)=0 from rfl] at e;unfold Nd.val at e ⊢;have l:=x.cnt_le 1 0;generalize x.cnt 1 0=C at*
 cases C with
 | none=>simp only[qm] at e;go_enter func62,ntmps62;go_wp2_with (go_at_call 90;with_reducible refine jR e λq j=>?_);go_ret;exact⟨rfl,cV g j⟩
 | some a=>
  have r:=l a rfl;have s:(a:Int)<=300:=by omega
  simp only[qm] at e;clear l;go_enter func62,ntmps62;go_wp2_with (go_at_call 90;with_reducible refine jR e λq j=>?_);go_ret;exact⟨by simp<;>omega,cV g j⟩
theorem Nh {x:Ex} {d:Nd} (h:ExOk w x d):bF w 72 #[d.val] (.bool (x.cnt 1 0).isSome):=by
 have g:Below w.1.size w (w.alloc<|.cells (nA d) 33):=cU w _;have e:=yD x d _ 1 0 (h.below g) (by omega) (by omega);rw[show ((1:Nat):Int)=1 from rfl,show(300 - ((0:Nat):Int))=300 from rfl] at e;unfold Nd.val at e ⊢;have l:=x.cnt_le 1 0;generalize x.cnt 1 0=C at*
 cases C with
 | none=>simp only[re] at e;go_enter func72,ntmps72;go_wp2_with (go_at_call 103;with_reducible refine jR e λo j=>?_);go_ret;exact⟨rfl,cV g j⟩
 | some a=>
  have q:=l a rfl;have r:300 - (a:Int)>=0:=by omega
  simp only[re] at e;clear l;go_enter func72,ntmps72;go_wp2_with (go_at_call 103;with_reducible refine jR e λo j=>?_);go_ret;exact⟨by simp<;>omega,cV g j⟩
end Go.Proofs.YthcfmhgihcjloaaGreatDoor
namespace Go.Proofs.YthcfmhgihcjloaaGreatDoor
open Go Go.RowKit Tryz
variable {w w':World} {k:Ky} {f:Int} {ng:Bool} {aq cq sq:Option Addr} {ac cc sc n i b:Nat} {nu de:List Int} {m:ByteArray} {L S:List Ky}
instance:LawfulBEq ByteArray where
 eq_of_beq {a b} h:=by rw[rS] at h;exact Fx<|by simpa using h
 rfl {a}:=by rw[rS];simp
def dh (k:Ky):List Value:=[.string k.1,.int .i64 k.2]
abbrev mu (k:Ky):Value:=.agg #[.string k.1,.int .i64 k.2]
def gt (k:Ky):Prop:=k.1.size<=maxLen/\(Lit.int .i64 k.2).wf=true
def gL (L:List Ky) (k:Ky):Option Nat:=L.findIdx? λa=>decide (a=k)
theorem Ni (h:L[i]?=some k) (d:∀(j:Nat) (a:Ky),j<i->L[j]?=some a->¬a=k):gL L k=some i:=by unfold gL;rw[List.findIdx?_eq_some_iff_getElem];obtain⟨hi,e⟩:=lC.1 h;refine⟨hi,by simp[e],λj g=>?_⟩;have:=d j (L[j]'(by omega)) g<|k8 _;simpa using this
theorem Nj (d:∀(j:Nat) (a:Ky),L[j]?=some a->¬a=k):gL L k=none:=by unfold gL;rw[sG];intro x g;obtain⟨j,e⟩:=rT g;simpa using d j x e
theorem He (h:gL L k=some i):L[i]?=some k:=by unfold gL at h;obtain⟨hi,a,_⟩:=List.findIdx?_eq_some_iff_getElem.1 h;rw[k8 hi];simpa using a
theorem Hg:(gL L k).isSome=decide (k∈L):=by
 cases h:gL L k with
 | none=>
  unfold gL at h;rw[sG] at h;have:¬k∈L:=λa=>by simpa using h k a
  simp[this]
 | some i=>have:=np<|He h;simp[this]
def vg (L:List Ky) (k:Ky):Int:=match gL L k with | some i=>i | none=>-1
set_option maxRecDepth 100000
theorem FR:∃d,prog.underlying 44=some d/\d.isRow=true:=by
 have h:(prog.underlying 44).map TypeDesc.isRow=some true:=by kernel_rfl
 cases a:prog.underlying 44 with
 | none=>rw[a] at h;cases h
 | some d=>rw[a] at h;exact⟨d,rfl,by simpa using h⟩
theorem yE:(prog.info? 44).map (·.size)=some 33:=by kernel_rfl
theorem yF:∃d,prog.underlying 47=some d/\d.isRow=true:=by
 have h:(prog.underlying 47).map TypeDesc.isRow=some true:=by kernel_rfl
 cases a:prog.underlying 47 with
 | none=>rw[a] at h;cases h
 | some d=>rw[a] at h;exact⟨d,rfl,by simpa using h⟩
theorem Nk:(prog.info? 47).map (·.size)=some 2:=by kernel_rfl
structure En where
 k:Ky
 r:List Value
def En.cells (e:En):List Value:=.string e.k.1::.int .i64 e.k.2::e.r
structure En.Ok (e:En):Prop where
 len:e.r.length=31
 one:∀u∈e.r,u.oneCell'=true
 key:gt e.k
theorem En.Ok.len' {e:En} (h:e.Ok):e.cells.length=33:=by simp[En.cells,h.len]
theorem En.Ok.one' {e:En} (h:e.Ok):e.cells.toArray.all (·.oneCell')=true:=by
 rw[qM,lj];intro u hu
 rcases lO.1 hu with rfl | hu
 .rfl
 rcases lO.1 hu with rfl | hu
 .rfl
 exact h.one u hu
theorem En.c0 (e:En):e.cells[0]?=some (.string e.k.1):=rfl
theorem En.c1 (e:En):e.cells[1]?=some (.int .i64 e.k.2):=rfl
def LibOk (w:World) (q:Option Addr) (n:Nat) (L:List En):Prop:=
 L.length=n/\n<=1048576/\(∀e∈L,e.Ok)/\(n=0\/∃b o,q=some ⟨b,o,none⟩/\b<w.1.size/\∀i e,L[i]?=some e->w.rangeAt b (o+i*33) e.cells)
theorem LibOk.below (a:Below w.1.size w w') {q:Option Addr} {n:Nat} {L:List En} (h:LibOk w q n L):LibOk w' q n L:=by refine⟨h.1,h.2.1,h.2.2.1,h.2.2.2.imp id ?_⟩;rintro⟨b,o,e,d,g⟩;exact⟨b,o,e,kw d a.size,λi k j=>bU (g i k j) a d⟩
theorem Ce (a b:Ky):decide (a=b)=(a.1.toList==b.1.toList&&a.2==b.2):=by
 obtain⟨n,v⟩:=a;obtain⟨d,g⟩:=b;by_cases h1:n.toList=d.toList
 .by_cases h2:v=g
  .simp[Fx h1,h2]
  simp[h2]
 have:¬n=d:=λe=>h1 (by rw[e]);simp[h1,this]
theorem Hh (e:En) (h:e.Ok) (w:World):bF w 9 #[.agg e.cells.toArray] (.agg #[.string e.k.1,.int .i64 e.k.2]):=by
 have h0:=e.c0;have h1:=e.c1;have j:=h.len';obtain⟨⟨n,v⟩,r⟩:=e;simp only at h0 h1 ⊢;generalize En.cells _=cs at*;have d:=oe w cs 44;have c0:∀a,((w.alloc<|.cells cs.toArray 44).alloc a).cell? ⟨w.1.size,0,none⟩=some (.string n):=λa=>by have:=mV d a 0 _ h0;simpa using this
 have c1:∀a,((w.alloc<|.cells cs.toArray 44).alloc a).cell? ⟨w.1.size,1,none⟩=some (.int .i64 v):=λa=>by have:=mV d a 1 _ h1;simpa using this
 have g:∀a,Below w.1.size w ((w.alloc<|.cells cs.toArray 44).alloc a):=λa=>dF w _ _;clear d;go_enter func9,ntmps9;go_wp2_with fail;exact lJ (v:=.agg #[.string n,.int .i64 v]) (by simp[results,go_sem]) rfl ⟨rfl,g _⟩
theorem Ev (e:En) (h:e.Ok) (w:World):bF w 15 #[.agg e.cells.toArray] (.agg #[.string e.k.1,.int .i64 e.k.2]):=by
 have h0:=e.c0;have h1:=e.c1;have j:=h.len';obtain⟨⟨n,v⟩,r⟩:=e;simp only at h0 h1 ⊢;generalize En.cells _=cs at*;have d:=oe w cs 44;have c0:∀a,((w.alloc<|.cells cs.toArray 44).alloc a).cell? ⟨w.1.size,0,none⟩=some (.string n):=λa=>by have:=mV d a 0 _ h0;simpa using this
 have c1:∀a,((w.alloc<|.cells cs.toArray 44).alloc a).cell? ⟨w.1.size,1,none⟩=some (.int .i64 v):=λa=>by have:=mV d a 1 _ h1;simpa using this
 have g:∀a,Below w.1.size w ((w.alloc<|.cells cs.toArray 44).alloc a):=λa=>dF w _ _;clear d;go_enter func15,ntmps15;go_wp2_with fail;exact lJ (v:=.agg #[.string n,.int .i64 v]) (by simp[results,go_sem]) rfl ⟨rfl,g _⟩
theorem AN (e:En) (d:e.Ok) (k:Ky) (B:Nat) (O:B<w.1.size) (t:w.rangeAt B 0 (dh k)):
  bF w 23 #[.agg e.cells.toArray,.pointer<|some ⟨B,0,none⟩] (.bool<|decide (e.k=k)):=by
 have D:=λz=>Hh e d z;have N:=d.len';obtain⟨E,hu,K⟩:=FR;have H:=bC hu;obtain⟨F,u,M⟩:=yF;have G:=bC u;have hq:(e.k.1.toList==k.1.toList&&e.k.2==k.2)=decide (e.k=k):=(Ce _ _).symm;clear hu u d;generalize decide (e.k=k)=eq at*;generalize e.k=ek at*;generalize e.cells=cs at*;have J:Below w.1.size w (w.alloc<|.cells cs.toArray 44):=fH _ _;have Q:(w.alloc<|.cells cs.toArray 44).1.size=w.1.size+1:=by simp
 have o:Hid ((w.alloc<|.cells cs.toArray 44).rangeAt w.1.size 0 cs):=oe w cs 44;have l:Hid ((w.alloc<|.cells cs.toArray 44).rangeAt B 0<|dh k):=mV t _;clear t;go_enter func23,ntmps23;go_wp2_with fail
 try simp only[Act.put]
 refine kN (S:=λz=>z.rangeAt w.1.size 0 cs/\z.rangeAt B 0 (dh k)) (by kernel_rfl) (by exact⟨o.out,l.out⟩) λr=>?_;refine mO (i:=0) (oi:=?op0x1) (v:=.agg cs.toArray) ?ta0x1 ?tb0x1 ?tc0x1 ?td0x1 ?tq0x1 ?ty0x1 r ?_
 case ta0x1=>rfl
 case tb0x1=>kernel_rfl
 case tc0x1=>kernel_rfl
 case td0x1=>kernel_rfl
 case tq0x1=>exact λ_ _ _ h=>h
 case ty0x1=>
  refine pM ?tw0x1 44 (.tmp 2) ?to0x1 w.1.size 0 ?tx0x1 cs E (λz g=>g.1) H.out K (by rw[N];exact yE)
  case tw0x1=>kernel_rfl
  case to0x1=>rfl
  case tx0x1=>kernel_rfl
 simp only[pz];refine mO (i:=2) (oi:=?op2x2) (v:=.agg (dh k).toArray) ?ta2x2 ?tb2x2 ?tc2x2 ?td2x2 ?tq2x2 ?ty2x2 r ?_
 case ta2x2=>rfl
 case tb2x2=>kernel_rfl
 case tc2x2=>kernel_rfl
 case td2x2=>kernel_rfl
 case tq2x2=>exact λ_ _ _ h=>h
 case ty2x2=>
  refine pM ?tw2x2 47 (.tmp 1) ?to2x2 B 0 ?tx2x2 (dh k) F (λz g=>g.2) G.out M Nk
  case tw2x2=>kernel_rfl
  case to2x2=>rfl
  case tx2x2=>kernel_rfl
 simp only[pz];refine qF (rs:=[1]) (by kernel_rfl) (by simp) ?_;refine ph rfl (λA s=>?_) qq;go_simp;refine jR (D _) λj a=>?_;have P:=a.size;have C:Below w.1.size w j:=J.drew.trans (a.mono<|by show w.1.size<=(w.alloc<|.cells cs.toArray 44).1.size;omega);have y:j.rangeAt w.1.size 0 cs:=bU (w:=(w.alloc<|.cells cs.toArray 44).drew) o.out a (by show w.1.size<(w.alloc<|.cells cs.toArray 44).1.size;omega);have x:j.rangeAt B 0 (dh k):=bU (w:=(w.alloc<|.cells cs.toArray 44).drew) l.out a (by show B<(w.alloc<|.cells cs.toArray 44).1.size;omega);refine s.out _ _ ⟨y,x⟩ λq=>?_;clear s A;refine mO (i:=3) (oi:=?op3x3) (v:=.bool eq) ?ta3x3 ?tb3x3 ?tc3x3 ?td3x3 ?tq3x3 ?ty3x3 q ?_
 case ta3x3=>rfl
 case tb3x3=>kernel_rfl
 case tc3x3=>kernel_rfl
 case td3x3=>kernel_rfl
 case tq3x3=>exact λ_ _ _ h=>h
 case ty3x3=>refine Or.inl ⟨by rfl,?_⟩;intro z I;have R:=underlying3;have T:=underlying9;simp only[dh];go_simp;rw[<-hq];by_cases h1:ek.1.toList=k.1.toList<;>by_cases h2:ek.2=k.2<;>simp[h1,h2]
 simp only[pz];refine mO (i:=4) (oi:=?op4x4) (v:=.bool eq) ?ta4x4 ?tb4x4 ?tc4x4 ?td4x4 ?tq4x4 ?ty4x4 q ?_
 case ta4x4=>rfl
 case tb4x4=>kernel_rfl
 case tc4x4=>kernel_rfl
 case td4x4=>kernel_rfl
 case tq4x4=>exact λ_ _ _ h=>h
 case ty4x4=>exact Or.inl ⟨by rfl,by intro z I;go_simp⟩
 simp only[pz];refine kV (by kernel_rfl) ?_ _;go_wp2_with fail;go_ret;exact⟨rfl,C⟩
end Go.Proofs.YthcfmhgihcjloaaGreatDoor
namespace Go.Proofs.YthcfmhgihcjloaaGreatDoor
open Go Go.RowKit Go.Maps Tryz
variable {w w':World} {k:Ky} {f:Int} {ng:Bool} {aq cq sq:Option Addr} {ac cc sc n i b:Nat} {nu de:List Int} {m:ByteArray} {L S:List Ky}
instance:LawfulBEq ByteArray where
 eq_of_beq {a b} h:=by rw[rS] at h;exact Fx<|by simpa using h
 rfl {a}:=by rw[rS];simp
def yG (k:Ky):Lit:=.string<|keyBytes [.string k.1.data.toList,.int .i64 k.2]
theorem yH:prog.keyType 47=true:=by kernel_rfl
theorem Nl:prog.cellsOf 47=2:=by kernel_rfl
theorem So:prog.cellsOf 9=1:=by kernel_rfl
theorem Sp:prog.cellsOf 3=1:=by kernel_rfl
theorem Sq:∃m,prog.types.size+1=m+2:=⟨prog.types.size - 1,by have h:1<=prog.types.size:=rM (by kernel_rfl);omega⟩
theorem Ss (m:Nat) (a:Value):prog.keyLits (m+1) 9 [a]=match a with | .string s=>(if s.size<=maxLen then some [.string s.data.toList] else none) | _=>none:=by unfold Program.keyLits;rw[underlying9];cases a<;>rfl
theorem Su (m:Nat) (a:Value):prog.keyLits (m+1) 3 [a]=match a with | .int q n=>(if q=.i64/\(Lit.int .i64 n).wf=true then some [.int .i64 n] else none) | _=>none:=by unfold Program.keyLits;rw[underlying3];cases a<;>rfl
theorem Sw (m:Nat) (a b:Value):prog.keyLits (m+2) 47 [a,b]=(prog.keyLits (m+1) 9 [a]).bind λx=>(prog.keyLits (m+1) 3 [b]).bind λy=>some (x++y):=by
 conv=>lhs;unfold Program.keyLits
 rw[underlying47];simp only[Nl,lF,mS];rw[kU ⟨trivial,by kernel_rfl⟩];simp only[List.mapM_cons,List.mapM_nil,So,Sp,qI,rV,List.take_zero,List.drop_succ_cons];generalize prog.keyLits (m+1) 9 [a]=u;generalize prog.keyLits (m+1) 3 [b]=v;cases u<;>cases v<;>simp
theorem Ew (h:gt k):keyOf prog 47 (mu k)=some (yG k):=by obtain⟨m,a⟩:=Sq;obtain⟨n,v⟩:=k;obtain⟨h1,h2⟩:=h;simp only at h1 h2;unfold keyOf;rw[underlying47];simp only[yH,pg,Value.formed,underlying47,Nl,Value.cells,a];rw[kU<|by rfl];show Option.map _ (prog.keyLits (m+2) 47 [.string n,.int .i64 v])=_;rw[Sw,Ss,Su];simp only[h1,h2,if_true,and_self,Option.bind_some,qW];rfl
theorem FS:Keyed prog 47:=Keyed.of_law<|deep_law (m:=2) (by omega) (by kernel_rfl) (by kernel_rfl)<|by kernel_rfl
theorem Nm {a b:Ky} (d:gt a) (e:gt b) (h:yG a=yG b):a=b:=by have h1:=Ew d;have h2:=Ew e;rw[<-h] at h2;have:=FS.inj h1 h2;obtain⟨n,v⟩:=a;obtain⟨g,j⟩:=b;simp at this;exact Prod.ext this.1 this.2
structure IsSet (D:DataW Unit) (S:List Ky):Prop where
 ok:∀k∈S,gt k
 at_:∀k,gt k->D.atKey (yG k) (.lit<|.bool false)=.lit (.bool<|decide (k∈S))
 has:∀k,gt k->has D (yG k)=decide (k∈S)
def SetAt (w:World) (b n:Nat) (S:List Ky):Prop:=S.length<=n/\∃D:DataW Unit,w.ownsMap prog 47 (plainElem prog 4) b n D/\IsSet D S
theorem SetAt.made (w:World):SetAt (w.alloc<|.map #[] 0) w.1.size 0 []:=
 ⟨kF _,_,World.ownsMap_made w prog 47 _,⟨by simp,λk _=>by simp[DataW.atKey],λk _=>by simp[Maps.has]⟩⟩
theorem SetAt.lt (h:SetAt w b n S):b<w.1.size:=by obtain⟨_,D,h,_⟩:=h;exact h.lt
theorem SetAt.kept {row:Option Nat} (h:SetAt w b n S) (d:w.grownBy w' row) (g:some b≠row):SetAt w' b n S:=by obtain⟨e,D,h,a⟩:=h;exact⟨e,D,h.kept d g,a⟩
theorem SetAt.below {c:Nat} (h:SetAt w b n S) (e:Below c w w') (g:b<c):SetAt w' b n S:=by obtain⟨j,D,⟨es,a,h1,h2⟩,d⟩:=h;exact⟨j,D,⟨es,a,(e.block b g).trans h1,h2⟩,d⟩
theorem SetAt.drew (h:SetAt w b n S):SetAt w.drew b n S:=h
theorem SetAt.alloc (h:SetAt w b n S) (o:Obj):SetAt (w.alloc o) b n S:=h.kept (qT w o none)<|by simp
theorem SetAt.mono {m:Nat} (h:SetAt w b n S) (a:n<=m):SetAt w b m S:=by obtain⟨e,D,h,d⟩:=h;exact⟨kJ e a,D,h.mono a,d⟩
theorem SetAt.put (h:SetAt w b n S) (l:n<maxLen) {k:Ky} (d:gt k):
  ∃w',(Instr.mapUpdate 67 (.map<|some b) (mu k)<|.bool true).run prog w=.ok () w'/\SetAt w' b (n+1) (k::S)/\w.grownBy w' (some b):=by
 obtain⟨o,D,h,j⟩:=h;obtain⟨w',h1,h2,h3⟩:=h.update FS underlying67 l (Ew d)<|plainElem_bool underlying4 true;refine⟨w',h1,⟨by simp only[lF];omega,_,h2,⟨λx a=>?_,λx a=>?_,λx a=>?_⟩⟩,h3⟩
 .rcases lO.1 a with rfl | a
  .exact d
  exact j.ok x a
 .by_cases e:x=k
  .subst e;rw[atKey_put_same h.isMap<|FS.key<|Ew d];simp
  rw[atKey_put_other λg=>e<|Nm a d g,j.at_ x a];simp[e]
 by_cases e:x=k
 .subst e;rw[has_put_same h.isMap<|FS.key<|Ew d];simp
 rw[has_put_other λg=>e<|Nm a d g,j.has x a];simp[e]
theorem SetAt.look (h:SetAt w b n S) {k:Ky} (a:gt k):
  (Instr.lookup 67 (.map<|some b) (mu k) false).run prog w=.ok (.bool<|decide (k∈S)) w:=by
 obtain⟨_,D,h,d⟩:=h;obtain⟨v,ps,h1,h2⟩:=h.lookup FS underlying67 (zeroValue4 w) (plainElem_bool underlying4 false)<|Ew a;rw[h1];rw[d.at_ k a] at h2;cases v<;>simp[plainElem,underlying4] at h2;rw[h2.1]
