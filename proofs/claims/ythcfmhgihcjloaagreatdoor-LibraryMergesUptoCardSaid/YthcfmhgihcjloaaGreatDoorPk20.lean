import Derived.CallsIn
import Derived.OrdersIn
import Derived.Test.YthcfmhgihcjloaaGreatDoorPk19
namespace Go.Proofs.YthcfmhgihcjloaaGreatDoor
open Go Go.RowKit Go.Maps Go.Shelf Tryz
variable {w:World} {b n l:Nat} {a:Act} {Q:Exit->Act->World->Prop} {ops:Array Oper}
attribute [local go_sem] qX
def oY (K:Nat->Ky) (i:Nat):Bool:=decide (K i∉(List.range i).map K)
abbrev Ix (n:Nat):={ i:Nat // i<n }
def eZ (K:Nat->Ky) (n:Nat):(j:Nat)->j<=n->List (Ix n)
 | 0,_=>[]
 | j+1,h=>if oY K j then eZ K n j (pY h)++[⟨j,h⟩] else eZ K n j<|pY h
theorem Nr (K:Nat->Ky) (n:Nat):∀(j:Nat) (h:j<=n),(eZ K n j h).length<=j
 | 0,_=>kF _
 | j+1,h=>by
  have:=Nr K n j<|pY h;unfold eZ;split
  .simp only[kY,lF,mS];omega
  omega
def Ez (n₀:Nat) (W W':World):Prop:=Below n₀ W W'/\KeepsWalks W W'
theorem SetAt.walk {S:List Ky} (h:SetAt w b n S):∃o:Obj,w.1[b]?=some o/\o.isWalk=true:=by obtain⟨_,D,⟨es,d,h1,_⟩,_⟩:=h;exact⟨_,h1,rfl⟩
theorem SetAt.walks {w':World} {S:List Ky} (h:SetAt w b n S) (f:KeepsWalks w w'):SetAt w' b n S:=by obtain⟨g,D,⟨es,d,h1,h2⟩,e⟩:=h;exact⟨g,D,⟨es,d,f.same b _ h1 rfl,h2⟩,e⟩
theorem EA {w':World} (h:Below w.1.size w w'):w.grownBy w' none:=⟨h.os,h.tape,h.output,h.size,λb d _=>h.block b d⟩
set_option maxRecDepth 100000 in
set_option maxHeartbeats 4000000 in
theorem SH (n:Nat) (l B A:Nat) {q:Option Addr} {nn cc:Nat} (X:Nat->List Value) (K:Nat->Ky) (hn:nn<=1048576) (lX:∀i,i<nn->(X i).length=33) (oX:∀i,i<nn->(X i).toArray.all (·.oneCell')=true) (kX:∀i,i<nn->gt (K i))
  (fo:∀i,i<nn->∀z,CallsIn Fence.wide (n - 1) prog 9 #[.agg (X i).toArray] z λe w'=>e=.returned (mu<|K i)/\Below z.1.size z w')
  (J Jx:List (Ix nn)->World->Prop)
  (hY:∀G (x:Ix nn) W,J G W->G.length<nn->YieldAt Fence.wide (n - 1) prog l #[.int .i64 x.1,.agg (X x.1).toArray] W λe C=>
    (e=.returned (.bool true)/\J (G++[x]) C/\Ez A W C)\/(e=.returned (.bool false)/\Jx (G++[x]) C))
  (W:World) (D:AbidesFrom W.1.size J) (u:A<=W.1.size) (hB:W.cell? ⟨B,0,none⟩=some (.slice q nn cc)) (dU:cS W 33 nn q X) (a5:∀b o,q=some ⟨b,o,none⟩->0<nn->b<A) (h0:J [] W):
  CallsIn Fence.wide n prog 26 #[.func (.yield l) #[] #[],.pointer<|some ⟨B,0,none⟩] W λe C=>(∃v,e=.returned v)/\
   ((∃ys:List (Ix nn),ys=eZ K nn nn (kF _)/\J ys C)\/(∃G:List (Ix nn),True/\Jx G C)):=by
 have a':=@run_makeMap prog;refine rH func26 rfl trivial ?_ rfl;simp only[ntmps26,nD,lF,mS,Nat.reduceAdd,Nat.reduceSub,nO,nP,pB,nW,mL,mZ]
 have a1:B<W.1.size:=by
  rcases kS B W.1.size with h | h
  .exact h
  simp[World.cell?,pE h] at hB
 have a8:(W.alloc<|.map #[] 0).cell? ⟨B,0,none⟩=some (.slice q nn cc):=(((kE W.1.size W).alloc (kF _)<|.map #[] 0).cell (p:=⟨B,0,none⟩)<|by exact a1).trans hB;have az:=SetAt.made W;have ax:J [] (W.alloc<|.map #[] 0):=D [] W _ none h0 (qT W _ none) (λr e=>by cases e);have aB:(W.alloc<|.map #[] 0).1.size=W.1.size+1:=by simp
 have a2:Below A W (W.alloc<|.map #[] 0):=((kE W.1.size W).alloc (kF _)<|.map #[] 0).mono u;have hX:=bC dU;have au:=bC lX;have av:=bC oX;clear lX oX dU h0;gi_wp2;generalize W.alloc (.map #[] 0)=W1 at*
 gi_loopw [9] (λi wr=>∃(j:Nat) (g:j<=nn) (S:List Ky),i=.int .i64 j/\SetAt wr W.1.size j S/\Hid (∀k,k∈S↔k∈(List.range j).map K)/\Hid (J (eZ K nn j g) wr)/\Below A W wr/\W.1.size<wr.1.size) (λi _=>nn - (intOf i).toNat)
 case atStart=>exact⟨0,kL _,[],rfl,az,λk=>by simp,ax,a2,by omega⟩
 case round=>
  obtain⟨j,g,S,rfl,hS,ab,al,ao,y⟩:=hrel;by_cases m:j<nn
  .have am:(j:Int)<(nn:Int):=(by omega);obtain⟨b,o,rfl,a9,ap⟩:=hX.out.resolve_left (by omega);have a3:=a5 b o rfl (by omega);have Y:=bU (ap j m) ao a3;have t:=au.out j m;have ox:=av.out j m;have V:=kX j m;have U:=fo j m;clear ap;obtain⟨s,T⟩:∃k,k=K j:=⟨_,rfl⟩;rw[<-T] at V U;have fW:oY K j=decide (s∉S):=(by unfold oY;rw[T];exact nX.2<|not_congr (ab.out<|K j).symm);have fK:∀k,k∈s::S↔k∈(List.range<|j+1).map K:=λk=>by rw[qw,lN,mN,lO,ab.out k,T];simp[or_comm]
   have aq:eZ K nn (j+1) m=if oY K j then eZ K nn j g++[⟨j,m⟩] else eZ K nn j g:=rfl
   have aA:=Nr K nn j g;have Hn:=bC fK;have Hf:=bC aq;have R:=bC<|hY (eZ K nn j g) ⟨j,m⟩;simp only at R;clear ab fK aq hY fo hX au av;obtain⟨d,an⟩:∃x,x=X j:=⟨_,rfl⟩;rw[<-an] at Y t ox U R;clear an T;have L:Below A W (wr.alloc<|.cells d.toArray 44):=ao.alloc (kJ u<|qh y) _;have ra:=bC<|oe wr d 44;have O:wr.1.size<(wr.alloc<|.cells d.toArray 44).1.size:=(by simp);have ac:=hS.alloc<|.cells d.toArray 44;have Z:Hid (J (eZ K nn j g)<|wr.alloc<|.cells d.toArray 44):=D _ wr _ none al.out (qT wr _ none) (λr e=>by cases e);have ae:=U<|wr.alloc<|.cells d.toArray 44;by_cases N:s∈S
   .have a4:decide (s∈S)=true:=lh N
    gi_wp2_with (first
     | (with_reducible refine uX (op:=⟨some 13,_,_,_,_,_⟩) iq 12 b (o+j*33) d Y t ?_)
     | (with_reducible refine DB (op:=⟨none,_,_,_,_,_⟩) iq 5 13 d t ox ?_)
     | (with_reducible refine uX (op:=⟨some 15,_,_,_,_,_⟩) iq 5 wr.1.size 0 d ra.out t ?_)
     | (refine⟨trivial,(λh=>by cases h),?_⟩;gi_at_call 9;refine ae.mono ?_;rintro _ P ⟨rfl,f⟩
        have E:=ac.below f<|by exact nH y O
        have I:=L.trans<|f.mono<|kJ u L.size)
     | (with_reducible refine Cg (op:=⟨some 17,_,_,_,_,_⟩) 14 16 W.1.size j S E s V ?_))
    go_roundw
    case rel=>exact⟨j+1,m,S,by go_num,E.mono<|rt j,λk=>by rw[<-Hn.out k,lO];exact⟨.inr,λh=>h.elim (λe=>e ▸ N) id⟩,by rw[Hf.out,fW,kZ<|by simpa using N];exact D _ _ P none Z.out (EA f) (λr e=>by cases e),I,kw (nH y O) f.size⟩
    case measure=>simp[intOf];omega
   have a4:decide (s∈S)=false:=kQ N
   gi_wp2_with (first
    | (with_reducible refine uX (op:=⟨some 13,_,_,_,_,_⟩) iq 12 b (o+j*33) d Y t ?_)
    | (with_reducible refine DB (op:=⟨none,_,_,_,_,_⟩) iq 5 13 d t ox ?_)
    | (with_reducible refine uX (op:=⟨some 15,_,_,_,_,_⟩) iq 5 wr.1.size 0 d ra.out t ?_)
    | (refine⟨trivial,(λh=>by cases h),?_⟩;gi_at_call 9;refine ae.mono ?_;clear ae;rintro e P ⟨rfl,f⟩
       have E:=ac.below f (by exact nH y O);have I:=L.trans<|f.mono<|kJ u L.size;have r2:=bC<|bU ra.out f O;have af:=kw O f.size;have ai:Hid (J (eZ K nn j g) P):=D _ _ P none Z.out (EA f) (λr e=>by cases e);have ar:=U P
       clear f ac L Z)
    | (with_reducible refine Cg (op:=⟨some 17,_,_,_,_,_⟩) 14 16 W.1.size j S E s V ?_)
    | (with_reducible refine uX (op:=⟨some 19,_,_,_,_,_⟩) iq 5 wr.1.size 0 d r2.out t ?_)
    | (refine⟨trivial,(λh=>by cases h),?_⟩;gi_at_call 9;refine ar.mono ?_;clear ar;rintro e w3 ⟨rfl,F⟩
       have aa:=E.below F (by exact nH y af);have ah:=I.trans<|F.mono<|kJ u I.size;have r3:=bC<|bU r2.out F af;have ag:=kw af F.size;have aj:Hid (J (eZ K nn j g) w3):=D _ _ w3 none ai.out (EA F) λr e=>by cases e
       clear F E I ai)
    | (with_reducible refine J2 (op:=⟨none,_,_,_,_,_⟩) 18 20 W.1.size j S aa (by unfold maxLen;omega) s V ?_
       intro H a0 M;have a7:=kw ag M.size;have aw:Below A W H:=ah.grown M (kJ u<|qh<|nH y ag) (λk e=>by cases e;exact u);have r4:Hid (H.rangeAt wr.1.size 0 d):=λa v h=>(ml (w:=w3) (w':=H)<|M.block wr.1.size ag λe=>by have:=pD e;omega).trans<|r3.out a v h;have ak:J (eZ K nn j g) H:=D _ _ H _ aj.out M (λr e=>by cases e;exact⟨kF _,aa.walk⟩);obtain⟨fn,tmps,assign,body,hy,hR⟩:=R.out H ak<|by omega
       clear M aa ah r3 aj ak R)
    | (with_reducible refine uX (op:=⟨some 23,_,_,_,_,_⟩) iq 5 wr.1.size 0 d r4.out t ?_))
   refine⟨(λh=>by cases h),?_⟩;refine hR.mono ?_;clear hR
   rintro e w5 (⟨rfl,ay,ad⟩ | ⟨rfl,a6⟩)
   .gi_wp2;go_roundw
    case rel=>exact⟨j+1,m,s::S,by go_num,a0.walks ad.2,Hn.out,by rw[Hf.out,fW,kU<|by simpa using N];exact ay,aw.trans ad.1,kw (nH y a7) ad.2.size⟩
    case measure=>simp[intOf];omega
   gi_wp2;refine lJ (results_none rfl _ _ _) rfl ?_;exact⟨⟨_,rfl⟩,.inr ⟨_,trivial,a6⟩⟩
  obtain rfl:j=nn:=(by omega);gi_wp2;go_end0;exact⟨⟨_,rfl⟩,.inl ⟨_,rfl,al.out⟩⟩
theorem SI (n:Nat) (q:Option Addr) (nn cc:Nat) (w:World):
  CallsIn Fence.wide n prog 12 #[.slice q nn cc] w λe w'=>e=.returned (.func (.func 26) #[] #[.pointer<|some ⟨w.1.size,0,none⟩])/\w'=w.alloc (.cells #[.slice q nn cc] 22):=by
 refine rH func12 rfl trivial ?_ rfl;simp only[ntmps12,nD,lF,mS,Nat.reduceAdd,Nat.reduceSub,nO,nP,pB,nW,mL,mZ];gi_wp2;go_ret;exact⟨rfl,rfl⟩
theorem SJ (n:Nat) (d g:Nat) {q:Option Addr} {nn cc:Nat} (X:Nat->List Value) (K:Nat->Ky) (w:World) (A:nn<=1048576) (E:∀i,i<nn->(X i).length=33) (F:∀i,i<nn->(X i).toArray.all (·.oneCell')=true) (D:∀i,i<nn->gt (K i))
  (m:∀i,i<nn->∀z,CallsIn Fence.wide (n - 1) prog 9 #[.agg (X i).toArray] z λe w'=>e=.returned (mu<|K i)/\Below z.1.size z w')
  (B:g<=w.1.size) (s:d<w.1.size) (r:w.cell? ⟨d,0,none⟩=some (.slice q nn cc)) (k:cS w 33 nn q X) (C:∀b o,q=some ⟨b,o,none⟩->0<nn->b<g):
  SeqStopsK Fence.wide n prog 26 #[.pointer<|some ⟨d,0,none⟩] (λx:Ix nn=>#[.int .i64 x.1,.agg (X x.1).toArray]) (Ez g) (λys=>ys=eZ K nn nn (kF _)) (λ_=>True) nn w:=λl J j W f t _ u h0=>
 SH n l d g X K A E F D m J j u W t (kJ B f.size) ((f.cell (p:=⟨d,0,none⟩) s).trans r) (k.imp id λ⟨b,o,e,h,y⟩=>⟨b,o,e,kw h f.size,λi hi=>bU (y i hi) f h⟩) C h0
end Go.Proofs.YthcfmhgihcjloaaGreatDoor
namespace Go.Proofs.YthcfmhgihcjloaaGreatDoor
open Go Go.RowKit Tryz
variable {w:World} {b n l:Nat} {a:Act} {Q:Exit->Act->World->Prop} {ops:Array Oper}
def Qn (K:Act->World->Prop):Exit->Act->World->Prop
 | .normal,a,w=>K a w
 | _,_,_=>False
theorem yJ {f:FuncId} {args:Array Value} {R:Ending->World->Prop} (h:cN f args w R):CallsIn (Fence.wide.inRound l) n prog f args w R:=(qj (n:=n)).2 h
theorem FT {o:Oper} {K:Act->World->Prop} {f:Exit->Act->World->Prop} (g:∀c,o.op≠.defer c) (hQ:∀e a w,¬Q e a w\/e=.normal) (h:o.wp prog a w K Q):o.wpIn (Fence.wide.inRound l) n prog a w K f:=by
 refine⟨λ_ _=>trivial,?_⟩;rw[Oper.semAt_eq _ _ _ g];unfold Oper.wp at h
 revert h
 generalize (execOp a.eval o).run prog w=r;intro h;have nq:∀{e a w},Q e a w->e≠.normal->False:=λh d=>(hQ _ _ _).elim (λn=>n h) d;unfold Oper.upon at h;unfold Oper.uponIn;split at h
 .exact h
 .exact h
 .exact h
 .refine⟨(λh=>by cases h),yJ<|h.mono ?_⟩;intro e w' d
  cases e with
  | returned v=>exact d
  | panicked c=>exact(nq d<|by simp).elim
  | outgrown=>obtain⟨i,j,hq⟩:=d;exact(nq hq<|by simp).elim
 .exact⟨(λh=>by cases h),λc cs _=>let ⟨v,w',r,s⟩:=h c cs;⟨v,w',r,stepsIn_wide.2 s⟩⟩
 .exact(nq h<|by simp).elim
 exact h.elim
def uR (ops:Array Oper):Bool:=ops.all λo=>match o.op with | .defer _=>false | _=>true
theorem Hi {K:Act->World->Prop} (d:uR ops=true) (hq:∀a w,K a w->Q .normal a w):∀(fuel:Nat) (listed:Array Bool) (a:Act) (w:World),wpAny prog .any ops (Qn K) fuel listed a w->wpAnyIn (Fence.wide.inRound l) n prog .any ops Q fuel listed a w
 | 0,_,_,_,h=>⟨h.1,hq _ _ h.2⟩
 | fuel+1,listed,a,w,h=>by
  refine⟨λe=>hq _ _<|h.1 e,λi hi=>?_⟩;have h2:=h.2 i hi;unfold wpOp at h2;unfold wpOpIn
  cases f:ops[i]? with
  | none=>rw[f] at h2;exact Hi d hq fuel _ a w h2
  | some o=>
   rw[f] at h2;simp only at h2 ⊢;have j:∀c,o.op≠.defer c:=λc e=>(by have:=Array.all_eq_true'.1 d o<|qJ f;rw[e] at this;cases this);split
   .rename_i g;rw[kU g] at h2
    rcases h2 with h2 | ⟨_,k,w',h3⟩
    .refine FT j (λe a w=>?_) (Oper.wp_mono (λa w h=>Hi d hq fuel _ a w h) h2)
     cases e<;>first | exact .inr rfl | exact .inl λh=>h
    exact h3.elim
   rename_i g;rw[kZ g] at h2;exact⟨λ_ _=>trivial,Hi d hq fuel _ _ w h2⟩
theorem Ns {id:Nat} {S:World->Prop} (f:prog.follows .mixedOrders=true) (e:uR ops=true) (d:S w.drew)
  (h:S w.drew->wpAnyH prog .any ops (Qn<|Q .normal) S ops.size (Array.replicate ops.size false) a w.drew):(Code.region id ops true).wpIn (Fence.wide.inRound l) n prog Q a w:=
 wpIn_region_any f (Hi e (λ_ _ h=>h) _ _ _ _<|wpAny_of_held _ _ _ _<|h d)
theorem J3 {id:Nat} {S:World->Prop} (g:prog.follows .mixedOrders=true) (f:S w.drew)
  (h:S w.drew->wpAnyH prog .any ops (Qn<|Q .normal) S ops.size (Array.replicate ops.size false) a w.drew):(Code.region id ops true).wp prog Q a w:=
 wp_mono (kN g f h) λe a w d=>by cases e<;>first | exact d | exact d.elim
theorem DC {d:Region.Mode} {S:World->Prop} {listed:Array Bool} (e:Region.ready d ops listed=[]) (h:Q .normal a w) (fuel:Nat):wpAnyH prog d ops (Qn<|Q .normal) S fuel listed a w:=kV (Q:=Qn<|Q .normal) e (show Qn (Q .normal) .normal a w from h) fuel
theorem DD {o:Nat} {xs ys:List Value} (h:w.rangeAt b o (xs++ys)):w.rangeAt b o xs:=λj u hu=>
 h j u (by rw[lW (lC.1 hu).1];exact hu)
theorem zI {o:Nat} {xs:List Value} {v:Value} (h:w.rangeAt b o (xs++[v])) (l:xs.length=n):w.cell? ⟨b,o+n,none⟩=some v:=
 h n v (by rw[mz<|by omega,l,tB];rfl)
def gE (x:List Value) (s:Bool):List Value:=x++[.bool s]
def oJ (g:List Value) (st:Bool) (bq:Option Addr) (nb bc:Nat) (cq:Option Addr) (nc cc:Nat):List Value:=g++[.bool st,.slice bq nb bc,.slice cq nc cc]
theorem EB {z:World} {nb bc nc cc:Nat} {g:List Value} {st:Bool} {bq cq:Option Addr} (h:z.rangeAt b 0 (oJ g st bq nb bc cq nc cc)) (l:g.length=7):
  z.rangeAt b 0 g/\z.cell? ⟨b,7,none⟩=some (.bool st)/\z.cell? ⟨b,8,none⟩=some (.slice bq nb bc)/\z.cell? ⟨b,9,none⟩=some (.slice cq nc cc):=by
 unfold oJ at h
 have k:∀j u,[Value.bool st,.slice bq nb bc,.slice cq nc cc][j]?=some u->z.cell? ⟨b,7+j,none⟩=some u:=λj u hu=>by
  have:=h (7+j) u<|by rw[mz<|by omega,l,qp];exact hu
  rwa [mF] at this
 exact⟨DD h,k 0 _ rfl,k 1 _ rfl,k 2 _ rfl⟩
theorem J4 {k:Nat} {P:Nat->Bool} (h:∀j,j<k->P j=true) (e:P k=true):∀j,j<k+1->P j=true:=λj d=>by
 rcases pf.1 d with d | rfl
 .exact h j d
 exact e
theorem yK {k:Nat} {P:Nat->Bool} (d:k<n) (h:P k=false):(List.range n).all P=false:=by rw[lV];exact⟨k,kP.2 d,by rw[h];simp⟩
theorem J6 {P:Nat->Bool} (h:∀j,j<n->P j=true):(List.range n).all P=true:=lj.2 λi hi=>h i<|kP.1 hi
set_option maxRecDepth 100000 in
set_option maxHeartbeats 8000000 in
theorem SK {g1 g2:List Value} {st1 st2 G B:Bool} {ae ag cq1 cq2:Option Addr} {al an ac ad g q cc1 cc2:Nat} (s t:Nat->Bool) (x y:Nat->List Value) (E:Nat->Bool) (a':g<=1048576) (aA:q<=1048576) (l1:g1.length=7) (l2:g2.length=7) (lx:∀i,i<g->(x i).length=7) (ly:∀i,i<q->(y i).length=7)
  (h1:cS w 8 g cq1 λi=>gE (x i)<|s i) (h2:cS w 8 q cq2 λi=>gE (y i)<|t i)
  (hG:CA w 75 #[.agg g1.toArray,.agg g2.toArray] (.bool G))
  (hB:CA w 76 #[.slice ae al ac,.slice ag an ad] (.bool B))
  (hE:∀i,i<g->i<q->CA w 75 #[.agg (x i).toArray,.agg (y i).toArray] (.bool<|E i)):
  bF w 50 #[.agg (oJ g1 st1 ae al ac cq1 g cc1).toArray,.agg (oJ g2 st2 ag an ad cq2 q cc2).toArray] (.bool<|G&&(st1==st2&&(B&&(decide (g=q)&&(List.range g).all λi=>E i&&s i==t i)))):=by
 obtain⟨D,hD⟩:∃b,(st1==st2)=b:=⟨_,rfl⟩;rw[hD];have H1:=bC h1;have H2:=bC h2;have az:=bC hE;clear h1 h2 hE;generalize a1:oJ g1 st1 ae al ac cq1 g cc1=R at*;generalize a2:oJ g2 st2 ag an ad cq2 q cc2=T at*;have hR:Hid (((w.alloc<|.cells R.toArray 37).alloc<|.cells T.toArray 37).rangeAt w.1.size 0 R/\((w.alloc<|.cells R.toArray 37).alloc<|.cells T.toArray 37).rangeAt (w.1.size+1) 0 T):=oI;have H:=bC<|dF w (.cells R.toArray 37)<|.cells T.toArray 37;have e:w.1.size+1<((w.alloc<|.cells R.toArray 37).alloc<|.cells T.toArray 37).1.size:=by simp
 have L:=hG _ H.out;clear hG;go_enter func50,ntmps50;go_upto_region 1 with fail;generalize (w.alloc _).alloc _=w1 at*;subst a1 a2;obtain⟨a6,I,U,W⟩:=EB hR.out.1 l1;obtain⟨b6,J,V,Y⟩:=EB hR.out.2 l2;have C:=bC a6;have F:=bC b6;clear a6 b6 hR
 cases G with
 | false=>
  go_wp2_with (first
   | (with_reducible refine cW (op:=⟨some 7,_,_,_,_,_⟩) eU 6 _ 0 g1 C.out l1 ?_)
   | (with_reducible refine cW (op:=⟨some 9,_,_,_,_,_⟩) eU 8 _ 0 g2 F.out l2 ?_)
   | (go_at_call 75;with_reducible refine jR L λw2 f=>?_))
  go_ret;exact⟨rfl,cV H.out f⟩
 | true=>
  cases D with
  | false=>
   go_wp2_with (first
    | (with_reducible refine cW (op:=⟨some 7,_,_,_,_,_⟩) eU 6 _ 0 g1 C.out l1 ?_)
    | (with_reducible refine cW (op:=⟨some 9,_,_,_,_,_⟩) eU 8 _ 0 g2 F.out l2 ?_)
    | (go_at_call 75;with_reducible refine jR L λw2 f=>?_
       have c7:=fg f (lp e) I
       have d7:=fg f e J))
   go_ret;exact⟨rfl,cV H.out f⟩
  | true=>
   cases B with
   | false=>
    go_wp2_with (first
     | (with_reducible refine cW (op:=⟨some 7,_,_,_,_,_⟩) eU 6 _ 0 g1 C.out l1 ?_)
     | (with_reducible refine cW (op:=⟨some 9,_,_,_,_,_⟩) eU 8 _ 0 g2 F.out l2 ?_)
     | (go_at_call 75;with_reducible refine jR L λw2 f=>?_
        have r:=cV H.out f;have c7:=fg f (lp e) I;have d7:=fg f e J;have c8:=fg f (lp e) U;have d8:=fg f e V;have K:=hB _ r
        clear f)
     | (go_at_call 76;with_reducible refine jR K λN m=>?_))
    go_ret;exact⟨rfl,cV r m⟩
   | true=>
    by_cases ar:g=q
    .subst ar;obtain⟨aa,hA⟩:∃b,Hid (((List.range g).all λi=>E i&&s i==t i)=b):=⟨_,rfl⟩;have ah:(true&&(true&&(true&&(decide (g=g)&&(List.range g).all λi=>E i&&s i==t i))))=aa:=by rw[<-hA.out];simp
     go_wp2_with (first
      | (with_reducible refine cW (op:=⟨some 7,_,_,_,_,_⟩) eU 6 _ 0 g1 C.out l1 ?_)
      | (with_reducible refine cW (op:=⟨some 9,_,_,_,_,_⟩) eU 8 _ 0 g2 F.out l2 ?_)
      | (go_at_call 75;with_reducible refine jR L λw2 f=>?_
         have r:=cV H.out f;have M:=kw e f.size;have c7:=fg f (lp e) I;have d7:=fg f e J;have c8:=fg f (lp e) U;have d8:=fg f e V;have c9:=fg f (lp e) W;have d9:=fg f e Y;have K:=hB _ r
         clear f I U W J V Y)
      | (go_at_call 76;with_reducible refine jR K λN m=>?_
         have O:=cV r m;have ai:=kw M m.size;have e9:=fg m (lp M) c9;have f9:=fg m M d9
         clear m K L c7 d7 c8 d8 c9 d9 C F))
     go_loopw [5] (λi wr=>∃k:Nat,k<=g/\i=.int .i64 k/\Hid (∀j,j<k->(E j&&s j==t j)=true)/\Below N.1.size N wr) (λi _=>g - (intOf i).toNat)
     case atStart=>exact⟨0,kL _,rfl,λj hj=>by omega,kE _ _⟩
     case round=>
      obtain⟨k,hk,rfl,aI,u⟩:=hrel;have aw:=kw ai u.size;have c1:=fg u (lp ai) e9;have c2:=fg u ai f9;by_cases A:k<g
      .have am:(k:Int)<(g:Int):=(by omega);obtain⟨b,o,rfl,aq,au⟩:=H1.out.resolve_left (by omega);obtain⟨X,o2,rfl,aR,av⟩:=H2.out.resolve_left (by omega);have P:=cV O u;have gx:Hid (wr.rangeAt b (o+k*8)<|gE (x k)<|s k):=bU (au k A) P aq;have gy:Hid (wr.rangeAt X (o2+k*8)<|gE (y k)<|t k):=bU (av k A) P aR;have a0:=az.out k A A;have aj:=lx k A;have ak:=ly k A;have ab:Hid ((E k&&s k==t k)=false->aa=false):=λh=>hA.out.symm.trans<|yK A h;have ao:Hid ((E k&&s k==t k)=true->∀j,j<k+1->(E j&&s j==t j)=true):=λh=>J4 aI.out h;have a3:=kw aq P.size;have a4:=kw aR P.size;clear au av;generalize s k=sk at*;generalize t k=uk at*;generalize E k=Ek at*;generalize x k=xk at*;generalize y k=yk at*;obtain⟨Dk,ay⟩:∃b,(sk==uk)=b:=⟨_,rfl⟩;rw[ay] at ab ao;go_wp2_with fail;refine kN (S:=λz=>z.cell? ⟨w.1.size,9,none⟩=some (.slice (some ⟨b,o,none⟩) g cc1)/\z.cell? ⟨w.1.size+1,9,none⟩=some (.slice (some ⟨X,o2,none⟩) g cc2)/\z.rangeAt b (o+k*8) (gE xk sk)/\z.rangeAt X (o2+k*8) (gE yk uk)) (by kernel_rfl) ⟨c1,c2,gx.out,gy.out⟩ λd=>?_;refine tk 0 _ rfl d ?_;refine tk 1 _ rfl d ?_ (.inl ⟨by rfl,λz e=>by have h:=e.1;go_simp<;>with_reducible rfl⟩);refine tk 2 _ rfl d ?_;refine tk 3 _ rfl d ?_;refine tk 4 _ rfl d ?_;refine fE eU 5 47 b (o+k*8) xk aj rfl d (λz h=>DD h.2.2.1) ?_;refine tk 6 _ rfl d ?_;refine tk 7 _ rfl d ?_ (.inl ⟨by rfl,λz e=>by have h:=e.2.1;go_simp<;>with_reducible rfl⟩);refine tk 8 _ rfl d ?_;refine tk 9 _ rfl d ?_;refine tk 10 _ rfl d ?_;refine fE eU 11 53 X (o2+k*8) yk ak rfl d (λz h=>DD h.2.2.2) ?_;refine dy 12 rfl λax hK=>?_;go_simp;refine jR (a0 _ P.drew) λw5 ap=>?_;have B5:Below N.1.size N w5:=u.drew.trans<|ap.mono u.size;have W5:=cV O B5;have Z:Below wr.1.size wr w5:=(kE _ _).drew.trans ap;refine hK.out _ _ ⟨fg Z (lp aw) c1,fg Z aw c2,bU gx.out Z a3,bU gy.out Z a4⟩ λd=>?_;clear hK ax
       cases Ek with
       | false=>obtain rfl:=ab.out rfl;refine tk 13 _ rfl d ?_;refine tk 14 _ rfl d ?_;refine tk 15 undef rfl d ?_ (.inr ⟨by rfl,rfl⟩);refine tk 16 undef rfl d ?_ (.inr ⟨by rfl,rfl⟩);refine tk 17 undef rfl d ?_ (.inr ⟨by rfl,rfl⟩);refine tk 18 undef rfl d ?_ (.inr ⟨by rfl,rfl⟩);refine tk 19 undef rfl d ?_ (.inr ⟨by rfl,rfl⟩);refine tk 20 undef rfl d ?_ (.inr ⟨by rfl,rfl⟩);refine tk 21 undef rfl d ?_ (.inr ⟨by rfl,rfl⟩);refine tk 22 undef rfl d ?_ (.inr ⟨by rfl,rfl⟩);refine tk 23 undef rfl d ?_ (.inr ⟨by rfl,rfl⟩);refine tk 24 undef rfl d ?_ (.inr ⟨by rfl,rfl⟩);refine tk 25 undef rfl d ?_ (.inr ⟨by rfl,rfl⟩);refine tk 26 undef rfl d ?_ (.inr ⟨by rfl,rfl⟩);refine tk 27 undef rfl d ?_ (.inr ⟨by rfl,rfl⟩);refine tk 28 _ rfl d ?_;refine kV (by kernel_rfl) ?_ _;go_wp2_with fail;go_ret;exact⟨ah.symm ▸ rfl,W5⟩
       | true=>
        cases Dk with
        | false=>obtain rfl:=ab.out rfl;refine tk 13 _ rfl d ?_;refine tk 14 _ rfl d ?_;refine tk 15 _ rfl d ?_;refine tk 16 _ rfl d ?_ (.inl ⟨by rfl,λz e=>by have h:=e.1;go_simp<;>with_reducible rfl⟩);refine tk 17 _ rfl d ?_;refine tk 18 _ rfl d ?_;refine tk 19 _ rfl d ?_;refine tk 20 (.bool sk) rfl d ?_ (.inl ⟨by rfl,λz e=>by have h:=zI e.2.2.1 aj;go_simp<;>with_reducible rfl⟩);refine tk 21 _ rfl d ?_;refine tk 22 _ rfl d ?_ (.inl ⟨by rfl,λz e=>by have h:=e.2.1;go_simp<;>with_reducible rfl⟩);refine tk 23 _ rfl d ?_;refine tk 24 _ rfl d ?_;refine tk 25 _ rfl d ?_;refine tk 26 (.bool uk) rfl d ?_ (.inl ⟨by rfl,λz e=>by have h:=zI e.2.2.2 ak;go_simp<;>with_reducible rfl⟩);refine tk 27 _ rfl d ?_;refine tk 28 _ rfl d ?_;refine kV (by kernel_rfl) ?_ _;go_wp2_with fail;go_ret;exact⟨ah.symm ▸ rfl,W5⟩
        | true=>
         refine tk 13 _ rfl d ?_;refine tk 14 _ rfl d ?_;refine tk 15 _ rfl d ?_;refine tk 16 _ rfl d ?_ (.inl ⟨by rfl,λz e=>by have h:=e.1;go_simp<;>with_reducible rfl⟩);refine tk 17 _ rfl d ?_;refine tk 18 _ rfl d ?_;refine tk 19 _ rfl d ?_;refine tk 20 (.bool sk) rfl d ?_ (.inl ⟨by rfl,λz e=>by have h:=zI e.2.2.1 aj;go_simp<;>with_reducible rfl⟩);refine tk 21 _ rfl d ?_;refine tk 22 _ rfl d ?_ (.inl ⟨by rfl,λz e=>by have h:=e.2.1;go_simp<;>with_reducible rfl⟩);refine tk 23 _ rfl d ?_;refine tk 24 _ rfl d ?_;refine tk 25 _ rfl d ?_;refine tk 26 (.bool uk) rfl d ?_ (.inl ⟨by rfl,λz e=>by have h:=zI e.2.2.2 ak;go_simp<;>with_reducible rfl⟩);refine tk 27 _ rfl d ?_;refine tk 28 _ rfl d ?_;refine kV (by kernel_rfl) ?_ _;go_wp2_with fail;go_roundw
         case rel=>exact⟨k+1,by omega,by go_num,ao.out rfl,B5⟩
         case measure=>simp[intOf];omega
      obtain rfl:k=g:=(by omega);obtain rfl:aa=true:=hA.out.symm.trans<|J6 aI.out;go_wp2_with fail;go_ret;exact⟨ah.symm ▸ rfl,cV O u⟩
    have a5:¬(g:Int)=(q:Int):=by omega
    go_wp2_with (first
     | (with_reducible refine cW (op:=⟨some 7,_,_,_,_,_⟩) eU 6 _ 0 g1 C.out l1 ?_)
     | (with_reducible refine cW (op:=⟨some 9,_,_,_,_,_⟩) eU 8 _ 0 g2 F.out l2 ?_)
     | (go_at_call 75;with_reducible refine jR L λw2 f=>?_
        have r:=cV H.out f;have M:=kw e f.size;have c7:=fg f (lp e) I;have d7:=fg f e J;have c8:=fg f (lp e) U;have d8:=fg f e V;have c9:=fg f (lp e) W;have d9:=fg f e Y;have K:=hB _ r
        clear f I U W J V Y)
     | (go_at_call 76;with_reducible refine jR K λN m=>?_
        have O:=cV r m;have e9:=fg m (lp M) c9;have f9:=fg m M d9
        clear m))
    go_ret;exact⟨by simp[ar],O⟩
set_option maxRecDepth 100000 in
set_option maxHeartbeats 8000000 in
theorem SL {g1 g2:List Value} {st:Bool} {Y Z cq1 cq2:Option Addr} {nb W X nc cc1 cc2:Nat} (u:Nat->ByteArray) (xs ys:Nat->List Value) (s:Nat->Bool) (x y:Nat->List Value)
  (hm:nb<=1048576) (hn:nc<=1048576) (l1:g1.length=7) (l2:g2.length=7) (aj:∀i,i<nb->(xs i).length=8) (ak:∀i,i<nb->(ys i).length=8) (lx:∀i,i<nc->(x i).length=7) (ly:∀i,i<nc->(y i).length=7)
  (h1:cS w 9 nb Y λi=>.string (u i)::xs i) (h2:cS w 9 nb Z λi=>.string (u i)::ys i) (h3:cS w 8 nc cq1 λi=>gE (x i)<|s i) (h4:cS w 8 nc cq2 λi=>gE (y i)<|s i)
  (hG:CA w 52 #[.agg g1.toArray,.agg g2.toArray] (.bool true))
  (hE:∀i,i<nb->CA w 54 #[.agg (xs i).toArray,.agg (ys i).toArray] (.bool true))
  (hF:∀i,i<nc->CA w 52 #[.agg (x i).toArray,.agg (y i).toArray] (.bool true)):
  bF w 31 #[.agg (oJ g1 st Y nb W cq1 nc cc1).toArray,.agg (oJ g2 st Z nb X cq2 nc cc2).toArray] (.bool true):=by
 have H1:=bC h1;have H2:=bC h2;have H3:=bC h3;have H4:=bC h4;have ad:=bC hE;have ag:=bC hF;clear h1 h2 h3 h4 hE hF;generalize ah:oJ g1 st Y nb W cq1 nc cc1=C at*;generalize ai:oJ g2 st Z nb X cq2 nc cc2=D at*;have hR:Hid (((w.alloc<|.cells C.toArray 37).alloc<|.cells D.toArray 37).rangeAt w.1.size 0 C/\((w.alloc<|.cells C.toArray 37).alloc<|.cells D.toArray 37).rangeAt (w.1.size+1) 0 D):=oI;have V:=bC<|dF w (.cells C.toArray 37)<|.cells D.toArray 37;have e:w.1.size+1<((w.alloc<|.cells C.toArray 37).alloc<|.cells D.toArray 37).1.size:=by simp
 have ae:=hG _ V.out;clear hG;go_enter func31,ntmps31;go_upto_region 1 with fail;generalize (w.alloc _).alloc _=w1 at*;subst ah ai;obtain⟨a6,a7,a8,a9⟩:=EB hR.out.1 l1;obtain⟨b6,b7,b8,b9⟩:=EB hR.out.2 l2;have A6:=bC a6;have B6:=bC b6;clear a6 b6 hR
 go_wp2_with (first
  | (with_reducible refine cW (op:=⟨some 8,_,_,_,_,_⟩) eU 7 _ 0 g1 A6.out l1 ?_)
  | (with_reducible refine cW (op:=⟨some 10,_,_,_,_,_⟩) eU 9 _ 0 g2 B6.out l2 ?_)
  | (go_at_call 52;with_reducible refine jR ae λR A=>?_
     have N:=cV V.out A;have q:=kw e A.size;have c7:=fg A (lp e) a7;have d7:=fg A e b7;have c8:=fg A (lp e) a8;have d8:=fg A e b8;have c9:=fg A (lp e) a9;have d9:=fg A e b9
     clear A a7 a8 a9 b7 b8 b9 A6 B6 ae e V))
 go_loopw [41] (λi wr=>∃k:Nat,k<=nb/\i=.int .i64 k/\Below R.1.size R wr) (λi _=>nb - (intOf i).toNat)
 case atStart=>exact⟨0,kL _,rfl,kE _ _⟩
 case round=>
  obtain⟨k,hk,rfl,f⟩:=hrel;have g:=cV N f;have B:=kw q f.size;have k1:=fg f (lp q) c8;have k2:=fg f q d8;by_cases j:k<nb
  .have am:(k:Int)<(nb:Int):=(by omega);obtain⟨b,o,rfl,J,L⟩:=H1.out.resolve_left (by omega);obtain⟨m,r,rfl,E,M⟩:=H2.out.resolve_left (by omega);have F:Hid (wr.rangeAt b (o+k*9) (.string (u k)::xs k)):=bU (L k j) g J;have G:Hid (wr.rangeAt m (r+k*9) (.string (u k)::ys k)):=bU (M k j) g E;have aa:=ad.out k j;have ab:=kw J g.size;have ac:=kw E g.size;have O:=aj k j;have P:=ak k j;clear L M;go_wp2_with fail;refine kN (S:=λz=>z.cell? ⟨w.1.size,8,none⟩=some (.slice (some ⟨b,o,none⟩) nb W)/\z.cell? ⟨w.1.size+1,8,none⟩=some (.slice (some ⟨m,r,none⟩) nb X)/\z.rangeAt b (o+k*9) (.string (u k)::xs k)/\z.rangeAt m (r+k*9) (.string (u k)::ys k)) (by kernel_rfl) ⟨k1,k2,F.out,G.out⟩ λd=>?_;refine tk 0 _ rfl d ?_;refine tk 1 _ rfl d ?_ (.inl ⟨by rfl,λz e=>by have h:=e.1;go_simp<;>with_reducible rfl⟩);refine tk 2 _ rfl d ?_;refine tk 3 _ rfl d ?_;refine tk 4 _ rfl d ?_;refine tk 5 (.string<|u k) rfl d ?_ (.inl ⟨by rfl,λz e=>by have h:=(show z.cell? ⟨b,o+k*9,none⟩=some (.string<|u k) from e.2.2.1 0 _ rfl);go_simp<;>with_reducible rfl⟩);refine tk 6 _ rfl d ?_;refine tk 7 _ rfl d ?_ (.inl ⟨by rfl,λz e=>by have h:=e.2.1;go_simp<;>with_reducible rfl⟩);refine tk 8 _ rfl d ?_;refine tk 9 _ rfl d ?_;refine tk 10 _ rfl d ?_;refine tk 11 (.string<|u k) rfl d ?_ (.inl ⟨by rfl,λz e=>by have h:=(show z.cell? ⟨m,r+k*9,none⟩=some (.string<|u k) from e.2.2.2 0 _ rfl);go_simp<;>with_reducible rfl⟩);refine tk 12 _ rfl d ?_;refine tk 13 _ rfl d ?_;refine tk 14 _ rfl d ?_;refine tk 15 _ rfl d ?_ (.inl ⟨by rfl,λz e=>by have h:=e.1;go_simp<;>with_reducible rfl⟩);refine tk 16 _ rfl d ?_;refine tk 17 _ rfl d ?_;refine tk 18 _ rfl d ?_;refine fE oG 19 62 b (o+k*9+1) (xs k) O rfl d (λz h=>Ey h.2.2.1) ?_;refine tk 20 _ rfl d ?_;refine tk 21 _ rfl d ?_ (.inl ⟨by rfl,λz e=>by have h:=e.2.1;go_simp<;>with_reducible rfl⟩);refine tk 22 _ rfl d ?_;refine tk 23 _ rfl d ?_;refine tk 24 _ rfl d ?_;refine fE oG 25 68 m (r+k*9+1) (ys k) P rfl d (λz h=>Ey h.2.2.2) ?_;refine dy 26 rfl λK H=>?_;go_simp;refine jR (aa _ g.drew) λw5 I=>?_;have U:Below R.1.size R w5:=f.drew.trans<|I.mono f.size;have t:Below wr.1.size wr w5:=(kE _ _).drew.trans I;refine H.out _ _ ⟨fg t (lp B) k1,fg t B k2,bU F.out t ab,bU G.out t ac⟩ λd=>?_;clear H K;refine tk 27 _ rfl d ?_;refine tk 28 _ rfl d ?_;refine kV (by kernel_rfl) ?_ _;go_wp2_with fail;go_roundw
   case rel=>exact⟨k+1,by omega,by go_num,U⟩
   case measure=>simp[intOf];omega
  obtain rfl:k=nb:=(by omega);have e9:=fg f (lp q) c9;have f9:=fg f q d9;clear ad H1 H2 k1 k2 c8 d8 c9 d9 q N f;generalize al:wr=T at*;have N:=g;have q:=B;clear g B;go_wp2_with fail
  go_loopw [77] (λi wr=>∃k:Nat,k<=nc/\i=.int .i64 k/\Below T.1.size T wr) (λi _=>nc - (intOf i).toNat)
  case atStart=>exact⟨0,kL _,rfl,kE _ _⟩
  case round=>
   obtain⟨k,hk,rfl,f⟩:=hrel;have g:=cV N f;have B:=kw q f.size;have k1:=fg f (lp q) e9;have k2:=fg f q f9;by_cases j:k<nc
   .have am:(k:Int)<(nc:Int):=(by omega);obtain⟨b,o,rfl,J,L⟩:=H3.out.resolve_left (by omega);obtain⟨m,r,rfl,E,M⟩:=H4.out.resolve_left (by omega);have F:Hid (wr.rangeAt b (o+k*8)<|gE (x k)<|s k):=bU (L k j) g J;have G:Hid (wr.rangeAt m (r+k*8)<|gE (y k)<|s k):=bU (M k j) g E;have aa:=ag.out k j;have ab:=kw J g.size;have ac:=kw E g.size;have O:=lx k j;have P:=ly k j;clear L M;go_wp2_with fail;refine kN (S:=λz=>z.cell? ⟨w.1.size,9,none⟩=some (.slice (some ⟨b,o,none⟩) nc cc1)/\z.cell? ⟨w.1.size+1,9,none⟩=some (.slice (some ⟨m,r,none⟩) nc cc2)/\z.rangeAt b (o+k*8) (gE (x k)<|s k)/\z.rangeAt m (r+k*8) (gE (y k)<|s k)) (by kernel_rfl) ⟨k1,k2,F.out,G.out⟩ λd=>?_;refine tk 0 _ rfl d ?_;refine tk 1 _ rfl d ?_ (.inl ⟨by rfl,λz e=>by have h:=e.1;go_simp<;>with_reducible rfl⟩);refine tk 2 _ rfl d ?_;refine tk 3 _ rfl d ?_;refine tk 4 _ rfl d ?_;refine tk 5 (.bool<|s k) rfl d ?_ (.inl ⟨by rfl,λz e=>by have h:=zI e.2.2.1 O;go_simp<;>with_reducible rfl⟩);refine tk 6 _ rfl d ?_;refine tk 7 _ rfl d ?_ (.inl ⟨by rfl,λz e=>by have h:=e.2.1;go_simp<;>with_reducible rfl⟩);refine tk 8 _ rfl d ?_;refine tk 9 _ rfl d ?_;refine tk 10 _ rfl d ?_;refine tk 11 (.bool<|s k) rfl d ?_ (.inl ⟨by rfl,λz e=>by have h:=zI e.2.2.2 P;go_simp<;>with_reducible rfl⟩);refine tk 12 _ rfl d ?_;refine tk 13 _ rfl d ?_;refine tk 14 _ rfl d ?_;refine tk 15 _ rfl d ?_ (.inl ⟨by rfl,λz e=>by have h:=e.1;go_simp<;>with_reducible rfl⟩);refine tk 16 _ rfl d ?_;refine tk 17 _ rfl d ?_;refine tk 18 _ rfl d ?_;refine fE eU 19 98 b (o+k*8) (x k) O rfl d (λz h=>DD h.2.2.1) ?_;refine tk 20 _ rfl d ?_;refine tk 21 _ rfl d ?_ (.inl ⟨by rfl,λz e=>by have h:=e.2.1;go_simp<;>with_reducible rfl⟩);refine tk 22 _ rfl d ?_;refine tk 23 _ rfl d ?_;refine tk 24 _ rfl d ?_;refine fE eU 25 104 m (r+k*8) (y k) P rfl d (λz h=>DD h.2.2.2) ?_;refine dy 26 rfl λK H=>?_;go_simp;refine jR (aa _ g.drew) λw5 I=>?_;have U:Below T.1.size T w5:=f.drew.trans<|I.mono f.size;have t:Below wr.1.size wr w5:=(kE _ _).drew.trans I;refine H.out _ _ ⟨fg t (lp B) k1,fg t B k2,bU F.out t ab,bU G.out t ac⟩ λd=>?_;clear H K;refine tk 27 _ rfl d ?_;refine tk 28 _ rfl d ?_;refine kV (by kernel_rfl) ?_ _;go_wp2_with fail;go_roundw
    case rel=>exact⟨k+1,by omega,by go_num,U⟩
    case measure=>simp[intOf];omega
   obtain rfl:k=nc:=(by omega);go_wp2_with fail;go_ret;exact⟨rfl,g⟩
set_option maxRecDepth 100000
set_option maxHeartbeats 16000000
theorem SM {q1 q2:Option Addr} {m c1 c2:Nat} (h:n=0\/m=0):
  cN 140 #[.slice q1 n c1,.slice q2 m c2] w λe w'=>e=.returned (.slice none 0 0)/\w'=w:=by
 by_cases h1:n=0
 .subst h1;go_enter func140,ntmps140;go_wp2_with fail;go_ret;exact⟨rfl,rfl⟩
 obtain rfl:m=0:=by omega
 have e1:((n:Int)==0)=false:=by simp;omega
 go_enter func140,ntmps140;go_wp2_with fail;go_ret;exact⟨rfl,rfl⟩
theorem SN (b o cap q F aa n:Nat) (xs ys:List Int) (w:World) (X:xs.length+ys.length=n) (hn:n<=549755813888) (ar:0<xs.length) (au:0<ys.length) (ae:cB xs) (M:cB ys)
  (B:∀i,i<xs.length->w.cell? ⟨b,o+i,none⟩=some (.int .u32<|xs.getD i 0)) (K:∀i,i<ys.length->w.cell? ⟨q,F+i,none⟩=some (.int .u32<|ys.getD i 0)) (ac:b<w.1.size) (ad:q<w.1.size):
  cN 140 #[.slice (some ⟨b,o,none⟩) xs.length cap,.slice (some ⟨q,F,none⟩) ys.length aa] w λe w'=>∃u os,Out xs ys n xs.length os/\e=.returned u/\Sl w' u (bE os)/\Below w.1.size w w':=by
 obtain⟨i0,hi,S,T,U⟩:=mE (show(prog.info? 120).map (λi=>(i.zero,i.size,i.bytes))=some (some<|.int .u32 0,1,4) by kernel_rfl);have ex:((xs.length:Int)==0)=false:=qR.2 (by omega);have ey:((ys.length:Int)==0)=false:=qR.2 (by omega);go_enter func140,ntmps140;go_wp2_with (at_make;refine nM _ rfl _ _ 28 rfl w.1.size 120 i0 (.int .u32 0) 1 underlying28 hi S T _ _ _ _ n rfl rfl (by omega) (by omega) (by rw[U];omega) (by unfold maxLen;omega) (kF _) ?_);intro V I G;have Y:Blk V w.1.size (List.replicate n 0):=zz I;have Z:Below w.1.size w V:=(kE _ _).grown G (kF _) (λ_ ab=>by cases ab);clear I G hi S T U ex ey;go_wp2
 go_loopw [28] (λi wr=>∃(k:Nat) (os:List Int),k<=xs.length/\i=.int .i64 k/\Out xs ys n k os/\Blk wr w.1.size os/\Below w.1.size w wr) (λi _=>xs.length - (intOf i).toNat)
 case atStart=>exact⟨0,_,kL _,rfl,Out.zero xs ys n,Y,Z⟩
 case round=>
  obtain⟨k,os,hk,rfl,g,A,r⟩:=hrel;by_cases C:k<xs.length
  .have eO:wr.cell? ⟨b,o+k,none⟩=some (.int .u32<|xs.getD k 0):=fg r ac<|B k C;have am:(k:Int)<(xs.length:Int):=(by omega);have s:=ae k;have R:=g.start;have H:=λf cc=>Out.row (os:=f) (c:=cc) g C X;generalize xs.getD k 0=x at eO s R H;have ao:=bC B;go_wp2_with fail;have L:decide (k<xs.length)=true:=by simp[C]
   try rw[L]
   clear L
   go_loopw [35,8] (λi c W=>∃(m:Nat) (f:List Int) (cc:Int),m<=ys.length/\i=.int .i64 m/\c=.int .u64 cc/\In x ys os k m n f cc/\Blk W w.1.size f/\Below w.1.size w W) (λi _ _=>ys.length - (intOf i).toNat)
   case atStart=>exact⟨0,os,0,kL _,rfl,rfl,R,A,r⟩
   case round=>
    obtain⟨m,f,cc,hm,rfl,rfl,h,j,z⟩:=hrel;by_cases N:m<ys.length
    .have hml':(m:Int)<(ys.length:Int):=(by omega);have fX:wr.cell? ⟨q,F+m,none⟩=some (.int .u32<|ys.getD m 0):=fg z ad<|K m N;have fY:wr.cell? ⟨w.1.size,k+m,none⟩=some (.int .u32<|f.getD (k+m) 0):=j.cell (by rw[h.len];omega);have aq:=j.frozen<|k+m;have E:=M m;have O:=h.dig<|k+m;have J:=h.c0;have t:=h.step s M N (by omega);have hp:=BK s E;have P:=Je s E O J;generalize ys.getD m 0=y at fX E t hp P;generalize f.getD (k+m) 0=d at fY O t P;have af:(k:Int)+m<n:=(by omega);go_wp2_with fail;go_roundw
     case rel=>exact⟨m+1,_,_,by omega,by go_num,rfl,t,j.set _ _,z.setCell (p:=⟨w.1.size,k+m,none⟩) (kF _) _⟩
     case measure=>simp[intOf];omega
    have jd:m=ys.length:=(by omega);subst jd;have fL:wr.cell? ⟨w.1.size,k+ys.length,none⟩=some (.int .u32<|f.getD (k+ys.length) 0):=j.cell (by rw[h.len];omega);have ic:=j.frozen<|k+ys.length;have J:=h.c0;have af:(k:Int)+ys.length<n:=(by omega);go_wp2_with fail;go_roundw
    case rel=>exact⟨k+1,_,by omega,by go_num,H _ _ h,j.set _ _,z.setCell (p:=⟨w.1.size,k+ys.length,none⟩) (kF _) _⟩
    case measure=>simp[intOf];omega
  have ag:k=xs.length:=(by omega);subst ag;have D:=Blk.sl32 A.p g.dig (by rw[g.len];omega);rw[g.len] at D;obtain⟨u,hu,ai⟩:=Et D;have an:Hid (Sl wr u<|bE os):=hu;have hO:Hid (Out xs ys n xs.length os):=g;have bm:Hid (Below w.1.size w wr):=r;clear hu g r A D B K;go_wp2_with (go_at_call 165;refine(ai _<|kE _ _).mono ?_;rintro e w9 ⟨rfl,rfl⟩);go_ret;exact⟨u,os,hO.out,rfl,an.out,bm.out⟩
