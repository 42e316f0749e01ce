import Derived.RangeFuncNested
import Derived.RangeFuncBound
import Derived.RangeFuncCalls
import Derived.RangeFuncLeaves
import Derived.RangeFuncWrites
import Derived.Shelf.Abstract
import Derived.Shelf.AbstractIn
import Derived.OwnWalkIn
import Derived.TacticsInMore
import Derived.LoopNIn
import Derived.LoopIn
import Derived.Test.YthcfmhgihcjloaaGreatDoorPk18
namespace Go.Proofs.YthcfmhgihcjloaaGreatDoor
open Go Go.RowKit Go.Maps Go.Shelf Tryz
attribute [local go_sem] qX
section
variable {F:Fence} {nF:Nat} {ops:Array Oper} {rest:List Oper} {op:Oper} {a:Act} {w:World} {Q:Exit->Act->World->Prop} {ty n:Nat} {c:Array Value}
theorem uX (g:eS ty n) (s b o:Nat) (cs:List Value) (i:w.rangeAt b o cs) (m:cs.length=n) (h:wpListIn F nF prog ops Q rest (a.put op.dst<|.agg cs.toArray) w)
  (e:op.op=.load ty (.tmp s):=by with_reducible rfl) (q:a.eval (.tmp s)=.pointer (some ⟨b,o,none⟩):=by kernel_rfl) (l:op.guard=none:=by kernel_rfl):wpListIn F nF prog ops Q (op::rest) a w:=by
 obtain⟨⟨d,hu,k⟩,hi⟩:=g;refine sf l λK f=>?_;unfold Oper.wpIn;refine⟨by simp[Oper.about,e],?_⟩;rw[Oper.semAt_plain F _ _<|by rw[e];intro c j;cases j];unfold execOp;simp only[e,q,Instr.loadAt,Instr.sureAddr,nQ,pS,nf,rQ w b o ty cs d i hu k<|by rw[m];exact hi];exact f _ _ h
theorem DB (e:eS ty n) (x y:Nat) (cs:List Value) (j:cs.length=n) (h1:cs.toArray.all (·.oneCell')=true) (h:wpListIn F nF prog ops Q rest (a.put op.dst undef) (w.alloc<|.cells cs.toArray ty))
  (b:op.op=.store ty (.tmp x) (.tmp y):=by with_reducible rfl) (k:a.eval (.tmp x)=.pointer (some ⟨w.1.size,0,none⟩):=by kernel_rfl) (l:a.eval (.tmp y)=.agg cs.toArray:=by kernel_rfl) (f:c.size=n:=by kernel_rfl) (i:op.guard=none:=by kernel_rfl):
  wpListIn F nF prog ops Q (op::rest) a (w.alloc<|.cells c ty):=by
 refine sf i λK d=>?_;unfold Oper.wpIn;refine⟨by simp[Oper.about,b],?_⟩;rw[Oper.semAt_plain F _ _<|by rw[b];intro c g;cases g];unfold execOp;simp only[b,k,l,Instr.storeAt,Instr.sureAddr,nQ,pS,nf,LR e w c cs f j h1];exact d _ _ h
theorem J2 (m x:Nat) (b N:Nat) (S:List Ky) (h:SetAt w b N S) (q:N<maxLen) (k:Ky) (l:gt k)
  (f:∀w',SetAt w' b (N+1) (k::S)->w.grownBy w' (some b)->wpListIn F nF prog ops Q rest (a.put op.dst undef) w')
  (d:op.op=.mapUpdate 67 (.tmp m) (.tmp x) (.const<|.bool true):=by with_reducible rfl) (o:a.eval (.tmp m)=.map (some b):=by kernel_rfl) (r:a.eval (.tmp x)=mu k:=by kernel_rfl) (j:op.guard=none:=by kernel_rfl):
  wpListIn F nF prog ops Q (op::rest) a w:=by
 refine sf j λu g=>?_;obtain⟨w',e,s,t⟩:=h.put q l;unfold Oper.wpIn;refine⟨by simp[Oper.about,d],?_⟩;rw[Oper.semAt_plain F _ _<|by rw[d];intro c i;cases i];have hv:a.eval (.const<|.bool true)=.bool true:=rfl;simp[execOp,d,o,r,hv,e,Result.andThen];exact g _ _<|f w' s t
theorem Cg (m x:Nat) (b N:Nat) (S:List Ky) (h:SetAt w b N S) (k:Ky) (l:gt k)
  (f:wpListIn F nF prog ops Q rest (a.put op.dst<|.bool<|decide (k∈S)) w)
  (d:op.op=.lookup 67 (.tmp m) (.tmp x) false:=by with_reducible rfl) (o:a.eval (.tmp m)=.map (some b):=by kernel_rfl) (q:a.eval (.tmp x)=mu k:=by kernel_rfl) (j:op.guard=none:=by kernel_rfl):
  wpListIn F nF prog ops Q (op::rest) a w:=by
 refine sf j λr g=>?_;have e:=h.look l;unfold Oper.wpIn;refine⟨by simp[Oper.about,d],?_⟩;rw[Oper.semAt_plain F _ _<|by rw[d];intro c i;cases i];simp[execOp,d,o,q,e,Result.andThen];exact g _ _ f
end
end Go.Proofs.YthcfmhgihcjloaaGreatDoor
namespace Go.Proofs.YthcfmhgihcjloaaGreatDoor
open Go Go.RowKit Tryz
set_option maxRecDepth 100000
set_option maxHeartbeats 16000000
theorem Sx {w:World} (b o n c:Nat) (L:List En) (T:L.length=n) (V:n<=1048576) (D:∀e∈L,e.Ok) (N:b<w.1.size) (l:∀i e,L[i]?=some e->w.rangeAt b (o+i*33) e.cells)
  (d:Ky) (B:Nat) (E:B<w.1.size) (u:w.rangeAt B 0 (dh d)):
  bF w 22 #[.slice (some ⟨b,o,none⟩) n c,.func (.func 23) #[] #[.pointer<|some ⟨B,0,none⟩]] (.int .i64 (vg (L.map (·.k)) d)):=by
 have S:Hid (∀i e,L[i]?=some e->w.rangeAt b (o+i*33) e.cells):=l;have M:Hid (∀e∈L,e.Ok):=D;obtain⟨C,hu,H⟩:=FR;have G:=bC hu;have R:Hid (w.rangeAt B 0<|dh d):=u;clear l D hu u;go_enter func22,ntmps22;go_wp2_with fail
 go_loopw [8] (λi wr=>∃k:Nat,k<=n/\i=.int .i64 k/\(∀j a,j<k->(L.map (·.k))[j]?=some a->¬a=d)/\Below w.1.size w wr) (λi _=>n - (intOf i).toNat)
 case atStart=>exact⟨0,kL _,rfl,λj a P=>by omega,kE _ _⟩
 case round=>
  obtain⟨k,u,rfl,z,g⟩:=hrel;have s:=bC z;clear z;by_cases U:k<n
  .have am:(k:Int)<(n:Int):=(by omega);obtain⟨e,q⟩:∃e,L[k]?=some e:=⟨_,k8<|by omega⟩;have I:=np q;have r:=M.out e I;have l:=bU (S.out k e q) g N;have K:=r.len';have W:Hid (e.cells.toArray.all (·.oneCell')=true):=r.one';have m:=AN (w:=wr) e r d B (kw E g.size)<|bU R.out g E;have J:Hid ((L.map (·.k))[k]?=some e.k):=(by show(L.map (·.k))[k]?=some e.k;rw[mI,q];rfl);clear q I r;generalize O:e.k=ek at*;generalize e.cells=A at*;clear O;by_cases hq:ek=d
   .rw[lh hq] at m;have x:Hid (ek=d):=hq;clear hq
    go_wp2_with (first
     | (with_reducible refine nI (op:=⟨some 15,_,_,_,_,_⟩) ?_ 44 (.tmp 14) ?_ (b) (o+k*33) ?_ A C ?_ G.out H ?_ ?_
        rotate_left 1
        .with_reducible rfl
        .kernel_rfl
        .exact l
        .rw[K];exact yE
        rotate_left 1
        rfl)
     | (go_at_call 23;refine jR m λw5 t=>?_))
    go_ret;have y:gL (L.map (·.k)) d=some k:=Ni (by rw[<-x.out];exact J.out) s.out;refine⟨?_,cV g t⟩;unfold vg;rw[y];rfl
   rw[kQ hq] at m;have x:Hid (¬ek=d):=hq;clear hq
   go_wp2_with (first
    | (with_reducible refine nI (op:=⟨some 15,_,_,_,_,_⟩) ?_ 44 (.tmp 14) ?_ (b) (o+k*33) ?_ A C ?_ G.out H ?_ ?_
       rotate_left 1
       .with_reducible rfl
       .kernel_rfl
       .exact l
       .rw[K];exact yE
       rotate_left 1
       rfl)
    | (go_at_call 23;refine jR m λw5 t=>?_))
   go_roundw
   case rel=>
    refine⟨k+1,by omega,by go_num,λj a P f=>?_,cV g t⟩
    rcases kS j k with h | h
    .exact s.out j a h f
    obtain rfl:j=k:=(by omega);rw[J.out] at f;cases f;exact x.out
   case measure=>simp[intOf];omega
  obtain rfl:k=n:=(by omega);go_wp2_with fail;go_ret
  have y:gL (L.map (·.k)) d=none:=Nj λj a f=>s.out j a (by
   have:=(lC.1 f).1;simp at this
   omega) f
  refine⟨?_,g⟩;unfold vg;rw[y];rfl
theorem Sy {w:World} (q:Option Addr) (c:Nat) (f:Value):
  cN 22 #[.slice q 0 c,f] w λx w'=>x=.returned (.int .i64<|-1)/\w'=w:=by
 go_enter func22,ntmps22;go_wp2_with fail;refine my ?_;go_wp2_with fail;go_ret;exact⟨rfl,rfl⟩
theorem Sz {w:World} {q:Option Addr} {n:Nat} (c:Nat) {L:List En} (h:LibOk w q n L) (d:Ky) (B:Nat) (e:B<w.1.size) (g:w.rangeAt B 0 (dh d)):
  bF w 22 #[.slice q n c,.func (.func 23) #[] #[.pointer<|some ⟨B,0,none⟩]] (.int .i64 (vg (L.map (·.k)) d)):=by
 obtain⟨h1,h2,h3,h4⟩:=h
 rcases h4 with rfl | ⟨b,o,rfl,i,f⟩
 .obtain rfl:L=[]:=kM h1;refine(Sy q c _).mono ?_;rintro x w' ⟨rfl,rfl⟩;exact⟨rfl,kE _ _⟩
 exact Sx b o n c L h1 h2 h3 i f d B e g
theorem yI {w:World} {q:Option Addr} {n:Nat} (c:Nat) {L:List En} (h:LibOk w q n L) (b:Ky):
  bF w 8 #[.slice q n c,.agg #[.string b.1,.int .i64 b.2]] (.int .i64 (vg (L.map (·.k)) b)):=by
 have d:Below w.1.size w (w.alloc<|.cells #[.string b.1,.int .i64 b.2] 47):=fH _ _;have e:=oe w (dh b) 47;have f:=Sz c (h.below d) b w.1.size (by simp) e;clear e;generalize vg (L.map (·.k)) b=r at*;go_enter func8,ntmps8;go_wp2_with (go_at_call 22;refine jR f λw5 g=>?_);go_ret;exact⟨rfl,d.trans<|g.mono<|by simp⟩
def ni (L:List Ky) (k:Ky):Value:=match gL L k with | some i=>.tuple #[.int .i64 i,.bool true] | none=>.tuple #[.int .i64 0,.bool false]
theorem SA {w:World} (b o n c:Nat) (L:List En) (hL:L.length=n) (hn:n<=1048576) (M:∀e∈L,e.Ok) (hb:b<w.1.size) (s:∀i e,L[i]?=some e->w.rangeAt b (o+i*33) e.cells) (d:Ky):
  bF w 14 #[.slice (some ⟨b,o,none⟩) n c,.agg #[.string d.1,.int .i64 d.2]] (ni (L.map (·.k)) d):=by
 have ag:Hid (∀i e,L[i]?=some e->w.rangeAt b (o+i*33) e.cells):=s;have ez:Hid (∀e∈L,e.Ok):=M;obtain⟨J,hu,U⟩:=FR;have O:=bC hu;clear s M hu;obtain⟨dk,aa,ae⟩:=yF;have ad:=bC aa;have Z:=oe w (dh d) 47;have K:Hid ((w.alloc<|.cells #[.string d.1,.int .i64 d.2] 47).rangeAt w.1.size 0<|dh d):=Z;clear aa Z;go_enter func14,ntmps14;go_wp2_with fail;have R:Below w.1.size w (w.alloc<|.cells #[.string d.1,.int .i64 d.2] 47):=fH _ _
 go_loopw [10] (λi wr=>∃k:Nat,k<=n/\i=.int .i64 k/\(∀j a,j<k->(L.map (·.k))[j]?=some a->¬a=d)/\Below w.1.size w wr/\w.1.size+1<=wr.1.size/\wr.rangeAt w.1.size 0 (dh d)) (λi _=>n - (intOf i).toNat)
 case atStart=>exact⟨0,kL _,rfl,λj a hj=>by omega,R,by simp,K.out⟩
 case round=>
  obtain⟨k,hk,rfl,H,m,an,Y⟩:=hrel;have A:=bC H;have iV:=bC Y;clear H Y R K;by_cases al:k<n
  .have am:(k:Int)<(n:Int):=(by omega);obtain⟨e,q⟩:∃e,L[k]?=some e:=⟨_,k8<|by omega⟩;have V:=np q;have r:=ez.out e V;have s:=bU (ag.out k e q) m hb;have t:=r.len';have aj:Hid (e.cells.toArray.all (·.oneCell')=true):=r.one';have af:=m.size;have G:=λz=>Ev e r z;have W:Hid ((L.map (·.k))[k]?=some e.k):=(by show(L.map (·.k))[k]?=some e.k;rw[mI,q];rfl);have hq:(e.k.1.toList==d.1.toList&&e.k.2==d.2)=decide (e.k=d):=(Ce _ _).symm;clear q V r;generalize e.k=ek at*;generalize e.cells=f at*;have y:Hid ((wr.alloc<|.cells f.toArray 44).rangeAt wr.1.size 0 f):=oe _ _ _;have u:Hid ((wr.alloc<|.cells f.toArray 44).rangeAt w.1.size 0<|dh d):=mV iV.out _;have T:Below w.1.size w (wr.alloc<|.cells f.toArray 44):=m.alloc af _;have ah:(wr.alloc<|.cells f.toArray 44).1.size=wr.1.size+1:=(by simp);generalize X:decide (ek=d)=eq at*;have N:Hid (decide (ek=d)=eq):=X;clear X
   go_wp2_with (first
    | (with_reducible refine nI (op:=⟨some 14,_,_,_,_,_⟩) ?_ 44 (.tmp 13) ?_ (b) (o+k*33) ?_ f J ?_ O.out U ?_ ?_
       rotate_left 1
       .with_reducible rfl
       .kernel_rfl
       .exact s
       .rw[t];exact yE
       rotate_left 1
       rfl)
    | (with_reducible refine GI ?_ 44 (.tmp 7) (.tmp 14) ?_ f.toArray wr.1.size rfl ?_ ?_ ?_ ?_ aj.out ?_
       rotate_left 1
       .with_reducible rfl
       .rfl
       .rfl
       .simp[t]
       .simp only[nD,t];exact yE
       rotate_left 1
       rfl))
   try simp only[Act.put]
   refine kN (S:=λz=>z.rangeAt wr.1.size 0 f/\z.rangeAt w.1.size 0 (dh d)) (by kernel_rfl) (by exact⟨y.out,u.out⟩) λI=>?_;refine mO (i:=0) (oi:=?op0x1) (v:=.agg f.toArray) ?ta0x1 ?tb0x1 ?tc0x1 ?td0x1 ?tq0x1 ?ty0x1 I ?_
   case ta0x1=>rfl
   case tb0x1=>kernel_rfl
   case tc0x1=>kernel_rfl
   case td0x1=>kernel_rfl
   case tq0x1=>exact λ_ _ _ h=>h
   case ty0x1=>
    refine pM ?tw0x1 44 (.tmp 7) ?to0x1 wr.1.size 0 ?tx0x1 f J (λz C=>C.1) O.out U (by rw[t];exact yE)
    case tw0x1=>kernel_rfl
    case to0x1=>rfl
    case tx0x1=>kernel_rfl
   simp only[pz];refine mO (i:=2) (oi:=?op2x2) (v:=.agg (dh d).toArray) ?ta2x2 ?tb2x2 ?tc2x2 ?td2x2 ?tq2x2 ?ty2x2 I ?_
   case ta2x2=>rfl
   case tb2x2=>kernel_rfl
   case tc2x2=>kernel_rfl
   case td2x2=>kernel_rfl
   case tq2x2=>exact λ_ _ _ h=>h
   case ty2x2=>
    refine pM ?tw2x2 47 (.tmp 3) ?to2x2 w.1.size 0 ?tx2x2 (dh d) dk (λz C=>C.2) ad.out ae Nk
    case tw2x2=>kernel_rfl
    case to2x2=>rfl
    case tx2x2=>kernel_rfl
   simp only[pz];refine qF (rs:=[1]) (by kernel_rfl) (by simp) ?_;refine ph rfl (λK' P=>?_) qq;go_simp;refine jR (G _) λD l=>?_;have ab:=l.size;have E:Below w.1.size w D:=T.drew.trans (l.mono<|by show w.1.size<=(wr.alloc<|.cells f.toArray 44).1.size;omega);have x:D.rangeAt w.1.size 0 (dh d):=bU (w:=(wr.alloc<|.cells f.toArray 44).drew) u.out l (by show w.1.size<(wr.alloc<|.cells f.toArray 44).1.size;omega);have Z2:w.1.size+1<=D.1.size:=kJ (by show w.1.size+1<=(wr.alloc<|.cells f.toArray 44).1.size;omega) ab;refine P.out _ _ ⟨bU (w:=(wr.alloc<|.cells f.toArray 44).drew) y.out l<|by show wr.1.size<(wr.alloc<|.cells f.toArray 44).1.size;omega,x⟩ λaX=>?_;clear P K';refine mO (i:=3) (oi:=?op3x3) (v:=.bool eq) ?ta3x3 ?tb3x3 ?tc3x3 ?td3x3 ?tq3x3 ?ty3x3 aX ?_
   case ta3x3=>rfl
   case tb3x3=>kernel_rfl
   case tc3x3=>kernel_rfl
   case td3x3=>kernel_rfl
   case tq3x3=>exact λ_ _ _ h=>h
   case ty3x3=>refine Or.inl ⟨by rfl,?_⟩;intro z ak;have u3:=underlying3;have u9:=underlying9;simp only[dh];go_simp;rw[<-hq];by_cases h1:ek.1.toList=d.1.toList<;>by_cases h2:ek.2=d.2<;>simp[h1,h2]
   simp only[pz];refine kV (by kernel_rfl) ?_ _;clear y u T ah l ab G hq;have ac:=bC x;clear x
   cases eq with
   | true=>go_wp2_with fail;go_ret2;have B:gL (L.map (·.k)) d=some k:=Ni (by rw[<-pX N.out];exact W.out) A.out;refine⟨?_,E⟩;unfold ni;rw[B];rfl
   | false=>
    go_wp2_with fail;go_roundw
    case rel=>
     refine⟨k+1,by omega,by go_num,λj a hj g=>?_,E,Z2,ac.out⟩
     rcases kS j k with h | h
     .exact A.out j a h g
     obtain rfl:j=k:=(by omega);rw[W.out] at g;cases g;exact of_decide_eq_false N.out
    case measure=>simp[intOf];omega
  obtain rfl:k=n:=(by omega);go_wp2_with fail;go_ret2
  have B:gL (L.map (·.k)) d=none:=Nj λj a g=>A.out j a (by
   have:=(lC.1 g).1;simp at this
   omega) g
  refine⟨?_,m⟩;unfold ni;rw[B];rfl
theorem SB {w:World} (q:Option Addr) (c:Nat) (b:Ky):
  bF w 14 #[.slice q 0 c,.agg #[.string b.1,.int .i64 b.2]] (.tuple #[.int .i64 0,.bool false]):=by
 go_enter func14,ntmps14;go_wp2_with fail;refine my ?_;go_wp2_with fail;go_ret2;exact⟨rfl,fH _ _⟩
theorem Np {w:World} {q:Option Addr} {n:Nat} (c:Nat) {L:List En} (h:LibOk w q n L) (d:Ky):
  bF w 14 #[.slice q n c,.agg #[.string d.1,.int .i64 d.2]] (ni (L.map (·.k)) d):=by
 obtain⟨h1,h2,h3,h4⟩:=h
 rcases h4 with rfl | ⟨b,o,rfl,f,e⟩
 .obtain rfl:L=[]:=kM h1;exact SB q c d
 exact SA b o n c L h1 h2 h3 f e d
theorem IAt.form {w:World} {v:Value} {i:IvV} (h:IAt w v i):∃(q1 p1 q2 p2:Option Addr) (l1 c1 m1 e1 l2 c2 m2 e2:Nat),v=.agg #[.bool i.g1,.slice q1 l1 c1,.slice p1 m1 e1,.bool i.g2,.slice q2 l2 c2,.slice p2 m2 e2,.bool i.li,.bool i.hh,.bool i.em]/\QAt w (.agg #[.bool i.g1,.slice q1 l1 c1,.slice p1 m1 e1]) i.g1 i.n1 i.d1/\QAt w (.agg #[.bool i.g2,.slice q2 l2 c2,.slice p2 m2 e2]) i.g2 i.n2 i.d2:=by
 obtain⟨j,o,k,r,rfl,h1,h2⟩:=h;have f:∀{g:Bool} {n d:Int} {a b:Value},QAt w (.agg #[.bool g,a,b]) g n d->∃q l c p m e,a=.slice q l c/\b=.slice p m e:=by rintro g n d a b ⟨x,y,t,s,e,k1,_,_,k2,_,_⟩;simp only[Value.agg.injEq,Array.mk.injEq,nJ,qB,true_and] at e;obtain⟨rfl,rfl⟩:=e;obtain⟨q,c,rfl⟩:=k1.form;obtain⟨p,e,rfl⟩:=k2.form;exact⟨_,_,_,_,_,_,rfl,rfl⟩
 obtain⟨q1,l1,c1,p1,m1,e1,rfl,rfl⟩:=f h1;obtain⟨q2,l2,c2,p2,m2,e2,rfl,rfl⟩:=f h2;exact⟨q1,p1,q2,p2,l1,c1,m1,e1,l2,c2,m2,e2,rfl,h1,h2⟩
def Nine (w:World) (i:IvV) (r:List Value):Prop:=r.length=9/\(∀u∈r,u.oneCell'=true)/\∃(q1 p1 q2 p2:Option Addr) (l1 c1 m1 e1 l2 c2 m2 e2:Nat),r=[.bool i.g1,.slice q1 l1 c1,.slice p1 m1 e1,.bool i.g2,.slice q2 l2 c2,.slice p2 m2 e2,.bool i.li,.bool i.hh,.bool i.em]/\QAt w (.agg #[.bool i.g1,.slice q1 l1 c1,.slice p1 m1 e1]) i.g1 i.n1 i.d1/\QAt w (.agg #[.bool i.g2,.slice q2 l2 c2,.slice p2 m2 e2]) i.g2 i.n2 i.d2
theorem IAt.nine {w:World} {v:Value} {i:IvV} (h:IAt w v i):∃r:List Value,v=.agg r.toArray/\Nine w i r:=by
 obtain⟨q1,p1,q2,p2,l1,c1,m1,e1,l2,c2,m2,e2,rfl,h1,h2⟩:=h.form;refine⟨[.bool i.g1,.slice q1 l1 c1,.slice p1 m1 e1,.bool i.g2,.slice q2 l2 c2,.slice p2 m2 e2,.bool i.li,.bool i.hh,.bool i.em],rfl,rfl,?_,q1,p1,q2,p2,l1,c1,m1,e1,l2,c2,m2,e2,rfl,h1,h2⟩;intro u hu;simp only[lO,nw,qy] at hu
 rcases hu with rfl | rfl | rfl | rfl | rfl | rfl | rfl | rfl | rfl<;>rfl
theorem Nine.below {w w':World} {i:IvV} {r:List Value} (h:Nine w i r) (b:Below w.1.size w w'):Nine w' i r:=by obtain⟨h1,h2,q1,p1,q2,p2,l1,c1,m1,e1,l2,c2,m2,e2,h3,h4,h5⟩:=h;exact⟨h1,h2,q1,p1,q2,p2,l1,c1,m1,e1,l2,c2,m2,e2,h3,h4.below b,h5.below b⟩
theorem Nq {B p:Nat} (d:B<=p) {z:World} {xs:List Value} (_f:B<=z.1.size):Below B z (z.setCells p 0 xs)/\Sav p z (z.setCells p 0 xs)/\(z.setCells p 0 xs).1.size=z.1.size:=by obtain⟨g,s,k⟩:=Fq B p d xs 0 z z<|kE _ _;exact⟨g,⟨g.os,g.tape,g.output,by omega,λb _ e=>k b e⟩,s⟩
theorem BlkI.there9 {z:World} {p:Nat} (h:BlkI z p 130 #[.bool false,.slice none 0 0,.slice none 0 0,.bool false,.slice none 0 0,.slice none 0 0,.bool false,.bool false,.bool false]):z.there p 0 9:=by
 intro j b;have c:=h.cell j;have f:=h.fr j;refine⟨?_,by simpa using f⟩;rw[mF,c]
 match j,b with
 | 0,_=>rfl
 | 1,_=>rfl
 | 2,_=>rfl
 | 3,_=>rfl
 | 4,_=>rfl
 | 5,_=>rfl
 | 6,_=>rfl
 | 7,_=>rfl
 | 8,_=>rfl
theorem SC {e z:World} {b d:Nat} {i k:IvV} {xs ys:List Value} (o:Nine z i xs) (q:Nine z k ys) (G:Below e.1.size e z) (h7:e.1.size<=b) (s:e.1.size<=d) (f:BlkI z b 130 #[.bool false,.slice none 0 0,.slice none 0 0,.bool false,.slice none 0 0,.slice none 0 0,.bool false,.bool false,.bool false]) (l:BlkI z d 130 #[.bool false,.slice none 0 0,.slice none 0 0,.bool false,.slice none 0 0,.slice none 0 0,.bool false,.bool false,.bool false]) (t:b≠d):
  (z.setCells b 0 xs).there d 0 9/\Below e.1.size e (z.setCells b 0 xs)/\Below e.1.size e ((z.setCells b 0 xs).setCells d 0 ys)/\
  b<((z.setCells b 0 xs).setCells d 0 ys).1.size/\d<((z.setCells b 0 xs).setCells d 0 ys).1.size/\
  ((z.setCells b 0 xs).setCells d 0 ys).rangeAt b 0 xs/\((z.setCells b 0 xs).setCells d 0 ys).rangeAt d 0 ys/\
  Hid (Nine ((z.setCells b 0 xs).setCells d 0 ys) i xs)/\Hid (Nine ((z.setCells b 0 xs).setCells d 0 ys) k ys):=by
 have u:=o.1;have x:=q.1;obtain⟨g1,g,s1⟩:=Nq (xs:=xs) h7 (z:=z) G.size;obtain⟨g2,j,s2⟩:=Nq (xs:=ys) s (z:=z.setCells b 0 xs) (by rw[s1];exact G.size);have y:=f.lt;have A:=l.lt;have r:=World.there_setCells l.there9 b 0 xs;have h:BlkI (z.setCells b 0 xs) d 130 #[.bool false,.slice none 0 0,.slice none 0 0,.bool false,.slice none 0 0,.slice none 0 0,.bool false,.bool false,.bool false]:=l.sav g (by omega);have m:=G.trans (g1.mono<|by exact kF _);refine⟨r,m,m.trans g2,by omega,by omega,?_,?_,?_,?_⟩;rotate_left 2
 .obtain⟨k1,k2,q1,p1,q2,p2,l1,c1,m1,e1,l2,c2,m2,e2,h3,h4,h5⟩:=o;exact⟨k1,k2,q1,p1,q2,p2,l1,c1,m1,e1,l2,c2,m2,e2,h3,(h4.sav f kv g).sav h kv j,(h5.sav f kv g).sav h kv j⟩
 .obtain⟨k1,k2,q1,p1,q2,p2,l1,c1,m1,e1,l2,c2,m2,e2,h3,h4,h5⟩:=q;exact⟨k1,k2,q1,p1,q2,p2,l1,c1,m1,e1,l2,c2,m2,e2,h3,(h4.sav f kv g).sav h kv j,(h5.sav f kv g).sav h kv j⟩
 .refine World.rangeAt_setCells_apart (sy _ _ _ _ ?_) d 0 ys (.inl t);rw[u];exact f.there9
 refine sy _ _ _ _ ?_;rw[x];exact r
def IvV.sa (s t:IvV) (R Q:Int):Bool:=if s.em||t.em then s.em&&t.em else((s.li==t.li&&s.hh==t.hh)&&decide (R=0))&&decide (Q=0)
set_option maxRecDepth 100000 in
set_option maxHeartbeats 16000000 in
theorem SD {w:World} {i k:IvV} {R Q:Int} {l m:List Value} (lx:l.length=8) (ly:m.length=8)
  (gX:∀z,Below w.1.size w z->cN 81 #[.agg l.toArray] z λe w'=>∃v,e=.returned v/\IAt w' v i/\Below z.1.size z w')
  (eF:∀z,Below w.1.size w z->cN 81 #[.agg m.toArray] z λe w'=>∃v,e=.returned v/\IAt w' v k/\Below z.1.size z w')
  (t:∀z a b,QAt z a i.g1 i.n1 i.d1->QAt z b k.g1 k.n1 k.d1->bF z 82 #[a,b] (.int .i64 R))
  (D:∀z a b,QAt z a i.g2 i.n2 i.d2->QAt z b k.g2 k.n2 k.d2->bF z 82 #[a,b] (.int .i64 Q)):
  bF w 54 #[.agg l.toArray,.agg m.toArray] (.bool<|i.sa k R Q):=by
 obtain⟨E,g⟩:∃b,Hid (i.sa k R Q=b):=⟨_,rfl⟩;rw[g.out];have am:=bC t;have ac:=bC D;have T:Hid (((w.alloc<|.cells l.toArray 83).alloc<|.cells m.toArray 83).rangeAt w.1.size 0 l/\((w.alloc<|.cells l.toArray 83).alloc<|.cells m.toArray 83).rangeAt (w.1.size+1) 0 m):=oI;clear t D;go_enter func54,ntmps54;go_upto_region 1 with fail;generalize X:(w.alloc _).alloc _=r at*;have V:Below w.1.size w r:=by rw[<-X];exact dF _ _ _
 have aq:r.1.size=w.1.size+2:=by rw[<-X];simp
 clear X;have s1:w.1.size<r.1.size:=by omega
 have s2:w.1.size+1<r.1.size:=by omega
 go_cut [5,6] from 7 to 10 λv5 v6 C=>∃(A B:Nat) (o q:List Value),v5=.pointer (some ⟨A,0,none⟩)/\v6=.pointer (some ⟨B,0,none⟩)/\A<C.1.size/\B<C.1.size/\Hid (C.rangeAt A 0 o)/\Hid (C.rangeAt B 0 q)/\Hid (Nine C i o)/\Hid (Nine C k q)/\Below w.1.size w C
 case first=>
  try simp only[Act.put]
  have H:Below r.1.size r r.drew:=(kE _ _).drew;have M:∀z,Below r.1.size r z->z.rangeAt w.1.size 0 l/\z.rangeAt (w.1.size+1) 0 m:=λz G=>⟨bU T.out.1 G s1,bU T.out.2 G s2⟩;refine kN (S:=λz=>z.rangeAt w.1.size 0 l/\z.rangeAt (w.1.size+1) 0 m) (by kernel_rfl) (M _ H) λai=>?_;refine fE oG 0 2 w.1.size 0 l lx rfl ai (λz h=>h.1) ?_;refine fE oG 2 3 (w.1.size+1) 0 m ly rfl ai (λz h=>h.2) ?_;refine C7 (fuel:=2) [1,3] [4,5] 4 #[true,true,true,true,true,true,false,false] (λ_=>130) (λ_=>#[.bool false,.slice none 0 0,.slice none 0 0,.bool false,.slice none 0 0,.slice none 0 0,.bool false,.bool false,.bool false]) (λz G=>M z<|cV H G) ?_ ?_;rotate_left
  .intro f hf a z K h;simp only[lO,nw,qy] at hf
   rcases hf with rfl | rfl<;>(unfold wpOp;go_simp;exact .inl h)
  refine Fo rfl λx z G K j=>?_;have Z:=cV H G;simp only[cE,pz];go_simp;refine(gX _<|cV V Z).mono ?_;rintro e z1 ⟨v,rfl,L,ad⟩;obtain⟨o,rfl,an⟩:=L.nine;refine j.out _ _ ad ?_;have G1:=cV Z ad;clear j K L;refine Fo rfl λx z2 ae K j=>?_;have aa:=cV G1 ae;simp only[cE,pz];go_simp;refine(eF _<|cV V aa).mono ?_;rintro e z3 ⟨v,rfl,L,d⟩;obtain⟨q,rfl,ao⟩:=L.nine;refine j.out _ _ d ?_;have G3:=cV aa d;clear j K L;rintro x z4 Y ⟨p,hp,ap⟩;obtain⟨e5,h5,N5⟩:=hp 4 (by simp) (by simp);obtain⟨e6,h6,N6⟩:=hp 5 (by simp) (by simp);have ah:=ap 4 (by simp) 5 (by simp) (by simp) (by simp) (by simp);have G4:=cV G3 Y;have u:Hid (Nine z4 i o):=((an.below ae).below d).below Y;have y:Hid (Nine z4 k q):=ao.below Y;have ag:=kJ H.size h5;have aj:=kJ H.size h6;obtain⟨T6,g1,g2,s5,s6,I,J,M1,M3⟩:=SC u.out y.out G4 ag aj N5 N6 ah;simp only[cE,pz,bY,e5,e6];generalize p 4=A at*;generalize p 5=B at*;refine dy 6 rfl λK j=>?_;rw[kU<|by rfl];refine tv 130 (.tmp 5) (.tmp 8) rfl A 0 o.toArray (by kernel_rfl) (by kernel_rfl) ?_ ?_ (mh u.out.2.1) ?_
  .rw[show o.toArray.size=9 by simpa using u.out.1];exact BlkI.there9 N5
  .rw[show o.toArray.size=9 by simpa using u.out.1];exact BZ
  refine j.out _ _ (M _ g1) λ_=>?_;clear j K;refine dy 7 rfl λK j=>?_;rw[kU<|by rfl];refine tv 130 (.tmp 6) (.tmp 10) rfl B 0 q.toArray (by kernel_rfl) (by kernel_rfl) ?_ ?_ (mh y.out.2.1) ?_
  .rw[show q.toArray.size=9 by simpa using y.out.1];exact T6
  .rw[show q.toArray.size=9 by simpa using y.out.1];exact BZ
  refine j.out _ _ (M _ g2) λ_=>?_;clear j K;refine kV (by kernel_rfl) ?_ _;simp only[pz];go_wp2_with fail;go_meet
  case rel=>exact⟨A,B,o,q,rfl,rfl,s5,s6,I,J,M1,M3,cV V g2⟩
 case rest=>
  obtain⟨A,B,o,q,rfl,rfl,l5,l6,I,J,u,y,s⟩:=hcut;obtain⟨-,-,a1,b1,a2,b2,a3,a4,b3,b4,a5,a6,b5,b6,rfl,q1,q2⟩:=u.out;obtain⟨-,-,u1,v1,u2,v2,u3,u4,v3,v4,u5,u6,v5,v6,rfl,q3,q4⟩:=y.out;have Q1:=bC q1;have Q2:=bC q2;have Q3:=bC q3;have Q4:=bC q4;clear u y q1 q2 q3 q4 gX eF T;obtain⟨y0,y1,y2,y3,y4,y5,y6,y7,y8⟩:=D8 I.out;obtain⟨x0,x1,x2,x3,x4,x5,x6,x7,x8⟩:=D8 J.out;unfold IvV.sa at g;obtain⟨af,h1⟩:∃b,i.em=b:=⟨_,rfl⟩;obtain⟨ab,h2⟩:∃b,k.em=b:=⟨_,rfl⟩;rw[h1] at y8 g;rw[h2] at x8 g
  cases af with
  | true=>
   cases ab with
   | true=>go_wp2_with fail;go_ret;exact⟨by rw[<-g.out];rfl,s⟩
   | false=>go_wp2_with fail;go_ret;exact⟨by rw[<-g.out];rfl,s⟩
  | false=>
   cases ab with
   | true=>go_wp2_with fail;go_ret;exact⟨by rw[<-g.out];rfl,s⟩
   | false=>
    obtain⟨B1,ak⟩:∃b,(i.li==k.li)=b:=⟨_,rfl⟩;obtain⟨B2,al⟩:∃b,(i.hh==k.hh)=b:=⟨_,rfl⟩;rw[ak,al] at g;have t:=am.out wc _ _ Q1.out Q3.out
    cases B1 with
    | false=>go_wp2_with fail;go_ret;exact⟨by rw[<-g.out];rfl,s⟩
    | true=>
     cases B2 with
     | false=>go_wp2_with fail;go_ret;exact⟨by rw[<-g.out];rfl,s⟩
     | true=>
      by_cases U:R=0
      .subst U;by_cases P:Q=0
       .subst P
        go_wp2_with (first
         | (go_at_call 82;with_reducible refine jR t λN d=>?_
            clear t;have O:=cV s d;obtain⟨t0,t1,t2,t3,t4,t5,-⟩:=D8<|bU I.out d l5;obtain⟨g0,g1,g2,g3,g4,g5,-⟩:=D8<|bU J.out d l6;have D:=ac.out N _ _ (Q2.out.below d)<|Q4.out.below d
            clear d)
         | (go_at_call 82;with_reducible refine jR D λw4 W=>?_))
        go_ret;exact⟨by rw[<-g.out];rfl,cV O W⟩
       have hq:(Q==0)=false:=by simp[P]
       go_wp2_with (first
        | (go_at_call 82;with_reducible refine jR t λN d=>?_
           clear t;have O:=cV s d;obtain⟨t0,t1,t2,t3,t4,t5,-⟩:=D8<|bU I.out d l5;obtain⟨g0,g1,g2,g3,g4,g5,-⟩:=D8<|bU J.out d l6;have D:=ac.out N _ _ (Q2.out.below d)<|Q4.out.below d
           clear d)
        | (go_at_call 82;with_reducible refine jR D λw4 W=>?_))
       go_ret;exact⟨by rw[<-g.out];simp[P],cV O W⟩
      have hr:(R==0)=false:=by simp[U]
      go_wp2_with (first
       | (go_at_call 82;with_reducible refine jR t λN d=>?_))
      go_ret;exact⟨by rw[<-g.out];simp[U],cV s d⟩
set_option maxRecDepth 100000 in
set_option maxHeartbeats 4000000 in
theorem SE {w:World} {B:Bool} {b d:List Value} (j:b.length=7) (k:d.length=7)
  (f:CA w 64 #[.agg b.toArray,.agg d.toArray] (.tuple #[.bool B,.int .i64 0])):
  bF w 37 #[.agg b.toArray,.agg d.toArray] (.bool B):=by
 have g:Hid (((w.alloc<|.cells b.toArray 33).alloc<|.cells d.toArray 33).rangeAt w.1.size 0 b/\((w.alloc<|.cells b.toArray 33).alloc<|.cells d.toArray 33).rangeAt (w.1.size+1) 0 d):=oI;have e:=bC<|dF w (.cells b.toArray 33)<|.cells d.toArray 33;have h:=f _ e.out;clear f;go_enter func37,ntmps37;go_upto_region 1 with fail;generalize (w.alloc _).alloc _=l at*
 go_wp2_with (first
  | (with_reducible refine cW (op:=⟨some 8,_,_,_,_,_⟩) eU 2 _ 0 b g.out.1 j ?_)
  | (with_reducible refine cW (op:=⟨some 9,_,_,_,_,_⟩) eU 3 _ 0 d g.out.2 k ?_)
  | (go_at_call 64;with_reducible refine jR h λm i=>?_))
 go_ret;exact⟨rfl,cV e.out i⟩
set_option maxRecDepth 100000 in
set_option maxHeartbeats 4000000 in
theorem SF {w:World} {A B:Bool} {b d:List Value} (i:b.length=8) (j:d.length=8)
  (h1:CA w 65 #[.agg b.toArray,.agg d.toArray] (.tuple #[.bool A,.int .i64 0]))
  (h2:CA w 65 #[.agg d.toArray,.agg b.toArray] (.tuple #[.bool B,.int .i64 0])):
  bF w 38 #[.agg b.toArray,.agg d.toArray] (.bool<|A&&B):=by
 have e:Hid (((w.alloc<|.cells b.toArray 83).alloc<|.cells d.toArray 83).rangeAt w.1.size 0 b/\((w.alloc<|.cells b.toArray 83).alloc<|.cells d.toArray 83).rangeAt (w.1.size+1) 0 d):=oI;have h:=bC<|dF w (.cells b.toArray 83)<|.cells d.toArray 83;have g:=h1 _ h.out;have r:w.1.size+1<((w.alloc<|.cells b.toArray 83).alloc<|.cells d.toArray 83).1.size:=by simp
 clear h1;go_enter func38,ntmps38;go_upto_region 1 with fail;generalize (w.alloc _).alloc _=s at*
 cases A with
 | false=>
  go_wp2_with (first
   | (with_reducible refine cW (op:=⟨some 9,_,_,_,_,_⟩) oG 2 _ 0 b e.out.1 i ?_)
   | (with_reducible refine cW (op:=⟨some 10,_,_,_,_,_⟩) oG 3 _ 0 d e.out.2 j ?_)
   | (go_at_call 65;with_reducible refine jR g λq f=>?_))
  go_ret;exact⟨rfl,cV h.out f⟩
 | true=>
  go_wp2_with (first
   | (with_reducible refine cW (op:=⟨some 9,_,_,_,_,_⟩) oG 2 _ 0 b e.out.1 i ?_)
   | (with_reducible refine cW (op:=⟨some 10,_,_,_,_,_⟩) oG 3 _ 0 d e.out.2 j ?_)
   | (go_at_call 65;with_reducible refine jR g λq f=>?_
      have l:=bC<|cV h.out f;have k:=bC (And.intro (bU e.out.1 f<|by omega)<|bU e.out.2 f<|by omega);have m:=h2 _ l.out
      clear g f e)
   | (with_reducible refine cW (op:=⟨some 21,_,_,_,_,_⟩) oG 3 _ 0 d k.out.2 j ?_)
   | (with_reducible refine cW (op:=⟨some 22,_,_,_,_,_⟩) oG 2 _ 0 b k.out.1 i ?_)
   | (go_at_call 65;with_reducible refine jR m λt o=>?_))
  go_ret;exact⟨rfl,cV l.out o⟩
theorem Ey {w:World} {b o:Nat} {v:Value} {cs:List Value} (h:w.rangeAt b o (v::cs)):w.rangeAt b (o+1) cs:=λj u hu=>by
 have:=h (j+1) u<|by simpa using hu
 rwa [show o+(j+1)=o+1+j by omega] at this
def cS (w:World) (s n:Nat) (q:Option Addr) (x:Nat->List Value):Prop:=n=0\/∃b o,q=some ⟨b,o,none⟩/\b<w.1.size/\∀i,i<n->w.rangeAt b (o+i*s) (x i)
set_option maxRecDepth 100000 in
set_option maxHeartbeats 8000000 in
theorem SG {w:World} {q1 q2:Option Addr} {n c1 c2:Nat} (u v:Nat->ByteArray) (x y:Nat->List Value) (E:Nat->Bool) (hn:n<=1048576) (lx:∀i,i<n->(x i).length=8) (ly:∀i,i<n->(y i).length=8)
  (h1:cS w 9 n q1 λi=>.string (u i)::x i) (h2:cS w 9 n q2 λi=>.string (v i)::y i)
  (M:∀i,i<n->CA w 54 #[.agg (x i).toArray,.agg (y i).toArray] (.bool<|E i)):
  bF w 76 #[.slice q1 n c1,.slice q2 n c2] (.bool<|(List.range n).all λi=>(u i).toList==(v i).toList&&E i):=by
 have W:=bC h1;have X:=bC h2;have aa:=bC M;clear h1 h2 M;obtain⟨A,s⟩:∃b,Hid (((List.range n).all λi=>(u i).toList==(v i).toList&&E i)=b):=⟨_,rfl⟩;rw[s.out];go_enter func76,ntmps76;go_wp2_with fail
 go_loopw [5] (λi wr=>∃k:Nat,k<=n/\i=.int .i64 k/\Hid (∀j,j<k->((u j).toList==(v j).toList&&E j)=true)/\Below w.1.size w wr) (λi _=>n - (intOf i).toNat)
 case atStart=>exact⟨0,kL _,rfl,λj r=>by omega,kE _ _⟩
 case round=>
  obtain⟨k,hk,rfl,H,e⟩:=hrel;by_cases g:k<n
  .have am:(k:Int)<(n:Int):=(by omega);obtain⟨b,o,rfl,O,P⟩:=W.out.resolve_left (by omega);obtain⟨l,m,rfl,I,R⟩:=X.out.resolve_left (by omega);have J:Hid (wr.rangeAt b (o+k*9) (.string (u k)::x k)):=bU (P k g) e O;have L:Hid (wr.rangeAt l (m+k*9) (.string (v k)::y k)):=bU (R k g) e I;have ab:=aa.out k g;have ac:=lx k g;have ad:=ly k g;have T:¬((u k).toList==(v k).toList&&E k)=true->A=false:=λh=>by rw[<-s.out,lV];exact⟨k,kP.2 g,h⟩
   have U:((u k).toList==(v k).toList&&E k)=true->∀j,j<k+1->((u j).toList==(v j).toList&&E j)=true:=λh j r=>by
    rcases pf.1 r with r | rfl
    .exact H.out j r
    exact h
   have D:=bC T;have Y:=bC U;clear P R T U;generalize ae:u k=m1 at*;generalize ag:v k=m2 at*;generalize E k=V at*;generalize x k=B at*;generalize y k=C at*;go_wp2_with fail;have q:∀z:World,(z.rangeAt b (o+k*9) (.string m1::B)/\z.rangeAt l (m+k*9) (.string m2::C))->z.cell? ⟨b,o+k*9,none⟩=some (.string m1)/\z.cell? ⟨l,m+k*9,none⟩=some (.string m2):=λz h=>⟨h.1 0 _ rfl,h.2 0 _ rfl⟩;refine kN (S:=λz=>z.rangeAt b (o+k*9) (.string m1::B)/\z.rangeAt l (m+k*9) (.string m2::C)) (by kernel_rfl) ⟨J.out,L.out⟩ λd=>?_
   cases hq:m1.toList==m2.toList with
   | false=>obtain rfl:=D.out (by rw[hq];simp);refine tk 0 _ rfl d ?_;refine tk 1 _ rfl d ?_;refine tk 2 _ rfl d ?_;refine tk 3 _ rfl d ?_;refine tk 4 (.string m1) rfl d ?_ (.inl ⟨by rfl,λz f=>by have h:=(q z f).1;go_simp⟩);refine tk 5 _ rfl d ?_;refine tk 6 _ rfl d ?_;refine tk 7 _ rfl d ?_;refine tk 8 _ rfl d ?_;refine tk 9 (.string m2) rfl d ?_ (.inl ⟨by rfl,λz f=>by have h:=(q z f).2;go_simp⟩);refine tk 10 _ rfl d ?_;refine tk 11 _ rfl d ?_;refine tk 12 undef rfl d ?_ (.inr ⟨by rfl,rfl⟩);refine tk 13 undef rfl d ?_ (.inr ⟨by rfl,rfl⟩);refine tk 14 undef rfl d ?_ (.inr ⟨by rfl,rfl⟩);refine tk 15 undef rfl d ?_ (.inr ⟨by rfl,rfl⟩);refine tk 16 undef rfl d ?_ (.inr ⟨by rfl,rfl⟩);refine tk 17 undef rfl d ?_ (.inr ⟨by rfl,rfl⟩);refine tk 18 undef rfl d ?_ (.inr ⟨by rfl,rfl⟩);refine tk 19 undef rfl d ?_ (.inr ⟨by rfl,rfl⟩);refine tk 20 undef rfl d ?_ (.inr ⟨by rfl,rfl⟩);refine tk 21 undef rfl d ?_ (.inr ⟨by rfl,rfl⟩);refine tk 22 undef rfl d ?_ (.inr ⟨by rfl,rfl⟩);refine tk 23 undef rfl d ?_ (.inr ⟨by rfl,rfl⟩);refine tk 24 _ rfl d ?_;refine kV (by kernel_rfl) ?_ _;go_wp2_with fail;go_ret;exact⟨rfl,e.drew⟩
   | true=>
    refine tk 0 _ rfl d ?_;refine tk 1 _ rfl d ?_;refine tk 2 _ rfl d ?_;refine tk 3 _ rfl d ?_;refine tk 4 (.string m1) rfl d ?_ (.inl ⟨by rfl,λz f=>by have h:=(q z f).1;go_simp⟩);refine tk 5 _ rfl d ?_;refine tk 6 _ rfl d ?_;refine tk 7 _ rfl d ?_;refine tk 8 _ rfl d ?_;refine tk 9 (.string m2) rfl d ?_ (.inl ⟨by rfl,λz f=>by have h:=(q z f).2;go_simp⟩);refine tk 10 _ rfl d ?_;refine tk 11 _ rfl d ?_;refine tk 12 _ rfl d ?_;refine tk 13 _ rfl d ?_;refine tk 14 _ rfl d ?_;refine tk 15 _ rfl d ?_;refine fE oG 16 32 b (o+k*9+1) B ac rfl d (λz h=>Ey h.1) ?_;refine tk 17 _ rfl d ?_;refine tk 18 _ rfl d ?_;refine tk 19 _ rfl d ?_;refine tk 20 _ rfl d ?_;refine fE oG 21 37 l (m+k*9+1) C ad rfl d (λz h=>Ey h.2) ?_;refine dy 22 rfl λK N=>?_;go_simp;refine jR (ab _ e.drew) λw5 t=>?_;have G:Below w.1.size w w5:=cV e.drew t;refine N.out _ _ ⟨bU (w:=wr.drew) J.out t<|kw O e.size,bU (w:=wr.drew) L.out t<|kw I e.size⟩ λd=>?_;clear N K
    cases V with
    | false=>obtain rfl:=D.out (by simp);refine tk 23 _ rfl d ?_;refine tk 24 _ rfl d ?_;refine kV (by kernel_rfl) ?_ _;go_wp2_with fail;go_ret;exact⟨rfl,G⟩
    | true=>
     refine tk 23 _ rfl d ?_;refine tk 24 _ rfl d ?_;refine kV (by kernel_rfl) ?_ _;go_wp2_with fail;go_roundw
     case rel=>exact⟨k+1,by omega,by go_num,Y.out<|by rw[hq];rfl,G⟩
     case measure=>simp[intOf];omega
  obtain rfl:k=n:=(by omega);have Z:A=true:=(by rw[<-s.out,lj];exact λi hi=>H.out i<|kP.1 hi);subst Z;go_wp2_with fail;go_ret;exact⟨rfl,e⟩
