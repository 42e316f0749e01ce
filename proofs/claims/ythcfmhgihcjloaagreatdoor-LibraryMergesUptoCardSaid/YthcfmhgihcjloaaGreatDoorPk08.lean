import Derived.Sort.Walk0
import Derived.Sort.Statements
import Derived.Test.YthcfmhgihcjloaaGreatDoorPk07
namespace Go.Proofs.YthcfmhgihcjloaaGreatDoor
open Go Go.RowKit Tryz
variable {w:World} {n k:Nat} {xs ys out:List Int} {owed:Int} {v u:Value}
theorem Fw:ElT 40 42 21 328:=⟨underlying40,by kernel_rfl,by decide,by decide,by decide⟩
theorem Jy:gb 40:=⟨_,underlying40,rfl⟩
def Eg (w1 wr:World) (G:Nat) (X:St) (ki:Nat->St) (D:Sd) (k:Nat) (q3:Option Addr) (c3:Nat) (L:List Sd):Prop:=
 L.length=k/\wr.1[G]?=some (.cells (D.kids q3 k c3).cells.toArray 42 (0,0))/\wr.ownsRow w1.1.size 42 21 (.slice q3 k c3) k (L.flatMap Sd.cells)/\(Value.slice q3 k c3).ownBlock≠some G/\
  (∀i x,L[i]?=some x->StA wr (cH w1.1.size wr G<|.slice q3 k c3) (ki i) x)/\StA wr (cH w1.1.size wr G<|.slice q3 k c3) X D/\Below w1.1.size w1 wr
set_option maxRecDepth 100000 in
set_option maxHeartbeats 4000000 in
theorem xI {d:Sd} (X0:St) (X:Nat->Sd) (N:Nat->St) (hn:d.kin<=1048576)
  (hF:∀z,Below w.1.size w z->cN 70 #[.agg d.cells.toArray] z λe w'=>∃D:Sd,e=.returned (.agg (D.kids none 0 0).cells.toArray)/\StA w' (bP z w') X0 D/\Below z.1.size z w')
  (hk:d.kin=0\/∃b o,d.kiq=some ⟨b,o,none⟩/\b<w.1.size/\∀i,i<d.kin->w.rangeAt b (o+i*21) (X i).cells)
  (s:∀i,i<d.kin->∀z,Below w.1.size w z->cN 46 #[.agg (X i).cells.toArray] z λe w'=>∃q:Sd,e=.returned (.agg q.cells.toArray)/\StA w' (bP z w') (N i) q/\Below z.1.size z w'):
  cN 46 #[.agg d.cells.toArray] w λe w'=>∃D a c3,e=.returned (.agg (Sd.kids D a d.kin c3).cells.toArray)/\
   StA w' (bP w w') X0 D/\(d.kin=0\/∃b,a=some ⟨b,0,none⟩/\bP w w' b/\∃es:Nat->Sd,∀i,i<d.kin->w'.rangeAt b (0+i*21) (es i).cells/\StA w' (bP w w') (N i) (es i))/\Below w.1.size w w':=by
 have az:=bC hk;clear hk;go_enter func46,ntmps46;go_upto_region 1 with fail;generalize F:(w.alloc _).alloc _=l;have E:Below w.1.size w l:=by rw[<-F];exact dF _ _ _
 have ac:l.1.size=w.1.size+2:=by rw[<-F];simp
 have an:l.rangeAt w.1.size 0 d.cells:=by rw[<-F];exact(oI (xs:=d.cells) (ys:=uU.cells)).1
 have a1:l.1[w.1.size+1]?=some (.cells uU.cells.toArray 42 (0,0)):=by rw[<-F];exact xE
 clear F;have ae:=hF _ E;clear hF;have ar:=bC ac;clear ac
 go_upto_region 2 with(first
  | (with_reducible refine cW (op:=⟨some 6,_,_,_,_,_⟩) jh 1 w.1.size 0 d.cells an rfl ?_)
  | (go_at_call 70;refine ae.mono ?_;rintro e A ⟨D,rfl,B,ab⟩)
  | (with_reducible refine si (op:=⟨none,_,_,_,_,_⟩) jh 3 7 (D.kids none 0 0).cells rfl (Sd.one _) ?_))
 have ac:=ar.out;have hG:=kR A<|.cells (D.kids none 0 0).cells.toArray 42;have T:Below l.1.size l (A.alloc<|.cells (D.kids none 0 0).cells.toArray 42):=ab.trans<|(fH _ _).mono ab.size;have s2:=ab.size;have HA:=bC<|B.keep (A':=cH l.1.size (A.alloc<|.cells (D.kids none 0 0).cells.toArray 42) A.1.size<|.slice none 0 0) (λb m=>(fH A<|.cells (D.kids none 0 0).cells.toArray 42).block b m.2) λb m=>⟨m.1,by have:=m.2;simp;omega,by have:=m.2;omega,by simp[Value.ownBlock]⟩;have av:l.1.size<=A.1.size:=s2;clear B ae;generalize A.alloc (.cells (D.kids none 0 0).cells.toArray 42)=wc at*;generalize A.1.size=G at*;have a4:wc.cell? ⟨w.1.size,20,none⟩=some (.slice d.kiq d.kin d.kic):=fg T (by omega)<|an 20 _ rfl;go_wp2_with fail
 go_loopw [11] (λi wr=>∃(k:Nat) (a:Option Addr) (c3:Nat),k<=d.kin/\i=.int .i64 k/\∃L:List Sd,Eg l wr G X0 N D k a c3 L) (λi _=>d.kin - (intOf i).toNat)
 case atStart=>exact⟨0,none,0,kL _,rfl,[],rfl,hG,mH _ _ _ _,by simp[Value.ownBlock],λi x h=>by simp at h,HA.out,T⟩
 case round=>
  obtain⟨k,a,c3,hk,rfl,L,W⟩:=hrel;clear HA a4 hG T;by_cases ak:k<d.kin
  .have am:(k:Int)<(d.kin:Int):=(by omega);obtain⟨b,o,hq,ax,ai⟩:=az.out.resolve_left (by omega);have t:=W.2.2.2.2.2.2;have hx:=bC (bU (bU (ai k ak) E ax) t<|by omega);have aw:=bC<|s k ak;clear ai;generalize X k=Y at*;rw[hq]
   go_wp2_with (first
    | (with_reducible refine cW (op:=⟨some 14,_,_,_,_,_⟩) jh 13 b (o+k*21) Y.cells hx.out rfl ?_)
    | (with_reducible refine si (op:=⟨none,_,_,_,_,_⟩) jh 5 14 Y.cells rfl (Sd.one Y) ?_))
   obtain⟨J,C,I,al,aa,B,-⟩:=W;have af:=(kG.1 C).1;have s1:=t.size;have Bn:Below wr.1.size wr (wr.alloc<|.cells Y.cells.toArray 42):=fH _ _;have a0:=og<|kR wr<|.cells Y.cells.toArray 42;have a3:wr.1.size<(wr.alloc<|.cells Y.cells.toArray 42).1.size:=(by simp);have cG:(wr.alloc<|.cells Y.cells.toArray 42).cell? ⟨G,20,none⟩=some (.slice a k c3):=(by rw[pj _ _ _ af,pG _ _ _ _ _ _ C];rfl);generalize wr.alloc (.cells Y.cells.toArray 42)=Q at*;have Bd:Below Q.1.size Q Q.drew:=(kE _ _).drew;refine kN (S:=λ_=>True) (by kernel_rfl) trivial (λhh=>?_);refine tk 0 _ rfl hh ?_;refine Ee (fuel:=3) Jy [2,3,4] 1 15 G 20 4 (.slice a k c3) (by show _<Q.1.size;omega) cG rfl (λ_ _=>trivial) ?_ (l1:=#[true,true,true,true,true,false,false,false]);refine it rfl λR z hz K s=>?_;rw[kU<|by kernel_rfl];have Bz:=cV Bd hz;refine GN jh 5 wr.1.size 0 Y.cells (bU a0 Bz a3) rfl (s.out _ _ (kE _ _) ?_);clear s K;refine it rfl λR z3 a2 K s=>?_;have U:=Bn.trans<|(cV Bz a2).mono Bn.size;simp only[cE,pz];go_simp;refine(aw.out _<|E.trans<|(t.trans<|U.mono s1).mono E.size).mono ?_;rintro r w5 ⟨q,rfl,au,ag⟩;refine s.out _ _ ag ?_;clear s K;have B5:=cV U ag;refine it rfl λR H ao K s=>?_;rw[kU<|by kernel_rfl];refine C8 Fw (.tmp 18) q.cells rfl (s.out _ _ (fH _ _) ?_);clear s K;have cA:=kR H<|.cells q.cells.toArray 42;have B6:=ao.trans<|(fH H<|.cells q.cells.toArray 42).mono ao.size;have cC:H.1.size<(H.alloc<|.cells q.cells.toArray 42).1.size:=(by simp);intro R z7 aq Z;have Z:=Z (by simp);have V:=cV B6 aq;have ad:Below wr.1.size wr z7:=cV B5 V;have r5:∀kk,(Value.slice a k c3).ownBlock=some kk->kk<wr.1.size:=λkk e=>(I.lt kk e).2;refine Ef Fw Mx 5 6 7 16 19 G 20 k H.1.size (y:=q.cells) rfl rfl rfl t av C rfl I al ad (by omega) (λ_ _=>trivial) ((aq.block _ cC).trans cA) rfl (GO q) (by exact(show _=R 1 by kernel_rfl).trans Z) ?_;intro g c w8 m1 m2 m3 m4 O P;refine kV (by kernel_rfl) ?_ _;obtain⟨f1,f2⟩:=BP (w0:=l.1.size) (G:=G) (v:=.slice a k c3) ad;have f3:=BQ (w0:=l.1.size) (y:=z7) af s1 r5 U.size V.size
   have HR:Eg l w8 G X0 N D (k+1) (some ⟨g,0,none⟩) c (L++[q]):=
    ⟨by simp[J],m1,by rw[mj,mQ];exact m2,m3,C' J (λi x h=>((aa i x h).keep f1 f2).keep O P)<|(au.keep (λb m=>V.block b m.2) f3).keep O P,(B.keep f1 f2).keep O P,m4⟩
   clear m1 m2 m3 m4 O P f1 f2 f3;simp only[cE,pz,bY];go_wp2_with fail;go_roundw
   case rel=>exact⟨k+1,some ⟨g,0,none⟩,c,by omega,by go_num,L++[q],HR⟩
   case measure=>simp[intOf];omega
  obtain rfl:k=d.kin:=(by omega);have a6:¬(d.kin:Int)<(d.kin:Int):=(by omega);obtain⟨J,C,I,al,aa,B,t⟩:=W;have s1:=t.size;have R3:=bC<|og C;have T3:=bC<|(t.block (w.1.size+1)<|by omega).trans a1
  go_wp2_with (first
   | (with_reducible refine cW (op:=⟨some 23,_,_,_,_,_⟩) jh 3 G 0 (D.kids a d.kin c3).cells R3.out rfl ?_)
   | (with_reducible refine Am (op:=⟨none,_,_,_,_,_⟩) jh 2 23 (w.1.size+1) (D.kids a d.kin c3).cells T3.out rfl rfl (GO _) ?_))
  refine xF jh (p:=2) (nh _ _ _ _ _ _ T3.out) rfl ?_;have kp:Keeps (cH l.1.size wr G<|.slice a d.kin c3) wr (wr.setRow (w.1.size+1) (D.kids a d.kin c3).cells.toArray):=λb m=>mf _ _ _ _ (by have:=m.1;omega);have fr:∀b,cH l.1.size wr G (.slice a d.kin c3) b->bP w (wr.setRow (w.1.size+1) (D.kids a d.kin c3).cells.toArray) b:=λb m=>⟨by have:=m.1;omega,by have:=m.2.1;simpa using this⟩;refine⟨D,a,⟨c3,rfl⟩,B.keep kp fr,?_,oh (cV E t) (by omega) _⟩;refine(Da (f:=Sd.cells) (λ_=>rfl) I J).imp id ?_;rintro⟨g,rfl,a5,ay,-,M⟩;refine⟨g,rfl,⟨by omega,by simpa using ay⟩,λi=>L.getD i uU,λi hi=>?_⟩;have aj:L[i]?=some (L.getD i uU):=(by simp[List.getD,show i<L.length by omega]);have M:=M i _ aj;rw[mF] at M;exact⟨λj u hu=>(ml<|mf _ _ _ _<|by show g≠_;omega).trans<|M j u hu,(aa i _ aj).keep kp fr⟩
theorem Q7 {A:Nat->Prop} {X:St} {D:Sd} {q:Option Addr} {c:Nat} {d:Nat->St} (h:StA w A X.bare D) (o:n<=1099511627776)
  (l:n=0\/∃b,q=some ⟨b,0,none⟩/\A b/\∃es:Nat->Sd,∀i,i<n->w.rangeAt b (0+i*21) (es i).cells/\StA w A (d i) (es i)):
  ∀s nu de x a ps bn bs m e,X=.mk s nu de x a ps bn bs m e->StA w A (.mk s nu de x a ps bn bs n d) (D.kids q n c):=by
 rintro s nu de x a ps bn bs m e rfl;unfold St.bare StA at h;obtain⟨⟨e1,e2,f,_⟩,h2,h3,h4,h5,h6,h7,j,_,_⟩:=h;exact⟨⟨e1,e2,f,rfl⟩,h2,h3,h4,h5,h6,h7,j,o,l.imp id λ⟨b,f1,f2,es,g⟩=>⟨b,0,f1,f2,es,g⟩⟩
theorem Db:∀(X:St) (d:Sd) (w:World),StOk w X d->dC X->cN 46 #[d.val] w λe w'=>∃b:Sd,e=.returned b.val/\StA w' (bP w w') X b/\Below w.1.size w w':=by
 intro X
 induction X with
 | non=>exact λd w h=>h.elim
 | mk s nu de x pn ps bn bs n ki ih=>intro d w h g;have m:=h;unfold StOk at h;obtain⟨⟨rfl,rfl,rfl,rfl⟩,h2,h3,h4,h5,h6,h7,B,q,o⟩:=h;have j:=g;unfold dC at j;obtain⟨_,_,_,_,y,A⟩:=j;obtain⟨f,k1,k2⟩:=Jo o;refine(xI (St.bare<|.mk d.s nu de x d.pon ps d.arn bs d.kin ki) f ki y (λz a=>Q6 (m.below a) g) k1 λi hi z a=>ih i (f i) z ((k2 i hi).below a)<|A i hi).mono ?_;rintro e w' ⟨D,t,c3,rfl,a0,l,r⟩;exact⟨D.kids t d.kin c3,rfl,Q7 a0 q l _ _ _ _ _ _ _ _ _ _ rfl,r⟩
abbrev Ky:=ByteArray × Int
theorem Fx {a b:ByteArray} (h:a.toList=b.toList):a=b:=by rw[qQ,qQ] at h;cases a;cases b;simp only[ByteArray.mk.injEq];exact Array.toList_inj.1 h
def My (a b:Ky):Prop:=a.1.toList<b.1.toList\/a.1.toList=b.1.toList/\a.2<b.2
instance (a b:Ky):Decidable (My a b):=by unfold My;infer_instance
theorem oV (l:List Int) (k:Nat):bA (l.take<|k+1)=bA (l.take k)+l.getD k 0*65536^k:=by
 by_cases h:k<l.length
 .exact Ff l k h
 have h0:l.getD k 0=0:=by simp[List.getD,lP (by omega:l.length<=k)]
 rw[lI<|by omega,lI<|by omega,h0];omega
theorem ux:∀{xs:List Int},bI xs->bA xs<65536^xs.length
 | [],_=>by simp[bA]
 | x::xs,h=>by have h0:=h 0;have h1:=ux<|Fi h;have h2:bA (x::xs)=x+65536*bA xs:=rfl;rw[h2,lF,lH];simp only[nz] at h0;omega
structure Sb (xs ys:List Int) (k:Nat) (out:List Int) (owed:Int):Prop where
 len:out.length=k
 dig:bI out
 ow:owed=0\/owed=1
 eq:bA out=bA (xs.take k) - bA (ys.take k)+owed*65536^k
theorem xJ {l:List Int} (h:bI l) {d:Int} (a:0<=d/\d<=65535):bI (l++[d]):=λj=>by
 by_cases b:j<l.length
 .have:=h j
  rwa [show (l++[d]).getD j 0=l.getD j 0 by simp[List.getD,lW b]]
 by_cases e:j=l.length
 .subst e;simpa [List.getD] using a
 have:(l++[d]).getD j 0=0:=(by simp only[List.getD];rw[lP<|by simp;omega];rfl);rw[this];omega
theorem xK (l:List Int) (d:Int):bA (l++[d])=bA l+d*65536^l.length:=by
 rw[BM];have:bA [d]=d:=by simp[bA]
 rw[this,kI]
theorem Sb.zero (xs ys:List Int):Sb xs ys 0 [] 0:=⟨rfl,λj=>by simp[List.getD],.inl rfl,by simp[bA]⟩
theorem Sb.free (h:Sb xs ys k out owed) (a:bI xs) (b:bI ys) (d:¬xs.getD k 0<owed+ys.getD k 0):Sb xs ys (k+1) (out++[xs.getD k 0 - (owed+ys.getD k 0)]) 0:=by have h1:=a k;have h2:=b k;have h3:=h.ow;refine⟨by simp[h.len],xJ h.dig<|by omega,.inl rfl,?_⟩;rw[xK,h.eq,oV,oV,h.len,pO,kW];omega
theorem Sb.loan (h:Sb xs ys k out owed) (a:bI xs) (b:bI ys) (d:xs.getD k 0<owed+ys.getD k 0):Sb xs ys (k+1) (out++[xs.getD k 0+65536 - (owed+ys.getD k 0)]) 1:=by have h1:=a k;have h2:=b k;have h3:=h.ow;refine⟨by simp[h.len],xJ h.dig<|by omega,.inr rfl,?_⟩;rw[xK,h.eq,oV,oV,h.len,pO,kW,kW,lH];omega
theorem Sb.done (h:Sb xs ys xs.length out owed) (_b:bI xs) (a:ys.length<=xs.length) (d:bA ys<=bA xs):bA out=bA xs - bA ys:=by
 have h1:=h.eq;rw[lQ,lI a] at h1;have h2:=ux h.dig;rw[h.len] at h2
 rcases h.ow with rfl | rfl
 .omega
 omega
set_option maxRecDepth 100000
set_option maxHeartbeats 16000000
theorem xL {W:World} {base:Nat} {zs:List Int} (q:zs.length=n) (a:W.ownsRow base 120 1 v n (zs.map<|Value.int .u32)) (f:bI zs) (x:n<=549755813888):
  ∃r,(cN 109 #[v] W λe w'=>e=.returned r/\w'=W)/\Sl16 W r (bE zs):=by
 subst q;have j:(bE zs).length=bK zs zs.length:=ed zs;have y:=fp zs zs.length;have m:=a
 obtain⟨_,⟨rfl,h0⟩ | ⟨g,d,s,rfl,t,l,h4,h5,h6,h7⟩⟩:=a
 .have hz:zs=[]:=kM h0;subst hz;exact⟨_,GG none 0 W,uK f,by rw[j];simp[bK],none,0,rfl,kF _,.inl rfl⟩
 have o:g<W.1.size:=(kG.1 l).1
 have b:∀i,i<zs.length->W.cell? ⟨g,0+i,none⟩=some (.int .u32<|zs.getD i 0):=by
  intro i hi;have h:=m.cells (g:=g) rfl i (.int .u32<|zs.getD i 0) (by simp[hi]);by_cases h0:i=0
  .subst h0;simpa [Addr.add] using h
  simpa [Addr.add,h0] using h
 refine⟨_,C2 g 0 zs.length d zs W b h4<|by omega,uK f,by omega,some ⟨g,0,none⟩,d,by rw[j],by omega,.inr ⟨g,0,rfl,o,λi hi=>?_⟩⟩;rw[zD _ _ hi];exact b i<|by omega
theorem Mz (hx:Sl16 w v xs) (hy:Sl16 w u ys) (hl:ys.length<=xs.length) (S:bA ys<=bA xs):
  cN 179 #[v,u] w λe w'=>∃r zs,e=.returned r/\Sl16 w' r zs/\bD zs/\bA zs=bA xs - bA ys/\Below w.1.size w w':=by
 obtain⟨E,hi,B,C,D⟩:=mE (show(prog.info? 120).map (λi=>(i.zero,i.size,i.bytes))=some (some<|.int .u32 0,1,4) by kernel_rfl);obtain⟨N,lx,q,cap,rfl,aF,Q⟩:=hx;obtain⟨O,ly,q2,ag,rfl,bL,R⟩:=hy
 have L:∀i,i<xs.length->∃b o,q=some ⟨b,o,none⟩/\b<w.1.size/\w.cell? ⟨b,o+i,none⟩=some (.int .u32<|xs.getD i 0):=λi hi=>by
  rcases Q with rfl | ⟨b,o,rfl,A,y⟩
  .simp at hi
  exact⟨b,o,rfl,A,y i hi⟩
 have M:∀i,i<ys.length->∃b o,q2=some ⟨b,o,none⟩/\b<w.1.size/\w.cell? ⟨b,o+i,none⟩=some (.int .u32<|ys.getD i 0):=λi hi=>by
  rcases R with rfl | ⟨b,o,rfl,A,y⟩
  .simp at hi
  exact⟨b,o,rfl,A,y i hi⟩
 have aa:=bC L;have ab:=bC M;have x:Hid (bI xs):=N;have z:Hid (bI ys):=O;have Z:Hid (bA ys<=bA xs):=S;clear L M Q R N O S;go_enter func179,ntmps179;go_wp2_with (at_make;refine qV _ rfl _ _ 78 rfl w.1.size 120 E (.int .u32 0) 1 underlying78 hi B C .i64 .i64 _ xs.length rfl rfl rfl (by rw[D];omega) (by unfold maxLen;omega) (kF _) ?_;intro w1 K J);have I:Below w.1.size w w1:=(kE _ _).grown J (kF _) λg j=>by cases j
 go_loopw [5,6,15] (λt5 t6 i wr=>∃(k:Nat) (out:List Int) (owed:Int),k<=xs.length/\i=.int .i64 k/\t6=.int .u32 owed/\0<=owed/\owed<=1/\wr.ownsRow w.1.size 120 1 t5 k (out.map<|Value.int .u32)/\Hid (Sb xs ys k out owed)/\Below w.1.size w wr) (λ_ _ i _=>xs.length - (intOf i).toNat)
 case atStart=>exact⟨0,[],0,kL _,rfl,rfl,by omega,by omega,K,Sb.zero xs ys,I⟩
 case round=>
  clear K J I;obtain⟨k,out,owed,hk,rfl,rfl,ai,aj,d,t,l⟩:=hrel;have F:=l.size;by_cases af:k<xs.length
  .have am:(k:Int)<(xs.length:Int):=(by omega);obtain⟨b,o,rfl,A,y⟩:=aa.out k af;have c1:wr.cell? ⟨b,o+k,none⟩=some (.int .u32<|xs.getD k 0):=fg l A y;have T:=x.out k;have U:=z.out k;obtain⟨X,f⟩:∃X,Hid (xs.getD k 0=X):=⟨_,rfl⟩;obtain⟨Y,a⟩:∃Y,Hid (ys.getD k 0=Y):=⟨_,rfl⟩;rw[f.out] at c1 T;rw[a.out] at U;obtain⟨x0,x1⟩:=T;obtain⟨y0,y1⟩:=U;clear y;by_cases ae:k<ys.length
   .have dE:(k:Int)<(ys.length:Int):=(by omega);obtain⟨W,o2,rfl,ad,P⟩:=ab.out k ae;have c2:wr.cell? ⟨W,o2+k,none⟩=some (.int .u32 Y):=a.out ▸ (fg l ad P);clear P;by_cases hs:X<owed+Y
    .go_wp2_with (at_builtin;(refine lm _ rfl _ _ 78 rfl w.1.size 120 E (.int .u32 0) 1 4 underlying78 hi B C D rfl (by decide) _ _ _ rfl (d.alloc _) ⟨wr.1.size,0,none⟩ 1 1 [.int .u32<|X+65536 - (owed+Y)] rfl rfl (World.news_of_block<|kR wr<|.cells #[.int .u32<|X+65536 - (owed+Y)] 120) (mG .u32 [X+65536 - (owed+Y)]) (by unfold maxLen;omega) (by omega) (by simp;omega) ?_;intro G H s m _));go_roundw
     case rel=>refine⟨k+1,out++[X+65536 - (owed+Y)],1,by omega,by go_num,rfl,by omega,by omega,by rw[lN];exact s,?_,(l.alloc F _).grown m (by simp;omega) λg j=>(d.lt g j).1⟩;have h:=t.out.loan x.out z.out (by rw[f.out,a.out];omega);rw[f.out,a.out] at h;show Sb _ _ _ _ _;show Sb _ _ _ _ _;simpa using h
     case measure=>simp[intOf];omega
    go_wp2_with (at_builtin;(refine lm _ rfl _ _ 78 rfl w.1.size 120 E (.int .u32 0) 1 4 underlying78 hi B C D rfl (by decide) _ _ _ rfl (d.alloc _) ⟨wr.1.size,0,none⟩ 1 1 [.int .u32<|X - (owed+Y)] rfl rfl (World.news_of_block<|kR wr<|.cells #[.int .u32<|X - (owed+Y)] 120) (mG .u32 [X - (owed+Y)]) (by unfold maxLen;omega) (by omega) (by simp;omega) ?_;intro G H s m _));go_roundw
    case rel=>refine⟨k+1,out++[X - (owed+Y)],0,by omega,by go_num,rfl,by omega,by omega,by rw[lN];exact s,?_,(l.alloc F _).grown m (by simp;omega) λg j=>(d.lt g j).1⟩;have h:=t.out.free x.out z.out (by rw[f.out,a.out];omega);rw[f.out,a.out] at h;show Sb _ _ _ _ _;show Sb _ _ _ _ _;simpa using h
    case measure=>simp[intOf];omega
   have dE:¬(k:Int)<(ys.length:Int):=(by omega);have ac:Y=0:=(by rw[<-a.out];simp[List.getD,lP (by omega:ys.length<=k)]);subst ac;by_cases hs:X<owed
   .go_wp2_with (at_builtin;(refine lm _ rfl _ _ 78 rfl w.1.size 120 E (.int .u32 0) 1 4 underlying78 hi B C D rfl (by decide) _ _ _ rfl (d.alloc _) ⟨wr.1.size,0,none⟩ 1 1 [.int .u32<|X+65536 - owed] rfl rfl (World.news_of_block<|kR wr<|.cells #[.int .u32<|X+65536 - owed] 120) (mG .u32 [X+65536 - owed]) (by unfold maxLen;omega) (by omega) (by simp;omega) ?_;intro G H s m _));go_roundw
    case rel=>refine⟨k+1,out++[X+65536 - owed],1,by omega,by go_num,rfl,by omega,by omega,by rw[lN];exact s,?_,(l.alloc F _).grown m (by simp;omega) λg j=>(d.lt g j).1⟩;have h:=t.out.loan x.out z.out (by rw[f.out,a.out];omega);rw[f.out,a.out] at h;show Sb _ _ _ _ _;show Sb _ _ _ _ _;simpa using h
    case measure=>simp[intOf];omega
   go_wp2_with (at_builtin;(refine lm _ rfl _ _ 78 rfl w.1.size 120 E (.int .u32 0) 1 4 underlying78 hi B C D rfl (by decide) _ _ _ rfl (d.alloc _) ⟨wr.1.size,0,none⟩ 1 1 [.int .u32<|X - owed] rfl rfl (World.news_of_block<|kR wr<|.cells #[.int .u32<|X - owed] 120) (mG .u32 [X - owed]) (by unfold maxLen;omega) (by omega) (by simp;omega) ?_;intro G H s m _));go_roundw
   case rel=>refine⟨k+1,out++[X - owed],0,by omega,by go_num,rfl,by omega,by omega,by rw[lN];exact s,?_,(l.alloc F _).grown m (by simp;omega) λg j=>(d.lt g j).1⟩;have h:=t.out.free x.out z.out (by rw[f.out,a.out];omega);rw[f.out,a.out] at h;show Sb _ _ _ _ _;show Sb _ _ _ _ _;simpa using h
   case measure=>simp[intOf];omega
  obtain rfl:k=xs.length:=(by omega);obtain⟨r,V,hr⟩:=xL t.out.len d t.out.dig lx;have hv:=t.out.done x.out hl Z.out;go_wp2_with (go_at_call 109;refine V.mono ?_;rintro e w9 ⟨rfl,rfl⟩);go_ret;exact⟨r,bE out,rfl,hr,jH out,by rw[o4];exact hv,l⟩
structure Ad (xs ys:List Int) (k:Nat) (out:List Int) (cy:Int):Prop where
 len:out.length=k
 dig:bI out
 eq:bA out+cy*65536^k=bA (xs.take k)+bA (ys.take k)
theorem Ad.zero (xs ys:List Int):Ad xs ys 0 [] 0:=⟨rfl,λj=>by simp[List.getD],by simp[bA]⟩
theorem Ad.step {a s:Int} (h:Ad xs ys k out a) (b:s=xs.getD k 0+a+ys.getD k 0):Ad xs ys (k+1) (out++[s % 65536]) (s / 65536):=by
 refine⟨by simp[h.len],xJ h.dig<|by omega,?_⟩;have d:=h.eq;rw[xK,oV,oV,h.len,lH];generalize (65536:Int)^k=p at*
 have e:s*p=s % 65536*p+s / 65536*(p*65536):=by
  have h1:s=s % 65536+65536*(s / 65536):=by omega
  calc s*p=(s % 65536+65536*(s / 65536))*p:=by rw[<-h1]
   _=_:=by rw[kW,kI 65536,kH,kI 65536 p]
 rw[b,kW,kW,<-b] at e;omega
theorem BT {W:World} {base:Nat} {zs:List Int} (m:zs.length=n) (a:W.ownsRow base 120 1 v n (zs.map<|Value.int .u32)) (b:bI zs) (l:n<=549755813888):Sl16 W v zs:=by
 subst m;have e:=a
 obtain⟨_,⟨rfl,h0⟩ | ⟨g,f,o,rfl,q,d,h4,h5,h6,h7⟩⟩:=a
 .have hz:zs=[]:=kM h0;subst hz;exact⟨b,by simp,none,0,rfl,kF _,.inl rfl⟩
 have j:g<W.1.size:=(kG.1 d).1;refine⟨b,l,some ⟨g,0,none⟩,f,rfl,h4,.inr ⟨g,0,rfl,j,λi hi=>?_⟩⟩;have h:=e.cells (g:=g) rfl i (.int .u32<|zs.getD i 0) (by simp[hi]);by_cases h0:i=0
 .subst h0;simpa [Addr.add] using h
 simpa [Addr.add,h0] using h
theorem Q8 (hx:Sl16 w v xs) (hy:Sl16 w u ys) (hl:ys.length<=xs.length) (jO:xs.length<=274877906944):
  cN 178 #[v,u] w λe w'=>∃r zs,e=.returned r/\Sl16 w' r zs/\bA zs=bA xs+bA ys/\(zs.length=xs.length\/zs.length=xs.length+1/\zs.getD xs.length 0=1)/\Below w.1.size w w':=by
 obtain⟨D,hi,A,B,C⟩:=mE (show(prog.info? 120).map (λi=>(i.zero,i.size,i.bytes))=some (some<|.int .u32 0,1,4) by kernel_rfl);obtain⟨M,lx,q,cap,rfl,aF,P⟩:=hx;obtain⟨N,ly,q2,ak,rfl,bL,Q⟩:=hy
 have K:∀i,i<xs.length->∃b o,q=some ⟨b,o,none⟩/\b<w.1.size/\w.cell? ⟨b,o+i,none⟩=some (.int .u32<|xs.getD i 0):=λi hi=>by
  rcases P with rfl | ⟨b,o,rfl,y,l⟩
  .simp at hi
  exact⟨b,o,rfl,y,l i hi⟩
 have L:∀i,i<ys.length->∃b o,q2=some ⟨b,o,none⟩/\b<w.1.size/\w.cell? ⟨b,o+i,none⟩=some (.int .u32<|ys.getD i 0):=λi hi=>by
  rcases Q with rfl | ⟨b,o,rfl,y,l⟩
  .simp at hi
  exact⟨b,o,rfl,y,l i hi⟩
 have aa:=bC K;have ab:=bC L;have ac:Hid (bI xs):=M;have ad:Hid (bI ys):=N;have al:¬(xs.length:Int)<(ys.length:Int):=by omega
 clear K L P Q M N;go_enter func178,ntmps178;go_wp2_with (at_make;refine qV _ rfl _ _ 78 rfl w.1.size 120 D (.int .u32 0) 1 underlying78 hi A B .i64 .i64 _ (xs.length+1) rfl rfl (by omega) (by rw[C];omega) (by unfold maxLen;omega) (kF _) ?_;intro w1 J I);have H:Below w.1.size w w1:=(kE _ _).grown I (kF _) λg f=>by cases f
 go_loopw [5,6,22] (λt5 t6 i wr=>∃(k:Nat) (out:List Int) (owed:Int),k<=xs.length/\i=.int .i64 k/\t6=.int .u32 owed/\0<=owed/\owed<=1/\wr.ownsRow w.1.size 120 1 t5 k (out.map<|Value.int .u32)/\Hid (Ad xs ys k out owed)/\Below w.1.size w wr) (λ_ _ i _=>xs.length - (intOf i).toNat)
 case atStart=>exact⟨0,[],0,kL _,rfl,rfl,by omega,by omega,J,Ad.zero xs ys,H⟩
 case round=>
  clear J I H;obtain⟨k,out,owed,hk,rfl,rfl,an,ao,a,z,d⟩:=hrel;have G:=d.size;by_cases ai:k<xs.length
  .have am:(k:Int)<(xs.length:Int):=(by omega);obtain⟨b,o,rfl,y,l⟩:=aa.out k ai;have c1:wr.cell? ⟨b,o+k,none⟩=some (.int .u32<|xs.getD k 0):=fg d y l;have T:=ac.out k;have U:=ad.out k;obtain⟨X,E⟩:∃X,Hid (xs.getD k 0=X):=⟨_,rfl⟩;obtain⟨Y,x⟩:∃Y,Hid (ys.getD k 0=Y):=⟨_,rfl⟩;rw[E.out] at c1 T;rw[x.out] at U;obtain⟨x0,x1⟩:=T;obtain⟨y0,y1⟩:=U;clear l;by_cases ag:k<ys.length
   .have dE:(k:Int)<(ys.length:Int):=(by omega);obtain⟨Z,o2,rfl,af,O⟩:=ab.out k ag;have c2:wr.cell? ⟨Z,o2+k,none⟩=some (.int .u32 Y):=x.out ▸ (fg d af O);clear O;go_wp2_with (at_builtin;refine lm _ rfl _ _ 78 rfl w.1.size 120 D (.int .u32 0) 1 4 underlying78 hi A B C rfl (by decide) _ _ _ rfl (a.alloc _) ⟨wr.1.size,0,none⟩ 1 1 [.int .u32<|(X+owed+Y) % 65536] rfl rfl (World.news_of_block<|kR wr<|.cells #[.int .u32<|(X+owed+Y) % 65536] 120) (mG .u32 [(X+owed+Y) % 65536]) (by unfold maxLen;omega) (by omega) (by simp;omega) ?_;intro V W t m _);go_roundw
    case rel=>have h:=z.out.step (s:=X+owed+Y) (by rw[E.out,x.out]);refine⟨k+1,out++[(X+owed+Y) % 65536],(X+owed+Y) / 65536,by omega,by go_num,rfl,by omega,by omega,by rw[lN];exact t,?_,(d.alloc G _).grown m (by simp;omega) λg f=>(a.lt g f).1⟩;show Ad _ _ _ _ _;simpa using h
    case measure=>simp[intOf];omega
   have dE:¬(k:Int)<(ys.length:Int):=(by omega);have ae:Y=0:=(by rw[<-x.out];simp[List.getD,lP (by omega:ys.length<=k)]);subst ae;go_wp2_with (at_builtin;refine lm _ rfl _ _ 78 rfl w.1.size 120 D (.int .u32 0) 1 4 underlying78 hi A B C rfl (by decide) _ _ _ rfl (a.alloc _) ⟨wr.1.size,0,none⟩ 1 1 [.int .u32<|(X+owed) % 65536] rfl rfl (World.news_of_block<|kR wr<|.cells #[.int .u32<|(X+owed) % 65536] 120) (mG .u32 [(X+owed) % 65536]) (by unfold maxLen;omega) (by omega) (by simp;omega) ?_;intro V W t m _);go_roundw
   case rel=>have h:=z.out.step (s:=X+owed) (by rw[E.out,x.out];omega);refine⟨k+1,out++[(X+owed) % 65536],(X+owed) / 65536,by omega,by go_num,rfl,by omega,by omega,by rw[lN];exact t,?_,(d.alloc G _).grown m (by simp;omega) λg f=>(a.lt g f).1⟩;show Ad _ _ _ _ _;simpa using h
   case measure=>simp[intOf];omega
  obtain rfl:k=xs.length:=(by omega);have S:=z.out.eq;have j:=z.out.len;have R:=z.out.dig;rw[lQ,lI<|by omega] at S;by_cases ho:owed=0
  .subst ho;have F:=BT j a R lx;go_wp2_with fail;go_ret;exact⟨_,out,rfl,F,by omega,.inl j,d⟩
  obtain rfl:owed=1:=(by omega);go_wp2_with (at_builtin;refine lm _ rfl _ _ 78 rfl w.1.size 120 D (.int .u32 0) 1 4 underlying78 hi A B C rfl (by decide) _ _ _ rfl (a.alloc _) ⟨wr.1.size,0,none⟩ 1 1 [.int .u32<|1] rfl rfl (World.news_of_block<|kR wr<|.cells #[.int .u32<|1] 120) (mG .u32 [1]) (by unfold maxLen;omega) (by omega) (by simp;omega) ?_;intro V W t m _);go_ret;have F:=BT (n:=xs.length+1) (zs:=out++[1]) (by simp[j]) (by rw[lN];exact t) (xJ R<|by omega) (by omega);exact⟨_,out++[1],rfl,F,by rw[xK,j];exact S,.inr ⟨by simp[j],by rw[<-j];simp[List.getD]⟩,(d.alloc G _).grown m (by simp;omega) λg f=>(a.lt g f).1⟩
theorem Q9 (hx:Sl16 w v xs) (hy:Sl16 w u ys) (hl:ys.length<xs.length) (jO:xs.length<=274877906944):
  cN 178 #[u,v] w λe w'=>∃r zs,e=.returned r/\Sl16 w' r zs/\bA zs=bA xs+bA ys/\(zs.length=xs.length\/zs.length=xs.length+1/\zs.getD xs.length 0=1)/\Below w.1.size w w':=by
 obtain⟨D,hi,A,B,C⟩:=mE (show(prog.info? 120).map (λi=>(i.zero,i.size,i.bytes))=some (some<|.int .u32 0,1,4) by kernel_rfl);obtain⟨M,lx,q,cap,rfl,aF,P⟩:=hx;obtain⟨N,ly,q2,ak,rfl,bL,Q⟩:=hy
 have K:∀i,i<xs.length->∃b o,q=some ⟨b,o,none⟩/\b<w.1.size/\w.cell? ⟨b,o+i,none⟩=some (.int .u32<|xs.getD i 0):=λi hi=>by
  rcases P with rfl | ⟨b,o,rfl,y,l⟩
  .simp at hi
  exact⟨b,o,rfl,y,l i hi⟩
 have L:∀i,i<ys.length->∃b o,q2=some ⟨b,o,none⟩/\b<w.1.size/\w.cell? ⟨b,o+i,none⟩=some (.int .u32<|ys.getD i 0):=λi hi=>by
  rcases Q with rfl | ⟨b,o,rfl,y,l⟩
  .simp at hi
  exact⟨b,o,rfl,y,l i hi⟩
 have aa:=bC K;have ab:=bC L;have ac:Hid (bI xs):=M;have ad:Hid (bI ys):=N;have al:(ys.length:Int)<(xs.length:Int):=by omega
 clear K L P Q M N;go_enter func178,ntmps178;go_wp2_with (at_make;refine qV _ rfl _ _ 78 rfl w.1.size 120 D (.int .u32 0) 1 underlying78 hi A B .i64 .i64 _ (xs.length+1) rfl rfl (by omega) (by rw[C];omega) (by unfold maxLen;omega) (kF _) ?_;intro w1 J I);have H:Below w.1.size w w1:=(kE _ _).grown I (kF _) λg f=>by cases f
 go_loopw [5,6,22] (λt5 t6 i wr=>∃(k:Nat) (out:List Int) (owed:Int),k<=xs.length/\i=.int .i64 k/\t6=.int .u32 owed/\0<=owed/\owed<=1/\wr.ownsRow w.1.size 120 1 t5 k (out.map<|Value.int .u32)/\Hid (Ad xs ys k out owed)/\Below w.1.size w wr) (λ_ _ i _=>xs.length - (intOf i).toNat)
 case atStart=>exact⟨0,[],0,kL _,rfl,rfl,by omega,by omega,J,Ad.zero xs ys,H⟩
 case round=>
  clear J I H;obtain⟨k,out,owed,hk,rfl,rfl,an,ao,a,z,d⟩:=hrel;have G:=d.size;by_cases ai:k<xs.length
  .have am:(k:Int)<(xs.length:Int):=(by omega);obtain⟨b,o,rfl,y,l⟩:=aa.out k ai;have c1:wr.cell? ⟨b,o+k,none⟩=some (.int .u32<|xs.getD k 0):=fg d y l;have T:=ac.out k;have U:=ad.out k;obtain⟨X,E⟩:∃X,Hid (xs.getD k 0=X):=⟨_,rfl⟩;obtain⟨Y,x⟩:∃Y,Hid (ys.getD k 0=Y):=⟨_,rfl⟩;rw[E.out] at c1 T;rw[x.out] at U;obtain⟨x0,x1⟩:=T;obtain⟨y0,y1⟩:=U;clear l;by_cases ag:k<ys.length
   .have dE:(k:Int)<(ys.length:Int):=(by omega);obtain⟨Z,o2,rfl,af,O⟩:=ab.out k ag;have c2:wr.cell? ⟨Z,o2+k,none⟩=some (.int .u32 Y):=x.out ▸ (fg d af O);clear O;go_wp2_with (at_builtin;refine lm _ rfl _ _ 78 rfl w.1.size 120 D (.int .u32 0) 1 4 underlying78 hi A B C rfl (by decide) _ _ _ rfl (a.alloc _) ⟨wr.1.size,0,none⟩ 1 1 [.int .u32<|(X+owed+Y) % 65536] rfl rfl (World.news_of_block<|kR wr<|.cells #[.int .u32<|(X+owed+Y) % 65536] 120) (mG .u32 [(X+owed+Y) % 65536]) (by unfold maxLen;omega) (by omega) (by simp;omega) ?_;intro V W t m _);go_roundw
    case rel=>have h:=z.out.step (s:=X+owed+Y) (by rw[E.out,x.out]);refine⟨k+1,out++[(X+owed+Y) % 65536],(X+owed+Y) / 65536,by omega,by go_num,rfl,by omega,by omega,by rw[lN];exact t,?_,(d.alloc G _).grown m (by simp;omega) λg f=>(a.lt g f).1⟩;show Ad _ _ _ _ _;simpa using h
    case measure=>simp[intOf];omega
   have dE:¬(k:Int)<(ys.length:Int):=(by omega);have ae:Y=0:=(by rw[<-x.out];simp[List.getD,lP (by omega:ys.length<=k)]);subst ae;go_wp2_with (at_builtin;refine lm _ rfl _ _ 78 rfl w.1.size 120 D (.int .u32 0) 1 4 underlying78 hi A B C rfl (by decide) _ _ _ rfl (a.alloc _) ⟨wr.1.size,0,none⟩ 1 1 [.int .u32<|(X+owed) % 65536] rfl rfl (World.news_of_block<|kR wr<|.cells #[.int .u32<|(X+owed) % 65536] 120) (mG .u32 [(X+owed) % 65536]) (by unfold maxLen;omega) (by omega) (by simp;omega) ?_;intro V W t m _);go_roundw
   case rel=>have h:=z.out.step (s:=X+owed) (by rw[E.out,x.out];omega);refine⟨k+1,out++[(X+owed) % 65536],(X+owed) / 65536,by omega,by go_num,rfl,by omega,by omega,by rw[lN];exact t,?_,(d.alloc G _).grown m (by simp;omega) λg f=>(a.lt g f).1⟩;show Ad _ _ _ _ _;simpa using h
   case measure=>simp[intOf];omega
  obtain rfl:k=xs.length:=(by omega);have S:=z.out.eq;have j:=z.out.len;have R:=z.out.dig;rw[lQ,lI<|by omega] at S;by_cases ho:owed=0
  .subst ho;have F:=BT j a R lx;go_wp2_with fail;go_ret;exact⟨_,out,rfl,F,by omega,.inl j,d⟩
  obtain rfl:owed=1:=(by omega);go_wp2_with (at_builtin;refine lm _ rfl _ _ 78 rfl w.1.size 120 D (.int .u32 0) 1 4 underlying78 hi A B C rfl (by decide) _ _ _ rfl (a.alloc _) ⟨wr.1.size,0,none⟩ 1 1 [.int .u32<|1] rfl rfl (World.news_of_block<|kR wr<|.cells #[.int .u32<|1] 120) (mG .u32 [1]) (by unfold maxLen;omega) (by omega) (by simp;omega) ?_;intro V W t m _);go_ret;have F:=BT (n:=xs.length+1) (zs:=out++[1]) (by simp[j]) (by rw[lN];exact t) (xJ R<|by omega) (by omega);exact⟨_,out++[1],rfl,F,by rw[xK,j];exact S,.inr ⟨by simp[j],by rw[<-j];simp[List.getD]⟩,(d.alloc G _).grown m (by simp;omega) λg f=>(a.lt g f).1⟩
structure No (x X:Int) (out:List Int):Prop where
 dig:bI out
 eq:bA out+X*65536^out.length=x
 can:X=0->bD out
theorem No.zero (x:Int):No x x []:=⟨λj=>by simp[List.getD],by simp[bA],λ_ m a=>by simp at a⟩
theorem No.step {x X:Int} (h:No x X out) (h0:0<X):No x (X / 65536) (out++[X % 65536]):=by
 refine⟨xJ h.dig<|by omega,?_,λb m a=>?_⟩
 .have he:=h.eq;rw[xK,kY,pV,lH];generalize (65536:Int)^out.length=p at*
  have e:X*p=X % 65536*p+X / 65536*(p*65536):=by
   have h1:X=X % 65536+65536*(X / 65536):=by omega
   calc X*p=(X % 65536+65536*(X / 65536))*p:=by rw[<-h1]
    _=_:=by rw[kW,kI 65536,kH,kI 65536 p]
  omega
 simp at a;subst a;simp[List.getD];omega
theorem No.len {x X:Int} (h:No x X out) (h0:0<X) (d:x<=18446744073709551615):out.length<4:=by
 rcases kS out.length 4 with a | a
 .exact a
 have h1:=h.eq;have h2:=gD h.dig;obtain⟨m,b⟩:=Nat.exists_eq_add_of_le a;rw[b,mw] at h1;have h5:(65536:Int)^4=18446744073709551616:=by decide
 rw[h5] at h1;have h3:(0:Int)<65536^m:=pH (by decide);generalize (65536:Int)^m=p at*;have h4:=kO (by omega:(1:Int)<=X) (by omega:(0:Int)<=18446744073709551616*p);rw[nS] at h4;omega
theorem Fy (w:World) (x:Int) (z:0<=x) (j:x<=18446744073709551615):cN 60 #[.int .u64 x] w λe w'=>∃r zs,e=.returned r/\Sl16 w' r zs/\bD zs/\bA zs=x/\zs.length<=4/\Below w.1.size w w':=by
 obtain⟨D,hi,A,B,C⟩:=mE (show(prog.info? 120).map (λi=>(i.zero,i.size,i.bytes))=some (some<|.int .u32 0,1,4) by kernel_rfl);go_enter func60,ntmps60;go_wp2_with fail
 go_loopw [0,3] (λE F wr=>∃(X:Int) (out:List Int) (k:Nat),E=.int .u64 X/\0<=X/\X<=18446744073709551615/\k=out.length/\k<=4/\wr.ownsRow w.1.size 120 1 F k (out.map<|Value.int .u32)/\Hid (No x X out)/\Below w.1.size w wr) (λi _ _=>(intOf i).toNat)
 case atStart=>exact⟨x,[],0,rfl,z,j,rfl,by omega,mH _ _ _ _,No.zero x,kE _ _⟩
 case round=>
  obtain⟨X,out,k,rfl,X0,G,b,I,d,a,f⟩:=hrel;have y:=f.size;by_cases h:0<X
  .have hk3:k<4:=(by rw[b];exact a.out.len h j);have s:Hid (k=out.length):=b;clear b;go_wp2_with (at_builtin;refine lm _ rfl _ _ 78 rfl w.1.size 120 D (.int .u32 0) 1 4 underlying78 hi A B C rfl (by decide) _ _ _ rfl (d.alloc _) ⟨wr.1.size,0,none⟩ 1 1 [.int .u32<|X % 65536] rfl rfl (World.news_of_block<|kR wr<|.cells #[.int .u32<|X % 65536] 120) (mG .u32 [X % 65536]) (by unfold maxLen;omega) (by omega) (by simp;omega) ?_;intro J K m l _);go_roundw
   case rel=>refine⟨X / 65536,out++[X % 65536],k+1,rfl,by omega,by omega,by rw[s.out];simp,by omega,by rw[lN];exact m,?_,(f.alloc y _).grown l (by simp;omega) λg q=>(d.lt g q).1⟩;exact a.out.step h
   case measure=>simp[intOf];omega
  obtain rfl:X=0:=(by omega);have t:=BT b.symm d a.out.dig (by omega);have H:=a.out.eq;have o:=a.out.can rfl;go_wp2_with fail;go_ret;exact⟨_,rfl,out,t,o,by omega,by omega,f⟩
theorem MA (g:xs.length=ys.length) (b:bI xs) (d:bI ys) (o:k<xs.length) (h:xs.getD k 0<ys.getD k 0) (e:∀j,k+1<=j->j<xs.length->xs.getD j 0=ys.getD j 0):bA xs<bA ys:=by
 have key:∀m,k+1+m<=xs.length->bA (xs.take<|k+1+m)<bA (ys.take<|k+1+m):=by
  intro m
  induction m with
  | zero=>
   intro _
   have a:∀l:List Int,bI l->bI (l.take k):=λl f j=>by
    have:=f j;simp only[List.getD,mD];split
    .exact this
    simp
   have h1:=ux<|a xs b;have h2:=gD<|a ys d;rw[tz,oV,oV];rw[lD,lR<|by omega] at h1;generalize (65536:Int)^k=p at*;have h3:(xs.getD k 0+1)*p<=ys.getD k 0*p:=kO (by omega) (by have:=gD<|a xs b;omega);rw[kW,nS] at h3;omega
  | succ m i=>intro q;have h1:=i (by omega);rw[<-pW,oV,oV,e (k+1+m) (by omega)<|by omega];omega
 have:=key (xs.length - (k+1))<|by omega
 rwa [show k+1+(xs.length - (k+1))=xs.length by omega,lQ,g,lQ] at this
theorem Q' (b o cap d l F:Nat) (xs ys:List Int) (w:World) (g:xs.length=ys.length) (s:bI xs) (x:bI ys) (N:xs.length<=1099511627776)
  (I:∀i,i<xs.length->w.cell? ⟨b,o+i,none⟩=some (.int .u32<|xs.getD i 0)) (J:∀i,i<ys.length->w.cell? ⟨d,l+i,none⟩=some (.int .u32<|ys.getD i 0)) (G:b<w.1.size) (H:d<w.1.size):
  cN 79 #[.slice (some ⟨b,o,none⟩) xs.length cap,.slice (some ⟨d,l,none⟩) xs.length F] w λe w'=>∃c:Int,e=.returned (.int .i64 c)/\(c<0↔bA xs<bA ys)/\(c=0↔xs=ys)/\Below w.1.size w w':=by
 have t:Hid (bI xs):=s;have y:Hid (bI ys):=x;clear s x;go_enter func79,ntmps79;go_wp2
 go_loopw [5] (λi wr=>∃k:Nat,k<=xs.length/\i=.int .i64 ((k:Int) - 1)/\(∀j,k<=j->j<xs.length->xs.getD j 0=ys.getD j 0)/\Below w.1.size w wr) (λi _=>(intOf i+1).toNat)
 case atStart=>exact⟨xs.length,kF _,by simp[g],λj h1 h2=>by omega,kE _ _⟩
 case round=>
  obtain⟨k,q,rfl,C,f⟩:=hrel;have a:=bC C;clear C
  match k,q,a with
  | 0,q,a=>go_wp2;go_ret;have e:=Fe g λj K=>a.out j (kL _) K;exact⟨0,rfl,by simp[e],by simp[e],f⟩
  | k+1,q,a=>
   have e1:((k+1:Nat):Int) - 1=(k:Int):=(by omega);rw[e1];have c1:wr.cell? ⟨b,o+k,none⟩=some (.int .u32<|xs.getD k 0):=fg f G (I k<|by omega);have c2:wr.cell? ⟨d,l+k,none⟩=some (.int .u32<|ys.getD k 0):=fg f H (J k<|by omega);generalize A:xs.getD k 0=X at c1;generalize B:ys.getD k 0=Y at c2;have M:(k:Int)<(xs.length:Int):=(by omega);go_wp2
   go_quiet (fail)
   have m:Below w.1.size w (wr.drewN nq):=ee f _;have D:(wr.drewN nq).cell? ⟨b,o+k,none⟩=some (.int .u32 X):=c1;have E:(wr.drewN nq).cell? ⟨d,l+k,none⟩=some (.int .u32 Y):=c2;generalize wr.drewN nq=L at m D E ⊢;clear c1 c2;go_wp2
   .go_ret;have r:X<Y:=(by assumption);have e:=Ae (xs:=xs) (ys:=ys) (j:=k) (by omega);exact⟨-1,rfl,⟨λ_=>MA g t.out y.out (by omega) (by rw[A,B];exact r) a.out,λ_=>by decide⟩,by simp[e],m⟩
   go_quiet (fail)
   have z:Below w.1.size w (L.drewN nq):=ee m _;go_wp2
   .go_ret;have r:X > Y:=(by assumption);have e:=Ae (xs:=xs) (ys:=ys) (j:=k) (by omega);have hv:=MA g.symm y.out t.out (k:=k) (by omega) (by rw[A,B];exact r) λj h1 h2=>(a.out j h1<|by omega).symm;exact⟨1,rfl,⟨λh=>absurd h<|by decide,λh=>by omega⟩,by simp[e],z⟩
   go_roundw
   case rel=>
    refine⟨k,by omega,by go_num,λj h1 h2=>?_,z⟩
    rcases kS k j with h | h
    .exact a.out j h h2
    have:j=k:=(by omega);subst this;omega
   case measure=>simp[intOf]
theorem Jz (g:bI xs) (a:bI ys) (e:bD ys) (o:xs.length<ys.length):bA xs<bA ys:=by
 obtain⟨m,b⟩:∃m,ys.length=m+1:=⟨ys.length - 1,by omega⟩;have h0:=e m b;have h1:=a m;have hv:=oV ys m;rw[<-b,lQ] at hv
 have f:bI (ys.take m):=λj=>by
  have:=a j;simp only[List.getD,mD];split
  .exact this
  simp
 have h2:=gD f;have h3:=ux g;obtain⟨d,h⟩:∃d,m=xs.length+d:=⟨m - xs.length,by omega⟩
 have h4:(65536:Int)^xs.length<=65536^m:=by
  rw[h,mw];have i:(0:Int)<65536^d:=pH (by decide);have l:(0:Int)<65536^xs.length:=pH (by decide);have:=lr (by omega:(1:Int)<=65536^d) (by omega:(0:Int)<=65536^xs.length)
  rwa [qC] at this
 have h5:(1:Int)*65536^m<=ys.getD m 0*65536^m:=kO (by omega) (by have:(0:Int)<65536^m:=pH (by decide);omega);rw[nS] at h5;omega
theorem Ra (q q':Option Addr) (m n cap cap':Nat) (w:World) (h:m<n):cN 79 #[.slice q m cap,.slice q' n cap'] w λe w'=>e=.returned (.int .i64<|-1)/\w'=w:=by
 have a:¬(m:Int)=(n:Int):=by omega
 have h2:(m:Int)<(n:Int):=by omega
 clear h;go_enter func79,ntmps79;go_wp2;go_ret;exact⟨rfl,rfl⟩
theorem Rb (q q':Option Addr) (m n cap cap':Nat) (w:World) (h:n<m):cN 79 #[.slice q m cap,.slice q' n cap'] w λe w'=>e=.returned (.int .i64 1)/\w'=w:=by
 have a:¬(m:Int)=(n:Int):=by omega
 have h2:¬(m:Int)<(n:Int):=by omega
 clear h;go_enter func79,ntmps79;go_wp2;go_ret;exact⟨rfl,rfl⟩
theorem Fz (x:Sl16 w v xs) (y:Sl16 w u ys) (l:bD xs) (m:bD ys):
  cN 79 #[v,u] w λe w'=>∃c:Int,e=.returned (.int .i64 c)/\(c<0↔bA xs<bA ys)/\(c=0↔xs=ys)/\Below w.1.size w w':=by
 obtain⟨f,B,q,cap,rfl,C,z⟩:=x;obtain⟨g,D,q',cap',rfl,E,A⟩:=y
 rcases qE xs.length ys.length with a | a | a
 .refine(Ra q q' xs.length ys.length cap cap' w a).mono ?_;rintro e w' ⟨rfl,rfl⟩;exact⟨-1,rfl,⟨λ_=>Jz f g m a,λ_=>by decide⟩,⟨λh=>absurd h<|by decide,λh=>by rw[h] at a;omega⟩,kE _ _⟩
 .by_cases hx0:xs=[]
  .subst hx0;have d:ys=[]:=kM a.symm;subst d;refine(LY q q' cap cap' w).mono ?_;rintro e w' ⟨rfl,rfl⟩;exact⟨0,rfl,by simp,by simp,kE _ _⟩
  have d:ys≠[]:=λh=>hx0<|kM<|by rw[a,h];rfl
  rcases z with h | ⟨b,o,rfl,t,r⟩
  .exact absurd h hx0
  rcases A with h | ⟨j,o',rfl,i,s⟩
  .exact absurd h d
  rw[<-a];exact Q' b o cap j o' cap' xs ys w a f g (by omega) r s t i
 refine(Rb q q' xs.length ys.length cap cap' w a).mono ?_;rintro e w' ⟨rfl,rfl⟩;have:=Jz g f l a;exact⟨1,rfl,⟨λh=>absurd h<|by decide,λh=>by omega⟩,⟨λh=>absurd h<|by decide,λh=>by rw[h] at a;omega⟩,kE _ _⟩
