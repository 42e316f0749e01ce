import Derived.Test.YthcfmhgihcjloaaGreatDoorPk02
namespace Go.Proofs.YthcfmhgihcjloaaGreatDoor
open Go Go.RowKit Tryz
set_option maxRecDepth 100000
variable {xs xa xc xb xd:List Int} {w w':World} {n1 n2 R:Bool} {b B o:Nat} {m1 m2:ByteArray} {a1 c1 a2 c2:Value}
def jn (n1:Bool) (ya yc:List Int) (n2:Bool) (yb yd:List Int):Bool:=
 if ya.length=0\/yb.length=0 then decide (ya.length=yb.length) else(n1==n2)&&decide (bA ya*bA (cR yd)=bA yb*bA (cR yc))
theorem GH (h:xs.length<=1048576):(bE<|bH xs).length<=2097152:=by have h1:=Fj xs;have h2:=fp (bH xs) (bH xs).length;rw[ed];omega
theorem L4 (xs:List Int):cR xs≠[]:=by
 unfold cR;split
 .simp
 assumption
theorem L6 (h:xs.length<=2097152):(cR xs).length<=2097152:=by
 unfold cR;split
 .simp
 exact h
theorem Qm {a c b d:Value} (ha:Sl w a xa) (hc:Sl w c xc) (hb:Sl w b xb) (hd:Sl w d xd)
  (la:xa.length<=1048576) (lb:xb.length<=1048576) (lc:xc.length<=1048576) (ld:xd.length<=1048576):
  bF w 51 #[.agg #[.bool n1,a,c],.agg #[.bool n2,b,d]] (.bool<|jn n1 (bE<|bH xa) (bE<|bH xc) n2 (bE<|bH xb)<|bE<|bH xd):=by
 have kA:∀f,Below w.1.size w f->cN 77 #[a] f λe w'=>∃r,e=.returned r/\Sl16 w' r (bE<|bH xa)/\Below f.1.size f w':=λf h=>Ah (ha.below h) (by omega);have kB:∀f,Below w.1.size w f->cN 77 #[b] f λe w'=>∃r,e=.returned r/\Sl16 w' r (bE<|bH xb)/\Below f.1.size f w':=λf h=>Ah (hb.below h) (by omega);have Z:∀f,Below w.1.size w f->cN 77 #[c] f λe w'=>∃r,e=.returned r/\Sl16 w' r (bE<|bH xc)/\Below f.1.size f w':=λf h=>Ah (hc.below h) (by omega);have kD:∀f,Below w.1.size w f->cN 77 #[d] f λe w'=>∃r,e=.returned r/\Sl16 w' r (bE<|bH xd)/\Below f.1.size f w':=λf h=>Ah (hd.below h) (by omega);have sa:=GH la;have sb:=GH lb;have sc:=GH lc;have sd:=GH ld;clear la lb lc ld ha hb hc hd;generalize bE (bH xa)=j at*;generalize bE (bH xb)=l at*;generalize bE (bH xc)=A at*;generalize bE (bH xd)=C at*;generalize F:jn n1 j A n2 l C=R;go_enter func51,ntmps51;go_wp2_with fail;have G:=dF w (Obj.cells #[Value.bool n1,a,c] 30)<|Obj.cells #[Value.bool n2,b,d] 30;have q0:((w.alloc<|Obj.cells #[Value.bool n1,a,c] 30).alloc<|Obj.cells #[Value.bool n2,b,d] 30).cell? ⟨w.1.size,0,none⟩=some (.bool n1):=by simp
 have q1:((w.alloc<|Obj.cells #[Value.bool n1,a,c] 30).alloc<|Obj.cells #[Value.bool n2,b,d] 30).cell? ⟨w.1.size,1,none⟩=some a:=by simp
 have q2:((w.alloc<|Obj.cells #[Value.bool n1,a,c] 30).alloc<|Obj.cells #[Value.bool n2,b,d] 30).cell? ⟨w.1.size,2,none⟩=some c:=by simp
 have r0:((w.alloc<|Obj.cells #[Value.bool n1,a,c] 30).alloc<|Obj.cells #[Value.bool n2,b,d] 30).cell? ⟨w.1.size+1,0,none⟩=some (.bool n2):=by simp
 have E:((w.alloc<|Obj.cells #[Value.bool n1,a,c] 30).alloc<|Obj.cells #[Value.bool n2,b,d] 30).cell? ⟨w.1.size+1,1,none⟩=some b:=by simp
 have r2:((w.alloc<|Obj.cells #[Value.bool n1,a,c] 30).alloc<|Obj.cells #[Value.bool n2,b,d] 30).cell? ⟨w.1.size+1,2,none⟩=some d:=by simp
 have sz:((w.alloc<|Obj.cells #[Value.bool n1,a,c] 30).alloc<|Obj.cells #[Value.bool n2,b,d] 30).1.size=w.1.size+2:=by simp
 generalize ((w.alloc<|Obj.cells #[Value.bool n1,a,c] 30).alloc<|Obj.cells #[Value.bool n2,b,d] 30)=W0 at G q0 q1 q2 r0 E r2 sz ⊢
 go_region_held3 (λz=>z.cell? ⟨w.1.size,1,none⟩=some a/\z.cell? ⟨w.1.size+1,1,none⟩=some b) (first | exact⟨q1,E⟩ | exact⟨M,N⟩ | exact⟨ac,ad⟩)
  (first
    | (go_at_call_of 77 a;refine(kA _ ?_).mono ?_;exact G.drew;rintro e wA ⟨rA,rfl,aj,q⟩
       have a4:(W0.drew).1.size=w.1.size+2:=sz;have M:wA.cell? ⟨w.1.size,1,none⟩=some a:=fg q (by omega) q1;have N:wA.cell? ⟨w.1.size+1,1,none⟩=some b:=fg q (by omega) E
       have S:Below w.1.size w wA:=G.drew.trans<|q.mono<|by omega)
    | (go_at_call_of 77 b;refine(kB _ ?_).mono ?_;exact S;rintro e g ⟨rB,rfl,U,i⟩
       have ci:=q.size;have ac:g.cell? ⟨w.1.size,1,none⟩=some a:=fg i (by omega) M;have ad:g.cell? ⟨w.1.size+1,1,none⟩=some b:=fg i (by omega) N
       have u:Below w.1.size w g:=S.trans<|i.mono<|by omega))
 have cM:=i.size;have al:g.cell? ⟨w.1.size,0,none⟩=some (.bool n1):=fg i (by omega)<|(q.cell<|by show w.1.size<_;omega).trans q0;have aa:g.cell? ⟨w.1.size,2,none⟩=some c:=fg i (by omega)<|(q.cell<|by show w.1.size<_;omega).trans q2;have am:g.cell? ⟨w.1.size+1,0,none⟩=some (.bool n2):=fg i (by omega)<|(q.cell<|by show w.1.size+1<_;omega).trans r0;have ab:g.cell? ⟨w.1.size+1,2,none⟩=some d:=fg i (by omega)<|(q.cell<|by show w.1.size+1<_;omega).trans r2;have O:=aj.below i;have an:w.1.size+2<=g.1.size:=by omega
 clear kA kB q0 q1 q2 r0 E r2 M N ac ad aj q i S a4 ci cM sz G;have eA:=O;have eB:=U;obtain⟨_,_,qa,pa,rfl,_⟩:=eA;obtain⟨_,_,qb,pb,rfl,_⟩:=eB;by_cases x:j.length=0\/l.length=0
 .have D:R=decide (j.length=l.length):=by rw[<-F];simp only[jn,kU x]
  clear F Z kD;generalize j.length=J at*;generalize l.length=nb at*
  rcases x with rfl | rfl
  .go_wp2_with fail;go_ret;refine⟨?_,u⟩;have:((0:Int)==(nb:Int))=decide (0=nb):=(by rw[rO];simp;omega);simp[this,D]
  by_cases h0:J=0
  .subst h0;go_wp2_with fail;go_ret;exact⟨by simp,u⟩
  have a7:((J:Int)==0)=false:=(by simp[h0]);go_wp2_with fail;go_ret;exact⟨by simp[h0,D],u⟩
 have D:R=((n1==n2)&&decide (bA j*bA (cR C)=bA l*bA (cR A))):=by rw[<-F];simp only[jn,kZ x]
 clear F;have X:¬j.length=0:=λh=>x<|.inl h;have Y:¬l.length=0:=λh=>x<|.inr h;have za:((j.length:Int)==0)=false:=by simp;intro h;apply X;simp[h]
 have zb:((l.length:Int)==0)=false:=by simp;intro h;apply Y;simp[h]
 have J:j≠[]:=λe=>X (by rw[e];rfl);have nb:l≠[]:=λe=>Y (by rw[e];rfl);clear x X Y;go_wp2_with fail
 go_region_held3 (λz=>z.cell? ⟨w.1.size,2,none⟩=some c/\z.cell? ⟨w.1.size+1,2,none⟩=some d) (first | exact⟨aa,ab⟩ | exact⟨c1,c2⟩ | exact⟨c3,c4⟩ | exact⟨K,L⟩ | exact⟨c7,c8⟩)
  (first
    | (go_at_call_of 77 c;refine(Z _ ?_).mono ?_;exact u.drew;rintro e f ⟨rC,rfl,V,s⟩
       have eC:=V;obtain⟨_,_,qc,pc,rfl,_⟩:=eC;have H:w.1.size+2<=(g.drew).1.size:=an;have c1:f.cell? ⟨w.1.size,2,none⟩=some c:=fg s (by omega) aa;have c2:f.cell? ⟨w.1.size+1,2,none⟩=some d:=fg s (by omega) ab
       have ae:Below w.1.size w f:=u.drew.trans<|s.mono<|by omega)
    | (go_at_call_of 78 (Value.slice qc A.length pc);refine(xo V).mono ?_;rintro e w2 ⟨rE,rfl,ak,t⟩
       have I:=s.size;have c3:w2.cell? ⟨w.1.size,2,none⟩=some c:=fg t (by omega) c1;have c4:w2.cell? ⟨w.1.size+1,2,none⟩=some d:=fg t (by omega) c2
       have Q:Below w.1.size w w2:=ae.trans<|t.mono<|by omega)
    | (go_at_call_of 77 d;refine(kD _ ?_).mono ?_;exact Q;rintro e w3 ⟨rD,rfl,W,m⟩
       have eD:=W;obtain⟨_,_,qd,pd,rfl,_⟩:=eD;have ay:=t.size;have K:w3.cell? ⟨w.1.size,2,none⟩=some c:=fg m (by omega) c3;have L:w3.cell? ⟨w.1.size+1,2,none⟩=some d:=fg m (by omega) c4
       have af:Below w.1.size w w3:=Q.trans<|m.mono<|by omega)
    | (go_at_call_of 78 (Value.slice qd C.length pd);refine(xo W).mono ?_;rintro e y ⟨rF,rfl,a3,n⟩
       have az:=m.size;have c7:y.cell? ⟨w.1.size,2,none⟩=some c:=fg n (by omega) K;have c8:y.cell? ⟨w.1.size+1,2,none⟩=some d:=fg n (by omega) L
       have ag:Below w.1.size w y:=af.trans<|n.mono<|by omega))
 have a0:=n.size;have a8:y.cell? ⟨w.1.size,0,none⟩=some (.bool n1):=fg n (by omega)<|(m.cell<|by show w.1.size<_;omega).trans<|(t.cell<|by show w.1.size<_;omega).trans<|(s.cell<|by show w.1.size<_;omega).trans al;have a9:y.cell? ⟨w.1.size+1,0,none⟩=some (.bool n2):=fg n (by omega)<|(m.cell<|by show w.1.size+1<_;omega).trans<|(t.cell<|by show w.1.size+1<_;omega).trans<|(s.cell<|by show w.1.size+1<_;omega).trans am;have P:Below g.1.size g y:=((((kE _ _).drew).trans s).trans<|t.mono<|by have:g.1.size=g.drew.1.size:=rfl;omega).trans ((m.mono<|by have:g.1.size=g.drew.1.size:=rfl;omega).trans<|n.mono<|by have:g.1.size=g.drew.1.size:=rfl;omega);have kh:=O.below P;have kl:=U.below P;have ko:=ak.below<|(cV m n);clear Z kD s t m n c1 c2 c3 c4 K L c7 c8 ae Q af O U V W ak P al aa am ab H I ay az a0 an u;have de:=L6 sc;have df:=L6 sd;have aw:=Ji kh a3 J (L4 C)<|by omega
 cases ai:n1==n2 with
 | false=>go_wp2_with fail;go_ret;exact⟨by rw[D,ai];rfl,ag⟩
 | true=>
  go_wp2_with (first
   | (go_at_call_of 80 rF;refine aw.mono ?_;rintro e w5 ⟨E,z1,rfl,H,ar,a5,T⟩
      have ao:=cV ag T
      have ax:=Ji (kl.below T) (ko.below T) nb (L4 A)<|by omega)
   | (go_at_call_of 80 rE;refine ax.mono ?_;rintro e w6 ⟨a',z2,rfl,I,au,a6,ah⟩
      have he:=Ql (H.below ah) I)
   | (go_at_call 79;refine he.mono ?_;rintro e w7 ⟨k,rfl,hk,aq⟩))
  go_ret;have ap:=cV ao ah;refine⟨?_,cV ap aq⟩;have cY:z1=z2↔bA j*bA (cR C)=bA l*bA (cR A):=(by rw[<-a5,<-a6];exact⟨λh=>by rw[h],λh=>Jh H.1 I.1 ar au h⟩);rw[D,ai];have av:(k==0)=decide (bA j*bA (cR C)=bA l*bA (cR A)):=(by rw[rO];simp[hk,cY]);simp[av]
theorem Jj (xs:List Int):bA (bE<|bH xs)=val xs:=by rw[o4,xm]
theorem Jk (h:cB xs):(bE<|bH xs).length=0↔val xs=0:=by rw[rn,GF<|Ag h,xm]
theorem xp (h:cB xs):bA (cR<|bE<|bH xs)=if val xs=0 then 1 else val xs:=by
 have h1:=Jk h;rw[rn] at h1;unfold cR;by_cases h0:val xs=0
 .rw[kU<|h1.2 h0,kU h0];simp[bA]
 rw[kZ λe=>h0<|h1.1 e,kZ h0,Jj]
theorem Qo (g:cB xa) (j:cB xc) (i:cB xb) (k:cB xd):
  jn n1 (bE<|bH xa) (bE<|bH xc) n2 (bE<|bH xb) (bE<|bH xd)=eo n1 xa xc n2 xb xd:=by
 have a:=Jk g;have d:=Jk i;unfold jn eo;rw[xp j,xp k,Jj,Jj];by_cases e:val xa=0\/val xb=0
 .have f:(bE<|bH xa).length=0\/(bE<|bH xb).length=0:=by rw[a,d];exact e
  rw[kU e,kU f,nX];constructor
  .intro h
   rcases f with h0 | h0
   .exact⟨a.1 h0,d.1<|by omega⟩
   exact⟨a.1<|by omega,d.1 h0⟩
  intro h;rw[a.2 h.1,d.2 h.2]
 have f:¬((bE<|bH xa).length=0\/(bE<|bH xb).length=0):=by rw[a,d];exact e
 rw[kZ e,kZ f]
theorem Jl {a c b d:Value} (e:Sl w a xa) (g:Sl w c xc) (f:Sl w b xb) (i:Sl w d xd)
  (j:xa.length<=1048576) (lb:xb.length<=1048576) (k:xc.length<=1048576) (ld:xd.length<=1048576):
  bF w 51 #[.agg #[.bool n1,a,c],.agg #[.bool n2,b,d]] (.bool<|eo n1 xa xc n2 xb xd):=by
 have h:=Qm (n1:=n1) (n2:=n2) e g f i j lb k ld
 rwa [Qo e.1 g.1 f.1 i.1] at h
theorem Qp {k1 f1 k2 f2:Int} {s1 s2:Value} {E:Bool}
  (g:∀a,Below w.1.size w a->bF a 39 #[.agg #[.bool n1,a1,c1],.agg #[.bool n2,a2,c2]] (.bool R))
  (i:∀a,Below w.1.size w a->bF a 69 #[s1,s2,.func (.func 40) #[] #[]] (.bool E)):
  bF w 40 #[.agg #[.int .i64 k1,.int .i64 f1,.bool n1,a1,c1,.string m1,s1],.agg #[.int .i64 k2,.int .i64 f2,.bool n2,a2,c2,.string m2,s2]] (.bool<|decide (k1=k2)&&decide (f1=f2)&&decide (m1.toList=m2.toList)&&R&&E):=by
 have h2:∀o f,Below w.1.size w ((w.alloc o).alloc f):=λo f=>dF w o f
 cases R with
 | false=>
  go_enter func40,ntmps40;go_wp2_with (go_at_call 39;refine(g _ ?_).mono ?_;exact h2 _ _;rintro e a ⟨rfl,d⟩)
  .go_ret;exact⟨by simp,(h2 _ _).trans<|d.mono (h2 _ _).size⟩
  .go_ret;exact⟨by simp,h2 _ _⟩
  .go_ret;exact⟨by simp,h2 _ _⟩
  go_ret;exact⟨by simp,h2 _ _⟩
 | true=>
  go_enter func40,ntmps40
  go_wp2_with (first
   | (go_at_call 39;refine(g _ ?_).mono ?_;exact h2 _ _;rintro e a ⟨rfl,d⟩
      have k:a.cell? ⟨w.1.size,6,none⟩=some s1:=fg d (by simp;omega) (by simp);have l:a.cell? ⟨w.1.size+1,6,none⟩=some s2:=fg d (by simp)<|by simp
      have h:=(h2 _ _).trans<|d.mono (h2 _ _).size)
   | (go_at_call 69;refine(i _ ?_).mono ?_;exact h;rintro e m ⟨rfl,j⟩))
  .go_ret;refine⟨?_,cV h j⟩;simp_all
  .go_ret;refine⟨?_,h2 _ _⟩;simp_all
  .go_ret;refine⟨?_,h2 _ _⟩;simp_all
  go_ret;refine⟨?_,h2 _ _⟩;simp_all
structure Nd where
 k:Int
 f:Int
 neg:Bool
 aq:Option Addr
 an:Nat
 ac:Nat
 cq:Option Addr
 cn:Nat
 cc:Nat
 m:ByteArray
 sq:Option Addr
 sn:Nat
 sc:Nat
def Nd.val (d:Nd):Value:=.agg<|mA d.k d.f d.neg d.aq d.an d.ac d.cq d.cn d.cc d.m d.sq d.sn d.sc
structure NdAt (w:World) (b o:Nat) (d:Nd):Prop where
 h0:w.cell? ⟨b,o,none⟩=some (.int .i64 d.k)
 h1:w.cell? ⟨b,o+1,none⟩=some (.int .i64 d.f)
 h2:w.cell? ⟨b,o+2,none⟩=some (.bool d.neg)
 h3:w.cell? ⟨b,o+3,none⟩=some (.slice d.aq d.an d.ac)
 h4:w.cell? ⟨b,o+4,none⟩=some (.slice d.cq d.cn d.cc)
 h5:w.cell? ⟨b,o+5,none⟩=some (.string d.m)
 h6:w.cell? ⟨b,o+6,none⟩=some (.slice d.sq d.sn d.sc)
theorem NdAt.below {d:Nd} (h:NdAt w b o d) (e:Below B w w') (a:b<B):NdAt w' b o d:=
 ⟨fg e a h.h0,fg e a h.h1,fg e a h.h2,fg e a h.h3,fg e a h.h4,fg e a h.h5,fg e a h.h6⟩
theorem Qq (b o cap m g A n:Nat) (xs ys:Nat->Nd) (P:Nat->Bool) (w:World) (L:n<=1099511627776)
  (F:∀i,i<n->NdAt w b (o+i*7) (xs i)) (G:∀i,i<n->NdAt w m (g+i*7) (ys i)) (D:b<w.1.size) (E:m<w.1.size)
  (C:∀i,i<n->∀y,Below w.1.size w y->bF y 40 #[(xs i).val,(ys i).val] (.bool<|P i)):
  bF w 69 #[.slice (some ⟨b,o,none⟩) n cap,.slice (some ⟨m,g,none⟩) n A,.func (.func 40) #[] #[]] (.bool<|(List.range n).all P):=by
 go_enter func69,ntmps69;go_wp2
 go_loopw [17] (λi wr=>∃k:Nat,k<=n/\i=.int .i64 k/\(∀j,j<k->P j=true)/\Below w.1.size w wr) (λi _=>n - (intOf i).toNat)
 case atStart=>exact⟨0,kL _,rfl,λj r=>by omega,kE _ _⟩
 case round=>
  obtain⟨k,K,rfl,u,f⟩:=hrel;have s:Hid (∀j,j<k->P j=true):=u;clear u;by_cases q:k<n
  .have am:(k:Int)<(n:Int):=(by omega);obtain⟨M,N,O,Q,S,T,U⟩:=(F k q).below f D;have d:∀a,NdAt (wr.alloc a) m (g+k*7) (ys k):=λa=>(G k q).below (f.alloc f.size a) E;have V:=λa=>(d a).h0;have W:=λa=>(d a).h1;have X:=λa=>(d a).h2;have Y:=λa=>(d a).h3;have Z:=λa=>(d a).h4;have y5:=λa=>(d a).h5;have y6:=λa=>(d a).h6;clear d;have t:=C k q;simp only[Nd.val] at t;have J:=f.size;have l:∀o g,Below w.1.size w ((wr.alloc o).alloc g):=λo g=>(f.alloc J _).alloc (by simp;omega) _;go_wp2_with (go_at_call 40;refine(t _ ?_).mono ?_;exact l _ _;rintro e w5 ⟨rfl,x⟩)
   .go_ret;have I:P k=false:=(by cases h:P k<;>simp_all);have z:(List.range n).all P=false:=(by rw[lV];exact⟨k,kP.2 q,by simp[I]⟩);rw[z];exact⟨rfl,(l _ _).trans<|x.mono (l _ _).size⟩
   go_roundw
   case rel=>
    refine⟨k+1,by omega,by go_num,λj r=>?_,(l _ _).trans<|x.mono (l _ _).size⟩
    rcases kS j k with h | h
    .exact s.out j h
    have:j=k:=(by omega);subst this;cases h:P j<;>simp_all
   case measure=>simp[intOf];omega
  have H:k=n:=(by omega);subst H;go_wp2;go_ret;refine⟨?_,f⟩;have:(List.range k).all P=true:=(by rw[lj];intro j r;exact s.out j<|kP.1 r);rw[this];rfl
abbrev nA (d:Nd):Array Value:=#[.int .i64 d.k,.int .i64 d.f,.bool d.neg,.slice d.aq d.an d.ac,.slice d.cq d.cn d.cc,.string d.m,.slice d.sq d.sn d.sc]
abbrev nB (d:Nd) (s:Bool):Array Value:=#[.int .i64 d.k,.int .i64 d.f,.bool d.neg,.slice d.aq d.an d.ac,.slice d.cq d.cn d.cc,.string d.m,.slice d.sq d.sn d.sc,.bool s]
theorem Qr (q q':Option Addr) (m n cap cap':Nat) (a:Value) (w:World) (_hm:m<=1099511627776) (_hn:n<=1099511627776) (h:¬m=n):cN 69 #[.slice q m cap,.slice q' n cap',a] w λe w'=>e=.returned (.bool false)/\w'=w:=by
 have d:¬(m:Int)=(n:Int):=by omega
 go_enter func69,ntmps69;go_wp2;go_ret;exact⟨rfl,rfl⟩
theorem L7 (q q':Option Addr) (cap cap':Nat) (a:Value) (w:World):cN 69 #[.slice q 0 cap,.slice q' 0 cap',a] w λe w'=>e=.returned (.bool true)/\w'=w:=by go_enter func69,ntmps69;go_wp2;refine my ?_;go_wp2;go_ret;exact⟨rfl,rfl⟩
inductive Ex where
 | non
 | mk (k f:Int) (ng:Bool) (nu de:List Int) (m:ByteArray) (n:Nat) (ar:Nat->Ex)
def Ex.eq:Ex->Ex->Bool
 | .mk k f ng nu de m n ar,.mk k' f' ng' nu' de' m' n' ar'=>decide (k=k')&&decide (f=f')&&decide (m.toList=m'.toList)&&eo ng nu de ng' nu' de'&&(decide (n=n')&&(List.range n).all λi=>(ar i).eq<|ar' i)
 | .non,.non=>true
 | _,_=>false
def ExOk (w:World):Ex->Nd->Prop
 | .non,_=>False
 | .mk k f ng nu de m n ar,d=>(d.k=k/\d.f=f/\d.neg=ng/\d.m=m/\d.sn=n)/\Sl w (.slice d.aq d.an d.ac) nu/\Sl w (.slice d.cq d.cn d.cc) de/\nu.length<=1048576/\de.length<=1048576/\n<=1099511627776/\
  (n=0\/∃b o,d.sq=some ⟨b,o,none⟩/\b<w.1.size/\∃ds:Nat->Nd,∀i,i<n->NdAt w b (o+i*7) (ds i)/\ExOk w (ar i) (ds i))
theorem ExOk.below (a:Below w.1.size w w'):∀{x:Ex} {d:Nd},ExOk w x d->ExOk w' x d:=by
 intro x
 induction x with
 | non=>exact λh=>h.elim
 | mk k f ng nu de m n ar ih=>intro d h;unfold ExOk at h ⊢;obtain⟨h1,h2,h3,h4,h5,h6,h7⟩:=h;refine⟨h1,h2.below a,h3.below a,h4,h5,h6,h7.imp id ?_⟩;rintro⟨b,o,e,j,l,g⟩;exact⟨b,o,e,kw j a.size,l,λi hi=>⟨(g i hi).1.below a j,ih i (g i hi).2⟩⟩
theorem L8:∀(x y:Ex) (d e:Nd) (w:World),ExOk w x d->ExOk w y e->
  bF w 40 #[d.val,e.val] (.bool<|x.eq y):=by
 intro x
 induction x with
 | non=>exact λy d e w a=>a.elim
 | mk k f ng nu de m n ar ih=>
  intro y d e w a l
  cases y with
  | non=>exact l.elim
  | mk k' f' ng' nu' de' m' n' ar'=>
  unfold ExOk at a l;obtain⟨⟨rfl,rfl,rfl,rfl,rfl⟩,F,G,M,N,A,H⟩:=a;obtain⟨⟨rfl,rfl,rfl,rfl,rfl⟩,I,J,O,P,K,L⟩:=l;unfold Ex.eq;refine Qp (λg h1=>Jg (F.below h1) (I.below h1) (G.below h1) (J.below h1) (by omega) (by omega) (by omega)<|by omega) λg h1=>?_;by_cases j:d.sn=e.sn
  .by_cases h0:d.sn=0
   .have h0':e.sn=0:=(by omega);rw[h0,h0'];refine(L7 _ _ _ _ _ g).mono ?_;rintro r w' ⟨rfl,rfl⟩;exact⟨by simp,kE _ _⟩
   rcases H with h | ⟨b,o,hq,z,s,t⟩
   .exact absurd h h0
   rcases L with h | ⟨C,o',D,q,es,u⟩
   .omega
   rw[hq,D,<-j];simp only[sj,pg]
   exact Qq b o _ C o' _ d.sn s es (λi=>(ar i).eq<|ar' i) g A (λi hi=>(t i hi).1.below h1 z) (λi hi=>(u i<|by omega).1.below h1 q) (kw z h1.size) (kw q h1.size)
    (λi hi E h2=>ih i (ar' i) (s i) (es i) E (((t i hi).2.below h1).below h2)<|((u i<|by omega).2.below h1).below h2)
  refine(Qr _ _ _ _ _ _ _ g A K j).mono ?_;rintro r w' ⟨rfl,rfl⟩;exact⟨by simp[j],kE _ _⟩
theorem Qs (k1 f1 k2 f2:Int) (g1 g2:Bool) (aq1 cq1 aq2 cq2:Option Addr) (an1 ac1 cn1 cc1 an2 ac2 cn2 cc2:Nat) (m1 m2:ByteArray) (n p1 p2 b o f d:Nat) (a es:Nat->Nd) (P:Nat->Bool) (w:World) (hn:n<=1099511627776)
  (ag:∀i,i<n->NdAt w b (o+i*7) (a i)) (ah:∀i,i<n->NdAt w f (d+i*7) (es i)) (ac:b<w.1.size) (ad:f<w.1.size)
  (U:∀l,Below w.1.size w l->bF l 51 #[.agg<|qA g1 aq1 an1 ac1 cq1 cn1 cc1,.agg<|qA g2 aq2 an2 ac2 cq2 cn2 cc2] (.bool true))
  (hP:∀i,i<n->∀l,Below w.1.size w l->bF l 52 #[(a i).val,(es i).val] (.bool<|P i))
  (X:k1=k2) (hf:f1=f2) (hm:m1.toList=m2.toList):
  bF w 52 #[.agg<|mA k1 f1 g1 aq1 an1 ac1 cq1 cn1 cc1 m1 (some ⟨b,o,none⟩) n p1,.agg<|mA k2 f2 g2 aq2 an2 ac2 cq2 cn2 cc2 m2 (some ⟨f,d,none⟩) n p2] (.bool<|(List.range n).all P):=by
 subst X hf;have h2:∀o d,Below w.1.size w ((w.alloc o).alloc d):=λo d=>dF w o d;go_enter func52,ntmps52
 go_wp2_with (go_at_call 51;refine(U _ ?_).mono ?_;exact h2 _ _;rintro e l ⟨rfl,t⟩
              have Z:l.cell? ⟨w.1.size,6,none⟩=some (.slice (some ⟨b,o,none⟩) n p1):=fg t (by simp;omega) (by simp);have r6:l.cell? ⟨w.1.size+1,6,none⟩=some (.slice (some ⟨f,d,none⟩) n p2):=fg t (by simp) (by simp);have aj:w.1.size+2<=l.1.size:=by have:=t.size;simpa using this
              have aa:=(h2 _ _).trans<|t.mono (h2 _ _).size)
 go_loopw [45] (λi wr=>∃k:Nat,k<=n/\i=.int .i64 k/\(∀j,j<k->P j=true)/\Below l.1.size l wr) (λi _=>n - (intOf i).toNat)
 case atStart=>exact⟨0,kL _,rfl,λj x=>by omega,kE _ _⟩
 case round=>
  obtain⟨k,X,rfl,W,s⟩:=hrel;have S:Hid (∀j,j<k->P j=true):=W;clear W;have r:Below w.1.size w wr:=cV aa s;by_cases u:k<n
  .have am:(k:Int)<(n:Int):=(by omega);obtain⟨C,D,E,F,G,H,I⟩:=(ag k u).below r ac;obtain⟨J,K,L,M,N,O,Q⟩:=(ah k u).below r ad;have y:=fg s (by omega) Z;have A:=fg s (by omega) r6;have T:=hP k u;simp only[Nd.val] at T;have al:=s.size;clear Z r6 U;go_wp2_with fail
   go_region_held3 (λz=>z.cell? ⟨w.1.size,6,none⟩=some (.slice (some ⟨b,o,none⟩) n p1)/\z.cell? ⟨w.1.size+1,6,none⟩=some (.slice (some ⟨f,d,none⟩) n p2)/\z.cell? ⟨b,o+k*7,none⟩=some (.int .i64 (a k).k)/\z.cell? ⟨b,o+k*7+1,none⟩=some (.int .i64 (a k).f)/\z.cell? ⟨b,o+k*7+2,none⟩=some (.bool (a k).neg)/\z.cell? ⟨b,o+k*7+3,none⟩=some (.slice (a k).aq (a k).an (a k).ac)/\z.cell? ⟨b,o+k*7+4,none⟩=some (.slice (a k).cq (a k).cn (a k).cc)/\z.cell? ⟨b,o+k*7+5,none⟩=some (.string (a k).m)/\z.cell? ⟨b,o+k*7+6,none⟩=some (.slice (a k).sq (a k).sn (a k).sc)/\z.cell? ⟨f,d+k*7,none⟩=some (.int .i64 (es k).k)/\z.cell? ⟨f,d+k*7+1,none⟩=some (.int .i64 (es k).f)/\z.cell? ⟨f,d+k*7+2,none⟩=some (.bool (es k).neg)/\z.cell? ⟨f,d+k*7+3,none⟩=some (.slice (es k).aq (es k).an (es k).ac)/\z.cell? ⟨f,d+k*7+4,none⟩=some (.slice (es k).cq (es k).cn (es k).cc)/\z.cell? ⟨f,d+k*7+5,none⟩=some (.string (es k).m)/\z.cell? ⟨f,d+k*7+6,none⟩=some (.slice (es k).sq (es k).sn (es k).sc)) (first | exact⟨y,A,C,D,E,F,G,H,I,J,K,L,M,N,O,Q⟩ | exact V)
    (first
      | (go_at_call 52;refine(T _ ?_).mono ?_;exact r.drew;rintro e w5 ⟨rfl,g⟩
         have ak:wr.1.size<=wr.drew.1.size:=kF _;have q:b<wr.drew.1.size:=(by omega);have m:f<wr.drew.1.size:=(by omega);have ae:w.1.size<wr.drew.1.size:=(by omega);have af:w.1.size+1<wr.drew.1.size:=by omega
         have V:w5.cell? ⟨w.1.size,6,none⟩=some (.slice (some ⟨b,o,none⟩) n p1)/\w5.cell? ⟨w.1.size+1,6,none⟩=some (.slice (some ⟨f,d,none⟩) n p2)/\w5.cell? ⟨b,o+k*7,none⟩=some (.int .i64 (a k).k)/\w5.cell? ⟨b,o+k*7+1,none⟩=some (.int .i64 (a k).f)/\w5.cell? ⟨b,o+k*7+2,none⟩=some (.bool (a k).neg)/\w5.cell? ⟨b,o+k*7+3,none⟩=some (.slice (a k).aq (a k).an (a k).ac)/\w5.cell? ⟨b,o+k*7+4,none⟩=some (.slice (a k).cq (a k).cn (a k).cc)/\w5.cell? ⟨b,o+k*7+5,none⟩=some (.string (a k).m)/\w5.cell? ⟨b,o+k*7+6,none⟩=some (.slice (a k).sq (a k).sn (a k).sc)/\w5.cell? ⟨f,d+k*7,none⟩=some (.int .i64 (es k).k)/\w5.cell? ⟨f,d+k*7+1,none⟩=some (.int .i64 (es k).f)/\w5.cell? ⟨f,d+k*7+2,none⟩=some (.bool (es k).neg)/\w5.cell? ⟨f,d+k*7+3,none⟩=some (.slice (es k).aq (es k).an (es k).ac)/\w5.cell? ⟨f,d+k*7+4,none⟩=some (.slice (es k).cq (es k).cn (es k).cc)/\w5.cell? ⟨f,d+k*7+5,none⟩=some (.string (es k).m)/\w5.cell? ⟨f,d+k*7+6,none⟩=some (.slice (es k).sq (es k).sn (es k).sc):=⟨fg g ae y,fg g af A,fg g q C,fg g q D,fg g q E,fg g q F,fg g q G,fg g q H,fg g q I,fg g m J,fg g m K,fg g m L,fg g m M,fg g m N,fg g m O,fg g m Q⟩))
   have ab:Below w.1.size w w5:=cV r.drew g;have dM:Below l.1.size l w5:=cV s.drew g;clear V C D E F G H I J K L M N O Q y A g
   cases Y:P k with
   | false=>go_wp2_with fail;go_ret;have aJ:(List.range n).all P=false:=(by rw[lV];exact⟨k,kP.2 u,by simp[Y]⟩);rw[aJ];exact⟨rfl,ab⟩
   | true=>
    go_wp2_with fail;go_roundw
    case rel=>
     refine⟨k+1,by omega,by go_num,λj x=>?_,dM⟩
     rcases kS j k with h | h
     .exact S.out j h
     have:j=k:=(by omega);subst this;exact Y
    case measure=>simp[intOf];omega
  have ai:k=n:=(by omega);subst ai;go_wp2_with fail;go_ret;refine⟨?_,r⟩;have:(List.range k).all P=true:=(by rw[lj];intro j x;exact S.out j<|kP.1 x);rw[this];rfl
theorem Qt (k1 f1 k2 f2:Int) (g1 g2:Bool) (aq1 cq1 aq2 cq2 q1 q2:Option Addr) (an1 ac1 cn1 cc1 an2 ac2 cn2 cc2:Nat) (m1 m2:ByteArray) (p1 p2:Nat) (w:World)
  (g:∀a,Below w.1.size w a->bF a 51 #[.agg<|qA g1 aq1 an1 ac1 cq1 cn1 cc1,.agg<|qA g2 aq2 an2 ac2 cq2 cn2 cc2] (.bool true))
  (j:k1=k2) (i:f1=f2) (k:m1.toList=m2.toList):
  bF w 52 #[.agg #[.int .i64 k1,.int .i64 f1,.bool g1,.slice aq1 an1 ac1,.slice cq1 cn1 cc1,.string m1,.slice q1 0 p1],.agg #[.int .i64 k2,.int .i64 f2,.bool g2,.slice aq2 an2 ac2,.slice cq2 cn2 cc2,.string m2,.slice q2 0 p2]] (.bool true):=by
 subst j i;have h2:∀o d,Below w.1.size w ((w.alloc o).alloc d):=λo d=>dF w o d;go_enter func52,ntmps52
 go_wp2_with (go_at_call 51;refine(g _ ?_).mono ?_;exact h2 _ _;rintro e a ⟨rfl,f⟩
              have l:a.cell? ⟨w.1.size,6,none⟩=some (.slice q1 0 p1):=fg f (by simp;omega)<|by simp
              have h:=(h2 _ _).trans<|f.mono (h2 _ _).size)
 refine my ?_;go_wp2_with fail;go_ret;exact⟨rfl,h⟩
theorem Qu (k1 f1 k2 f2:Int) (g1 g2 R:Bool) (aq1 cq1 aq2 cq2 q1 q2:Option Addr) (an1 ac1 cn1 cc1 an2 ac2 cn2 cc2:Nat) (m1 m2:ByteArray) (n1 n2 p1 p2:Nat) (w:World) (_b1:n1<=1099511627776) (m:n2<=1099511627776)
  (g:∀d,Below w.1.size w d->bF d 51 #[.agg<|qA g1 aq1 an1 ac1 cq1 cn1 cc1,.agg<|qA g2 aq2 an2 ac2 cq2 cn2 cc2] (.bool R))
  (h:¬(k1=k2/\f1=f2/\m1.toList=m2.toList/\n1=n2/\R=true)):
  bF w 52 #[.agg<|mA k1 f1 g1 aq1 an1 ac1 cq1 cn1 cc1 m1 q1 n1 p1,.agg<|mA k2 f2 g2 aq2 an2 ac2 cq2 cn2 cc2 m2 q2 n2 p2] (.bool false):=by
 have h2:∀o a,Below w.1.size w ((w.alloc o).alloc a):=λo a=>dF w o a;by_cases j:k1=k2
 .subst j;by_cases i:f1=f2
  .subst i;by_cases k:m1.toList=m2.toList
   .by_cases hn:n1=n2
    .subst hn
     have l:R=false:=by
      cases R
      .rfl
      exact absurd ⟨rfl,rfl,k,rfl,rfl⟩ h
     subst l;clear h;go_enter func52,ntmps52;go_wp2_with (go_at_call 51;refine(g _ ?_).mono ?_;exact h2 _ _;rintro e d ⟨rfl,f⟩);go_ret;exact⟨rfl,(h2 _ _).trans<|f.mono (h2 _ _).size⟩
    clear h;have n:¬(n1:Int)=(n2:Int):=(by omega);go_enter func52,ntmps52;go_wp2_with fail;go_ret;exact⟨rfl,h2 _ _⟩
   clear h;go_enter func52,ntmps52;go_wp2_with fail;go_ret;exact⟨rfl,h2 _ _⟩
  clear h;go_enter func52,ntmps52;go_wp2_with fail;go_ret;exact⟨rfl,h2 _ _⟩
 clear h;go_enter func52,ntmps52;go_wp2_with fail;go_ret;exact⟨rfl,h2 _ _⟩
theorem Jm:∀(x y:Ex) (d e:Nd) (w:World),ExOk w x d->ExOk w y e->
  bF w 52 #[d.val,e.val] (.bool<|x.eq y):=by
 intro x
 induction x with
 | non=>exact λy d e w g=>g.elim
 | mk k f ng nu de m n ar ih=>
  intro y d e w g l
  cases y with
  | non=>exact l.elim
  | mk k' f' ng' nu' de' m' n' ar'=>
  unfold ExOk at g l;obtain⟨⟨rfl,rfl,rfl,rfl,rfl⟩,F,G,H,I,u,J⟩:=g;obtain⟨⟨rfl,rfl,rfl,rfl,rfl⟩,K,L,M,N,O,P⟩:=l;unfold Ex.eq
  have a:∀q,Below w.1.size w q->bF q 51 #[.agg<|qA d.neg d.aq d.an d.ac d.cq d.cn d.cc,.agg<|qA e.neg e.aq e.an e.ac e.cq e.cn e.cc] (.bool<|eo d.neg nu de e.neg nu' de'):=
   λq h1=>Jl (F.below h1) (G.below h1) (K.below h1) (L.below h1) H M I N
  by_cases ht:d.k=e.k/\d.f=e.f/\d.m.toList=e.m.toList/\d.sn=e.sn/\eo d.neg nu de e.neg nu' de'=true
  .obtain⟨t1,t2,t3,t4,t5⟩:=ht;rw[t5] at a;have j:(decide (d.k=e.k)&&decide (d.f=e.f)&&decide (d.m.toList=e.m.toList)&&eo d.neg nu de e.neg nu' de'&&(decide (d.sn=e.sn)&&(List.range d.sn).all λi=>(ar i).eq<|ar' i))=(List.range d.sn).all λi=>(ar i).eq (ar' i):=(by simp[t1,t2,t3,t4,t5]);rw[j];by_cases h0:d.sn=0
   .have h0':e.sn=0:=(by omega);unfold Nd.val;rw[h0,h0'];exact Qt _ _ _ _ _ _ _ _ _ _ _ _ _ _ _ _ _ _ _ _ _ _ _ _ w a t1 t2 t3
   rcases J with h | ⟨b,o,hq,C,r,s⟩
   .exact absurd h h0
   rcases P with h | ⟨A,o',D,z,es,t⟩
   .omega
   unfold Nd.val;rw[hq,D,<-t4]
   exact Qs _ _ _ _ _ _ _ _ _ _ _ _ _ _ _ _ _ _ _ _ d.sn _ _ b o A o' r es (λi=>(ar i).eq<|ar' i) w u (λi hi=>(s i hi).1) (λi hi=>(t i<|by omega).1) C z a
    (λi hi E h2=>ih i (ar' i) (r i) (es i) E ((s i hi).2.below h2)<|(t i<|by omega).2.below h2) t1 t2 t3
  have j:(decide (d.k=e.k)&&decide (d.f=e.f)&&decide (d.m.toList=e.m.toList)&&eo d.neg nu de e.neg nu' de'&&(decide (d.sn=e.sn)&&(List.range d.sn).all λi=>(ar i).eq<|ar' i))=false:=(by rw[rq];intro hh;simp only[lL,mB] at hh;exact ht ⟨hh.1.1.1.1,hh.1.1.1.2,hh.1.1.2,hh.2.1,hh.1.2⟩);rw[j];unfold Nd.val;exact Qu _ _ _ _ _ _ _ _ _ _ _ _ _ _ _ _ _ _ _ _ _ _ _ _ _ _ _ w u O a ht
structure Va where
 m:ByteArray
 g:Bool
 aq:Option Addr
 an:Nat
 ac:Nat
 cq:Option Addr
 cn:Nat
 cc:Nat
def Va.val (d:Va):Value:=.agg #[.string d.m,.bool d.g,.slice d.aq d.an d.ac,.slice d.cq d.cn d.cc]
structure VaAt (w:World) (b o:Nat) (d:Va):Prop where
 h0:w.cell? ⟨b,o,none⟩=some (.string d.m)
 h1:w.cell? ⟨b,o+1,none⟩=some (.bool d.g)
 h2:w.cell? ⟨b,o+2,none⟩=some (.slice d.aq d.an d.ac)
 h3:w.cell? ⟨b,o+3,none⟩=some (.slice d.cq d.cn d.cc)
theorem VaAt.below {d:Va} (h:VaAt w b o d) (e:Below B w w') (a:b<B):VaAt w' b o d:=
 ⟨fg e a h.h0,fg e a h.h1,fg e a h.h2,fg e a h.h3⟩
theorem Qv (b o cap m f E n:Nat) (xs ys:Nat->Va) (P:Nat->Bool) (w:World) (L:n<=1099511627776)
  (z:∀i,i<n->VaAt w b (o+i*4) (xs i)) (A:∀i,i<n->VaAt w m (f+i*4) (ys i)) (F:b<w.1.size) (G:m<w.1.size)
  (t:∀i,i<n->∀C,Below w.1.size w C->bF C 41 #[(xs i).val,(ys i).val] (.bool<|P i)):
  bF w 43 #[.slice (some ⟨b,o,none⟩) n cap,.slice (some ⟨m,f,none⟩) n E,.func (.func 41) #[] #[]] (.bool<|(List.range n).all P):=by
 go_enter func43,ntmps43;go_wp2
 go_loopw [17] (λi wr=>∃k:Nat,k<=n/\i=.int .i64 k/\(∀j,j<k->P j=true)/\Below w.1.size w wr) (λi _=>n - (intOf i).toNat)
 case atStart=>exact⟨0,kL _,rfl,λj r=>by omega,kE _ _⟩
 case round=>
  obtain⟨k,K,rfl,x,d⟩:=hrel;have s:Hid (∀j,j<k->P j=true):=x;clear x;by_cases q:k<n
  .have am:(k:Int)<(n:Int):=(by omega);obtain⟨M,N,O,Q⟩:=(z k q).below d F;have l:∀a,VaAt (wr.alloc a) m (f+k*4) (ys k):=λa=>(A k q).below (d.alloc d.size a) G;have S:=λa=>(l a).h0;have T:=λa=>(l a).h1;have U:=λa=>(l a).h2;have V:=λa=>(l a).h3;clear l;have u:=t k q;simp only[Va.val] at u;have J:=d.size;have g:∀o f,Below w.1.size w ((wr.alloc o).alloc f):=λo f=>(d.alloc J _).alloc (by simp;omega) _;clear z A t;go_wp2_with (go_at_call 41;refine(u _ ?_).mono ?_;exact g _ _;rintro e w5 ⟨rfl,y⟩)
   .go_ret;have I:P k=false:=(by cases h:P k<;>simp_all);have D:(List.range n).all P=false:=(by rw[lV];exact⟨k,kP.2 q,by simp[I]⟩);rw[D];exact⟨rfl,(g _ _).trans<|y.mono (g _ _).size⟩
   go_roundw
   case rel=>
    refine⟨k+1,by omega,by go_num,λj r=>?_,(g _ _).trans<|y.mono (g _ _).size⟩
    rcases kS j k with h | h
    .exact s.out j h
    have:j=k:=(by omega);subst this;cases h:P j<;>simp_all
   case measure=>simp[intOf];omega
  have H:k=n:=(by omega);subst H;go_wp2;go_ret;refine⟨?_,d⟩;have:(List.range k).all P=true:=(by rw[lj];intro j r;exact s.out j<|kP.1 r);rw[this];rfl
theorem xq (q q':Option Addr) (m n cap cap':Nat) (a:Value) (w:World) (_hm:m<=1099511627776) (_hn:n<=1099511627776) (h:¬m=n):cN 43 #[.slice q m cap,.slice q' n cap',a] w λe w'=>e=.returned (.bool false)/\w'=w:=by
 have d:¬(m:Int)=(n:Int):=by omega
 go_enter func43,ntmps43;go_wp2;go_ret;exact⟨rfl,rfl⟩
theorem Qw (q q':Option Addr) (cap cap':Nat) (a:Value) (w:World):cN 43 #[.slice q 0 cap,.slice q' 0 cap',a] w λe w'=>e=.returned (.bool true)/\w'=w:=by go_enter func43,ntmps43;go_wp2;refine my ?_;go_wp2;go_ret;exact⟨rfl,rfl⟩
structure Bi where
 m:ByteArray
 ek:Int
 ef:Int
 eg:Bool
 eaq:Option Addr
 ean:Nat
 eac:Nat
 ecq:Option Addr
 ecn:Nat
 ecc:Nat
 em:ByteArray
 esq:Option Addr
 esn:Nat
 esc:Nat
def Bi.val (d:Bi):Value:=.agg #[.string d.m,.int .i64 d.ek,.int .i64 d.ef,.bool d.eg,.slice d.eaq d.ean d.eac,.slice d.ecq d.ecn d.ecc,.string d.em,.slice d.esq d.esn d.esc]
structure BiAt (w:World) (b o:Nat) (d:Bi):Prop where
 h0:w.cell? ⟨b,o,none⟩=some (.string d.m)
 h1:w.cell? ⟨b,o+1,none⟩=some (.int .i64 d.ek)
 h2:w.cell? ⟨b,o+2,none⟩=some (.int .i64 d.ef)
 h3:w.cell? ⟨b,o+3,none⟩=some (.bool d.eg)
 h4:w.cell? ⟨b,o+4,none⟩=some (.slice d.eaq d.ean d.eac)
 h5:w.cell? ⟨b,o+5,none⟩=some (.slice d.ecq d.ecn d.ecc)
 h6:w.cell? ⟨b,o+6,none⟩=some (.string d.em)
 h7:w.cell? ⟨b,o+7,none⟩=some (.slice d.esq d.esn d.esc)
theorem BiAt.below {d:Bi} (h:BiAt w b o d) (e:Below B w w') (a:b<B):BiAt w' b o d:=
 ⟨fg e a h.h0,fg e a h.h1,fg e a h.h2,fg e a h.h3,fg e a h.h4,fg e a h.h5,fg e a h.h6,fg e a h.h7⟩
theorem Qx (b o cap m g E n:Nat) (xs ys:Nat->Bi) (P:Nat->Bool) (w:World) (L:n<=1099511627776)
  (z:∀i,i<n->BiAt w b (o+i*8) (xs i)) (A:∀i,i<n->BiAt w m (g+i*8) (ys i)) (F:b<w.1.size) (G:m<w.1.size)
  (t:∀i,i<n->∀C,Below w.1.size w C->bF C 42 #[(xs i).val,(ys i).val] (.bool<|P i)):
  bF w 44 #[.slice (some ⟨b,o,none⟩) n cap,.slice (some ⟨m,g,none⟩) n E,.func (.func 42) #[] #[]] (.bool<|(List.range n).all P):=by
 go_enter func44,ntmps44;go_wp2
 go_loopw [17] (λi wr=>∃k:Nat,k<=n/\i=.int .i64 k/\(∀j,j<k->P j=true)/\Below w.1.size w wr) (λi _=>n - (intOf i).toNat)
 case atStart=>exact⟨0,kL _,rfl,λj r=>by omega,kE _ _⟩
 case round=>
  obtain⟨k,K,rfl,x,f⟩:=hrel;have s:Hid (∀j,j<k->P j=true):=x;clear x;by_cases q:k<n
  .have am:(k:Int)<(n:Int):=(by omega);obtain⟨M,N,O,Q,S,T,U,V⟩:=(z k q).below f F;have d:∀a,BiAt (wr.alloc a) m (g+k*8) (ys k):=λa=>(A k q).below (f.alloc f.size a) G;have W:=λa=>(d a).h0;have X:=λa=>(d a).h1;have Y:=λa=>(d a).h2;have Z:=λa=>(d a).h3;have y4:=λa=>(d a).h4;have y5:=λa=>(d a).h5;have y6:=λa=>(d a).h6;have y7:=λa=>(d a).h7;clear d;have u:=t k q;simp only[Bi.val] at u;have J:=f.size;have l:∀o g,Below w.1.size w ((wr.alloc o).alloc g):=λo g=>(f.alloc J _).alloc (by simp;omega) _;clear z A t;go_wp2_with (go_at_call 42;refine(u _ ?_).mono ?_;exact l _ _;rintro e w5 ⟨rfl,y⟩)
   .go_ret;have I:P k=false:=(by cases h:P k<;>simp_all);have D:(List.range n).all P=false:=(by rw[lV];exact⟨k,kP.2 q,by simp[I]⟩);rw[D];exact⟨rfl,(l _ _).trans<|y.mono (l _ _).size⟩
   go_roundw
   case rel=>
    refine⟨k+1,by omega,by go_num,λj r=>?_,(l _ _).trans<|y.mono (l _ _).size⟩
    rcases kS j k with h | h
    .exact s.out j h
    have:j=k:=(by omega);subst this;cases h:P j<;>simp_all
   case measure=>simp[intOf];omega
  have H:k=n:=(by omega);subst H;go_wp2;go_ret;refine⟨?_,f⟩;have:(List.range k).all P=true:=(by rw[lj];intro j r;exact s.out j<|kP.1 r);rw[this];rfl
theorem xr (q q':Option Addr) (m n cap cap':Nat) (a:Value) (w:World) (_hm:m<=1099511627776) (_hn:n<=1099511627776) (h:¬m=n):cN 44 #[.slice q m cap,.slice q' n cap',a] w λe w'=>e=.returned (.bool false)/\w'=w:=by
 have d:¬(m:Int)=(n:Int):=by omega
 go_enter func44,ntmps44;go_wp2;go_ret;exact⟨rfl,rfl⟩
theorem Qy (q q':Option Addr) (cap cap':Nat) (a:Value) (w:World):cN 44 #[.slice q 0 cap,.slice q' 0 cap',a] w λe w'=>e=.returned (.bool true)/\w'=w:=by go_enter func44,ntmps44;go_wp2;refine my ?_;go_wp2;go_ret;exact⟨rfl,rfl⟩
theorem Qz {g1 g2:Bool}
  (g:∀d,Below w.1.size w d->bF d 39 #[.agg #[.bool g1,a1,c1],.agg #[.bool g2,a2,c2]] (.bool R)):
  bF w 41 #[.agg #[.string m1,.bool g1,a1,c1],.agg #[.string m2,.bool g2,a2,c2]] (.bool<|decide (m1.toList=m2.toList)&&R):=by
 have h2:∀o a,Below w.1.size w ((w.alloc o).alloc a):=λo a=>dF w o a;by_cases f:m1.toList=m2.toList
 .go_enter func41,ntmps41;go_wp2_with (go_at_call 39;refine(g _ ?_).mono ?_;exact h2 _ _;rintro e d ⟨rfl,h⟩);go_ret;exact⟨by simp[f],(h2 _ _).trans<|h.mono (h2 _ _).size⟩
 go_enter func41,ntmps41;go_wp2_with fail;go_ret;exact⟨by simp[f],h2 _ _⟩
theorem QA {k1 f1 k2 f2:Int} {g1 g2:Bool} {s1 s2:Value} {n1 n2:ByteArray}
  (g:∀d,Below w.1.size w d->bF d 40 #[.agg #[.int .i64 k1,.int .i64 f1,.bool g1,a1,c1,.string n1,s1],.agg #[.int .i64 k2,.int .i64 f2,.bool g2,a2,c2,.string n2,s2]] (.bool R)):
  bF w 42 #[.agg #[.string m1,.int .i64 k1,.int .i64 f1,.bool g1,a1,c1,.string n1,s1],.agg #[.string m2,.int .i64 k2,.int .i64 f2,.bool g2,a2,c2,.string n2,s2]] (.bool<|decide (m1.toList=m2.toList)&&R):=by
 have h2:∀o a,Below w.1.size w ((w.alloc o).alloc a):=λo a=>dF w o a;by_cases f:m1.toList=m2.toList
 .go_enter func42,ntmps42;go_wp2_with (go_at_call 40;refine(g _ ?_).mono ?_;exact h2 _ _;rintro e d ⟨rfl,h⟩);go_ret;exact⟨by simp[f],(h2 _ _).trans<|h.mono (h2 _ _).size⟩
 go_enter func42,ntmps42;go_wp2_with fail;go_ret;exact⟨by simp[f],h2 _ _⟩
