import Derived.Laws.AppendOwnNone
import Derived.Test.YthcfmhgihcjloaaGreatDoorPk08
namespace Go.Proofs.YthcfmhgihcjloaaGreatDoor
open Go Go.RowKit Tryz
set_option maxRecDepth 100000
set_option maxHeartbeats 16000000
variable {w w' a:World} {u v:Value} {us xs ys vs cur A C zs:List Int} {g i m cap base s:Nat} {q:Option Addr}
theorem Ap (hu:Sl16 w u us):∃r,cN 109 #[u] w (λe w'=>e=.returned r/\w'=w)/\Sl16 w r (bE us):=by
 obtain⟨d,l,q,cap,rfl,k,n⟩:=hu;have h:(bE us).length=bK us us.length:=ed us;have t:=fp us us.length
 rcases n with rfl | ⟨b,o,rfl,j,f⟩
 .exact⟨_,GG q cap w,uK d,by rw[h];simp[bK],q,cap,rfl,kL _,.inl rfl⟩
 refine⟨_,C2 b o us.length cap us w f k<|by omega,uK d,by omega,some ⟨b,o,none⟩,cap,by rw[h],by omega,.inr ⟨b,o,rfl,j,λi hi=>?_⟩⟩;rw[zD _ _ hi];exact f i<|by omega
theorem Rc (q q':Option Addr) (m cap cap':Nat) (w:World):cN 80 #[.slice q m cap,.slice q' 0 cap'] w λe w'=>e=.returned (.slice none 0 0)/\w'=w:=by
 by_cases h:m=0
 .subst h;go_enter func80,ntmps80;go_wp2;go_ret;exact⟨rfl,rfl⟩
 have b:¬(m:Int)=0:=by omega
 have d:((m:Int)==0)=false:=by simp;omega
 clear h;go_enter func80,ntmps80;go_wp2;go_ret;exact⟨rfl,rfl⟩
theorem MB (b:Sl16 w v xs) (d:Sl16 w u ys) (nx:xs≠[]) (j:xs.length+ys.length<=549755813888):
  cN 80 #[v,u] w λe w'=>∃r zs,e=.returned r/\Sl16 w' r zs/\bD zs/\bA zs=bA xs*bA ys/\Below w.1.size w w':=by
 by_cases f:ys=[]
 .subst f;obtain⟨l,n,q,cap,rfl,o,t⟩:=b;obtain⟨k,x,q',cap',rfl,y,z⟩:=d;refine(Rc q q' xs.length cap cap' w).mono ?_;rintro e w' ⟨rfl,rfl⟩;exact⟨_,[],rfl,⟨k,by simp,none,0,rfl,kF _,.inl rfl⟩,λm h=>by simp at h,by simp[bA],kE _ _⟩
 exact Ji b d nx f j
theorem MC {g:Int} (hu:Sl16 w u us) (hv:Sl16 w v vs) (D:vs≠[]) (l:0<=g) (n:g<=18446744073709551615) (F:vs.length+4<=549755813888):
  bF w 163 #[u,v,.int .u64 g] (.bool<|decide (bA us<bA vs*g)):=by
 have x:=Fy w g l n;go_enter func163,ntmps163
 go_wp2_with (first
  | (go_at_call 60;refine x.mono ?_;rintro e M ⟨J,zs,rfl,z,G,B,H,b⟩
     have h:=MB (hv.below b) z D<|by omega)
  | (go_at_call 80;refine h.mono ?_;rintro e N ⟨K,I,rfl,o,r,t,d⟩
     obtain⟨L,ht,y⟩:=Ap<|(hu.below b).below d)
  | (go_at_call 109;refine ht.mono ?_;rintro e O ⟨rfl,rfl⟩
     have f:=Fz y o (jH us) r)
  | (go_at_call 79;refine f.mono ?_;rintro e P ⟨cc,rfl,k,E,j⟩))
 go_ret;rw[o4,t,B] at k;refine⟨?_,?_⟩
 .simp[o4]
 exact b.trans<|(cV d j).mono b.size
theorem uV (h:bI xs) (k:Nat):bI (xs.take k):=λj=>by
 have:=h j;simp only[List.getD,mD] at this ⊢;split
 .exact this
 simp
theorem Dc (h:bI xs) (k:Nat):bI (xs.drop k):=λj=>by have:=h<|k+j;simpa [List.getD,qt] using this
theorem uM (k:Nat):(0:Int)<65536^k:=pH<|by decide
theorem Eh:∀(l:List Int) (i:Nat) (d:Int),(l.set i d).take i=l.take i
 | [],_,_=>by simp
 | x::l,0,d=>by simp
 | x::l,i+1,d=>by simpa using Eh l i d
theorem Dd {l:List Int} {d:Int} (h:i<l.length):(l.set i d).getD i 0=d:=by simp[List.getD,h]
theorem FA {l:List Int} {j:Nat} {d:Int} (h:i≠j):(l.set i d).getD j 0=l.getD j 0:=by simp[List.getD,h]
theorem xM (h:us.length=m+2):bA us=bA (us.take m)+(us.getD (m+1) 0*65536+us.getD m 0)*65536^m:=by have h1:=oV us m;have h2:=oV us<|m+1;rw[lI (by omega:us.length<=m+1+1),h1,lH] at h2;rw[h2,kW,kH,kI (65536^m) 65536];omega
theorem De (h:vs.length=m+1):bA vs=bA (vs.take m)+vs.getD m 0*65536^m:=by
 have h1:=oV vs m
 rwa [lI (by omega:vs.length<=m+1)] at h1
theorem Rd (du:bI us) (dv:bI vs) (hu:us.length=m+2) (hv:vs.length=m+1) (ht:0<vs.getD m 0):
  bA us / bA vs<=(us.getD (m+1) 0*65536+us.getD m 0) / vs.getD m 0:=by
 have e1:=xM hu;have e2:=De hv;have l1:=ux<|uV du m;have l2:=gD<|uV dv m;rw[lD,lR<|by omega] at l1;have e:=uM m;generalize us.getD (m+1) 0*65536+us.getD m 0=top at*;generalize vs.getD m 0=b at*;generalize (65536:Int)^m=p at*;have l:0<b*p:=pP ht e;have k:top<(top / b+1)*b:=by have:=l9 top b;have:=mg top ht;rw[kW,nS,kI<|top / b];omega
 generalize top / b=g at*;have h3:(top+1)*p<=(g+1)*b*p:=kO (by omega) (by omega);rw[kW top 1 p,nS] at h3;have d:0<=g+1\/g+1<0:=by omega
 have h4:bA us<(g+1)*bA vs:=by
  rw[e2,lT]
  have h5:0<=(g+1)*bA (vs.take m):=by
   rcases d with d | d
   .exact nj d l2
   exfalso;have h7:(g+1)*b<0:=pZ d ht;have h:(g+1)*b*p<0:=pZ h7 e;have j:=gD du;have f:=gD<|uV du m;have d1:=du<|m+1;have d2:=du m;omega
  rw[kH] at h3;omega
 have:=lU (by omega:0<bA vs) h4;omega
structure Dg (us vs:List Int) (g:Int) (i:Nat) (cur:List Int) (owed:Int):Prop where
 len:cur.length=us.length
 dig:bI cur
 ow:-65536<=owed/\owed<=0
 eq:bA (cur.take i)+owed*65536^i=bA (us.take i) - g*bA (vs.take i)
 rest:∀k,i<=k->cur.getD k 0=us.getD k 0
theorem Dg.zero {g:Int} (h:bI us):Dg us vs g 0 us 0:=⟨rfl,h,by omega,by simp[bA],λ_ _=>rfl⟩
theorem Dg.step {g b S:Int} (h:Dg us vs g i cur b) (du:bI us) (dv:bI vs) (f:0<=g/\g<=65535) (hi:i<us.length) (d:S=us.getD i 0+b - g*vs.getD i 0):
  Dg us vs g (i+1) (cur.set i<|S % 65536) (S / 65536):=by
 have j:=Fh f<|dv i;have hu:=du i;have n:=h.ow;refine⟨by simp[h.len],Fg h.dig<|by omega,by omega,?_,λk l=>?_⟩
 .have he:=h.eq;rw[oV,oV us,oV vs,Eh,Dd<|by rw[h.len];exact hi,lH]
  have e:S*65536^i=S % 65536*65536^i+S / 65536*(65536^i*65536):=by
   have h1:S=S % 65536+65536*(S / 65536):=(by omega);generalize (65536:Int)^i=p
   calc S*p=(S % 65536+65536*(S / 65536))*p:=by rw[<-h1]
    _=_:=by rw[kW,kI 65536,kH,kI 65536 p]
  have e2:S*65536^i=us.getD i 0*65536^i+b*65536^i - g*(vs.getD i 0*65536^i):=by rw[d,pO,kW,kH]
  rw[lT];omega
 rw[FA<|by omega];exact h.rest k<|by omega
theorem Dg.done {g b:Int} (h:Dg us vs g us.length cur b) (dv:bI vs) (j:vs.length<=us.length) (h0:g*bA vs<=bA us) (_h1:bA us<g*bA vs+bA vs):
  bA cur=bA us - g*bA vs:=by
 have e:=h.eq;rw[lI<|by rw[h.len];exact kF _,lQ,lI j] at e;have l1:=ux h.dig;have l2:=ux dv;have r:=gD h.dig
 have l:(65536:Int)^vs.length<=65536^us.length:=by
  obtain⟨d,f⟩:∃d,us.length=vs.length+d:=⟨us.length - vs.length,by omega⟩;rw[f,mw];have:=lr (by have:=uM d;omega:(1:Int)<=65536^d) (by have:=uM vs.length;omega:(0:Int)<=65536^vs.length)
  rwa [qC] at this
 rw[h.len] at l1;have o:=uM us.length;have n:=h.ow;generalize (65536:Int)^us.length=p at*
 have k:b=0:=by
  rcases (by omega:b=0\/b<=-1) with h | h
  .exact h
  have:b*p<=-1*p:=kO h (by omega);omega
 rw[k,qg] at e;omega
theorem GP (S:Int):Go.bits .and .i64 S 65535=S % 65536:=by
 show IntKind.i64.wrap _=_
 have h:((BitVec.ofInt IntKind.i64.bits S &&& BitVec.ofInt IntKind.i64.bits 65535).toNat:Int)=S % 65536:=by
  show((BitVec.ofInt 64 S &&& BitVec.ofInt 64 65535).toNat:Int)=_;rw[BitVec.toNat_and];have:(BitVec.ofInt 64 65535).toNat=2^16 - 1:=by decide
  rw[this,Nat.and_two_pow_sub_one_eq_mod,sx];omega
 simp only[] at h ⊢;rw[h];have:(0:Int)<=S % 65536/\S % 65536<65536:=by omega
 generalize S % 65536=z at*;simp only[sJ];omega
def BlkP (w:World) (g:Nat) (xs:List Int):Prop:=∃cur,w.1[g]?=some (.cells cur 120 (0,0))/\∀j,j<xs.length->cur[j]?=some (.int .u32<|xs.getD j 0)
theorem BlkP.lt (h:BlkP w g xs):g<w.1.size:=by obtain⟨cur,h1,h2⟩:=h;exact(kG.1 h1).1
theorem BlkP.cell (h:BlkP w g xs) {j:Nat} (b:j<xs.length):w.cell? ⟨g,j,none⟩=some (.int .u32<|xs.getD j 0):=by obtain⟨cur,h1,h2⟩:=h;simp only[World.cell?,h1];simpa using h2 j b
theorem BlkP.frozen (h:BlkP w g xs) (j:Nat):w.frozen? ⟨g,j,none⟩=false:=by obtain⟨cur,h1,h2⟩:=h;simp[World.frozen?,h1]
theorem BlkP.set (h:BlkP w g xs) (j:Nat) (d:Int):BlkP (w.setCell ⟨g,j,none⟩<|.int .u32 d) g (xs.set j d):=by
 have f:=h.lt;obtain⟨cur,h1,h2⟩:=h;refine⟨cur.setIfInBounds j<|.int .u32 d,?_,λi hi=>?_⟩
 .show(w.1.modify g _)[g]?=_;rw[qG,kU rfl,h1];simp
 have h3:=h2 i (by simpa using hi);rw[List.length_set] at hi;rw[Array.getElem?_setIfInBounds];by_cases e:j=i
 .subst e;have b:j<cur.size:=(kG.1 h3).1;simp[b,List.getD,hi]
 simp[e,h3,List.getD]
theorem BlkP.below (h:BlkP w g xs) (b:Below w.1.size w w'):BlkP w' g xs:=by have d:=h.lt;obtain⟨cur,h1,h2⟩:=h;exact⟨cur,(b.block g d).trans h1,h2⟩
theorem BlkP.part (h:BlkP w g (xs++ys)):BlkP w g xs:=by
 obtain⟨cur,h1,h2⟩:=h;refine⟨cur,h1,λj b=>?_⟩;have:=h2 j<|by simp;omega
 rwa [show (xs++ys).getD j 0=xs.getD j 0 by simp[List.getD,lW b]] at this
theorem BU (hi:i<cur.length):(A++cur++C).getD (A.length+i) 0=cur.getD i 0:=by rw[mJ];simp only[List.getD];rw[mz<|by omega,qp,lW hi]
theorem Ej (A cur C:List Int) (i:Nat) (d:Int) (hi:i<cur.length):(A++cur++C).set (A.length+i) d=A++cur.set i d++C:=by rw[mJ,List.set_append,kZ<|by omega,qp,List.set_append,kU hi,mJ]
structure Sav (g:Nat) (w w':World):Prop where
 os:w'.os=w.os
 tape:w'.tape=w.tape
 output:w'.output=w.output
 size:w.1.size<=w'.1.size
 block:∀k,k<w.1.size->k≠g->w'.1[k]?=w.1[k]?
theorem Sav.of (h:Below w.1.size w w'):Sav g w w':=⟨h.os,h.tape,h.output,h.size,λk b _=>h.block k b⟩
theorem Sav.then {b:World} (h:Sav g w a) (d:Below a.1.size a b):Sav g w b:=
 ⟨d.os.trans h.os,d.tape.trans h.tape,d.output.trans h.output,kJ h.size d.size,λk e f=>(d.block k<|kw e h.size).trans<|h.block k e f⟩
theorem Sav.trans {b:World} (h:Sav g w a) (d:Sav g a b):Sav g w b:=
 ⟨d.os.trans h.os,d.tape.trans h.tape,d.output.trans h.output,kJ h.size d.size,λk f e=>(d.block k (kw f h.size) e).trans<|h.block k f e⟩
theorem Sav.setCell (h:Sav g w a) (j:Nat) (u:Value):Sav g w (a.setCell ⟨g,j,none⟩ u):=
 ⟨h.os,h.tape,h.output,by simpa [World.setCell] using h.size,λk d b=>(mr _ _ _ _<|by simpa using b).trans<|h.block k d b⟩
theorem Sav.cell (h:Sav g w w') {b o:Nat} (d:b<w.1.size) (e:b≠g):w'.cell? ⟨b,o,none⟩=w.cell? ⟨b,o,none⟩:=ml (w:=w)<|h.block b d e
theorem Sav.below {B:Nat} (h:Sav g w w') (b:B<=g) (e:B<=w.1.size):Below B w w':=⟨h.os,h.tape,h.output,h.size,λk d=>h.block k (by omega)<|by omega⟩
def Sl16N (g:Nat) (w:World) (v:Value) (xs:List Int):Prop:=
 bI xs/\xs.length<=549755813888/\∃q cap,v=.slice q xs.length cap/\xs.length<=cap/\(xs=[]\/∃b o,q=some ⟨b,o,none⟩/\b<w.1.size/\b≠g/\∀i,i<xs.length->w.cell? ⟨b,o+i,none⟩=some (.int .u32<|xs.getD i 0))
theorem Sl16N.sl (h:Sl16N g w v xs):Sl16 w v xs:=by obtain⟨h1,h2,q,cap,h3,h4,h5⟩:=h;refine⟨h1,h2,q,cap,h3,h4,h5.imp id ?_⟩;rintro⟨b,o,e,f,_,d⟩;exact⟨b,o,e,f,d⟩
theorem Sl16.ne (h:Sl16 w v xs) {w':World} {g:Nat} (d:Below w.1.size w w') (k:w.1.size<=g):Sl16N g w' v xs:=by obtain⟨h1,h2,q,cap,h3,h4,h5⟩:=h;refine⟨h1,h2,q,cap,h3,h4,h5.imp id ?_⟩;rintro⟨b,o,e,f,j⟩;exact⟨b,o,e,kw f d.size,by omega,λi hi=>fg d f<|j i hi⟩
theorem Sl16N.sav (h:Sl16N g w v xs) (j:Sav g w w'):Sl16N g w' v xs:=by obtain⟨h1,h2,q,cap,h3,h4,h5⟩:=h;refine⟨h1,h2,q,cap,h3,h4,h5.imp id ?_⟩;rintro⟨b,o,e,d,f,k⟩;exact⟨b,o,e,kw d j.size,f,λi hi=>(j.cell d f).trans<|k i hi⟩
theorem BlkP.sl (h:BlkP w g (A++us++C)) (du:bI us) (d:us.length<=549755813888) (b:us.length<=cap):Sl16 w (.slice (some ⟨g,A.length,none⟩) us.length cap) us:=by
 refine⟨du,d,some ⟨g,A.length,none⟩,cap,rfl,b,.inr ⟨g,A.length,rfl,h.lt,λi hi=>?_⟩⟩;have:=h.cell (j:=A.length+i)<|by simp;omega
 rwa [BU hi] at this
theorem xN {j n:Nat} (hA:A.length=j) (hu:us.length=n+2) (hv:vs.length=n+1) (R:BlkP w g (A++us++C)) (du:bI us) (af:Sl16N g w v vs)
  (ht:0<vs.getD n 0) (hq:bA us<bA vs*65536) (aF:n+2<=cap) (hn:n+2<=274877906944) (_hj:j<=549755813888):
  cN 126 #[.slice (some ⟨g,j,none⟩) (n+2) cap,v] w λe w'=>∃ag,e=.returned (.int .u32<|bA us / bA vs)/\ag.length=n+2/\bI ag/\bA ag=bA us % bA vs/\BlkP w' g (A++ag++C)/\Sav g w w':=by
 have a0:=Rd du af.1 hu hv ht;have av:=R.sl (cap:=cap) du (by omega) (by omega);rw[hA,hu] at av;have gA:=af.sl;have dv:=af.1;have vpos:0<bA vs:=by have:=De hv;have:=gD<|uV dv n;have:=pP ht<|uM n;omega
 have aA:=gD du;have q0:0<=bA us / bA vs:=mt aA (by omega);have q1:bA us / bA vs<65536:=lU vpos (by rwa [kI] at hq);have ao:=l9 (bA us)<|bA vs;have aE:=mg (bA us) vpos;have aC:=nt (bA us) (by omega:bA vs≠0);have aB:=R.lt;have aG:Hid (Sl16N g w v vs):=af;obtain⟨_,_,q2,a1,rfl,a7,hx⟩:=af;have au:vs≠[]:=by intro h;simp[h] at hv
 rcases hx with hx | ⟨b,o,rfl,hb,az,an⟩
 .exact absurd hx au
 have ay:=R.cell (j:=A.length+(n+1)) (by simp;omega);rw[BU<|by omega,hA] at ay;have ax:=R.cell (j:=A.length+n) (by simp;omega);rw[BU<|by omega,hA] at ax;have cv:=an n (by omega);have d1:=du<|n+1;have d0:=du n;have dn:=dv n;rw[hv] at gA a7;have k:Hid (us.length=n+2/\vs.length=n+1/\A.length=j):=⟨hu,hv,hA⟩;have dY:Hid (BlkP w g<|A++us++C):=R;have T:Hid (bI us):=du;have V:Hid (bI vs):=dv;have bV:=bC an;have iu:Hid (Sl16 w (.slice (some ⟨g,j,none⟩) (n+2) cap) us):=av;have fN:Hid (Sl16 w (.slice (some ⟨b,o,none⟩) (n+1) a1) vs):=gA;obtain⟨Q,hQ⟩:∃Q,Hid (bA us / bA vs=Q):=⟨_,rfl⟩;rw[hQ.out] at a0 q0 q1 ao ⊢;have E:Hid (bA us % bA vs+bA vs*Q=bA us):=ao;have cD:Hid (vs≠[]):=au;generalize us.getD (n+1) 0=U1 at*;generalize us.getD n 0=U0 at*;generalize vs.getD n 0=aw at*;clear R du dv an av gA ao au hq;rw[hv];clear hu hv hA;go_enter func126,ntmps126;go_wp2
 go_quiet (fail)
 have hB:Below w.1.size w (w.drewN nq):=ee (kE _ _) _;have a2:(w.drewN nq).cell? ⟨b,o+n,none⟩=some (.int .u32 aw):=cv;clear ay ax cv;generalize w.drewN nq=wz at hB a2 ⊢;by_cases iw:65536<=(U1*65536+U0) / aw
 .go_wp2
  go_loopw [7] (λO wr=>∃G:Int,O=.int .u64 G/\Q<=G/\G<=65535/\Below w.1.size w wr) (λO _=>(intOf O).toNat)
  case atStart=>exact⟨65535,rfl,by omega,by omega,hB⟩
  case round=>
   obtain⟨G,rfl,a4,a5,r⟩:=hrel;have y:=MC (g:=G) (iu.out.below r) (fN.out.below r) cD.out (by omega) (by omega) (by rw[k.out.2.1];omega);by_cases x:bA us<bA vs*G
   .rw[lh x] at y
    have a6:1<=G:=by
     rcases (by omega:1<=G\/G<=0) with h | h
     .exact h
     exfalso;have:bA vs*G<=0:=pt (by omega) h;omega
    have ah:Q<=G - 1:=(by have h1:bA vs*Q<=bA us:=(by have:=E.out;omega);have h2:bA vs*Q<bA vs*G:=(by omega);have:=sE h2 (by omega);omega);clear x;go_wp2_with (go_at_call 163;refine jR y λP z=>?_);go_roundw
    case rel=>exact⟨G - 1,by go_num,ah,by omega,cV r z⟩
    case measure=>simp[intOf];omega
   rw[kQ x] at y
   have ai:G=Q:=by
    rcases (by omega:G=Q\/Q+1<=G) with h | h
    .exact h
    exfalso;have h1:=lr h (by omega:0<=bA vs);rw[lT,qC] at h1;have:=E.out;omega
   subst ai;clear x;go_wp2_with (go_at_call 163;refine jR y λP z=>?_);have ae:Sav g w P:=Sav.of<|cV r z;have ac:BlkP P g (A++us++C):=(dY.out).below<|cV r z;clear y z r
   go_loopw [8,44] (λt8 N wr=>∃(i:Nat) (cur:List Int) (f:Int),i<=n+2/\N=.int .i64 i/\t8=.int .i64 f/\-65536<=f/\f<=0/\Hid (Dg us vs G i cur f)/\BlkP wr g (A++cur++C)/\Sav g w wr) (λ_ N _=>n+2 - (intOf N).toNat)
   case atStart=>exact⟨0,us,0,kL _,rfl,rfl,by omega,by omega,Dg.zero T.out,ac,ae⟩
   case round=>
    clear ae ac;obtain⟨i,cur,f,hi,rfl,rfl,a9,a',t,D,H⟩:=hrel;by_cases x:i<n+2
    .have hcl:cur.length=n+2:=(by rw[t.out.len];exact k.out.1);have X:=D.cell (j:=A.length+i) (by simp;omega);rw[BU<|by omega,k.out.2.2,t.out.rest i<|kF _] at X;have a8:=D.frozen<|j+i;have aa:=T.out i;have ab:=V.out i;have K:=λd=>(Ej A cur C i d<|by omega);rw[k.out.2.2] at K;have W:Hid (∀d,(A++cur++C).set (j+i) d=A++cur.set i d++C):=K;clear K hcl;obtain⟨U,hU⟩:∃U,Hid (us.getD i 0=U):=⟨_,rfl⟩;obtain⟨Y,F⟩:∃Y,Hid (vs.getD i 0=Y):=⟨_,rfl⟩;rw[hU.out] at X aa;rw[F.out] at ab;obtain⟨u0,u1⟩:=aa;obtain⟨y0,y1⟩:=ab;have aq:=Fh ⟨q0,by omega⟩ ⟨y0,y1⟩;have L:=λS hS=>t.out.step (S:=S) T.out V.out ⟨q0,by omega⟩ (by rw[k.out.1];exact x) hS;rw[hU.out,F.out] at L;have I:Hid (∀S,S=U+f - G*Y->Dg us vs G (i+1) (cur.set i<|S % 65536) (S / 65536)):=L;clear L;by_cases ar:i<n+1
     .have cy:=bV.out i (by rw[k.out.2.1];exact ar);rw[F.out] at cy;have a3:wr.cell? ⟨b,o+i,none⟩=some (.int .u32 Y):=(H.cell hb az).trans cy;clear cy;obtain⟨l,al⟩:∃l,G*Y=l:=⟨_,rfl⟩;rw[al] at aq I;go_wp2;go_roundw
      case rel=>have M:=I.out (U+f - l) (by rfl);have B:=D.set (j+i)<|(U+f - l) % 65536;rw[W.out] at B;rw[GP,show((U+f - l) % 65536) % 4294967296=(U+f - l) % 65536 by omega];exact⟨i+1,_,_,by omega,by go_num,rfl,by omega,by omega,M,B,H.setCell _ _⟩
      case measure=>simp[intOf];omega
     have am:Y=0:=(by rw[<-F.out];have:=k.out.2.1;simp[List.getD,lP (by omega:vs.length<=i)]);subst am;go_wp2;go_roundw
     case rel=>have M:=I.out (U+f) (by simp);have B:=D.set (j+i)<|(U+f) % 65536;rw[W.out] at B;rw[GP,show((U+f) % 65536) % 4294967296=(U+f) % 65536 by omega];exact⟨i+1,_,_,by omega,by go_num,rfl,by omega,by omega,M,B,H.setCell _ _⟩
     case measure=>simp[intOf];omega
    obtain rfl:i=n+2:=(by omega);have J:=t.out;have ad:=k.out.1;rw[<-ad] at J;have Z:=J.done V.out (by rw[k.out.1,k.out.2.1];omega) (by have:=E.out;rw[kI];omega) (by have:=E.out;rw[kI];omega);have dR:Hid (bA cur=bA us - G*bA vs):=Z;clear Z J ad;go_wp2;go_ret;refine⟨cur,rfl,by rw[t.out.len];exact k.out.1,t.out.dig,?_,D,H⟩;rw[dR.out];have:=E.out;rw[kI];omega
 go_wp2
 go_loopw [7] (λO wr=>∃G:Int,O=.int .u64 G/\Q<=G/\G<=65535/\Below w.1.size w wr) (λO _=>(intOf O).toNat)
 case atStart=>exact⟨_,rfl,a0,by omega,hB⟩
 case round=>
  obtain⟨G,rfl,a4,a5,r⟩:=hrel;have y:=MC (g:=G) (iu.out.below r) (fN.out.below r) cD.out (by omega) (by omega) (by rw[k.out.2.1];omega);by_cases x:bA us<bA vs*G
  .rw[lh x] at y
   have a6:1<=G:=by
    rcases (by omega:1<=G\/G<=0) with h | h
    .exact h
    exfalso;have:bA vs*G<=0:=pt (by omega) h;omega
   have ah:Q<=G - 1:=(by have h1:bA vs*Q<=bA us:=(by have:=E.out;omega);have h2:bA vs*Q<bA vs*G:=(by omega);have:=sE h2 (by omega);omega);clear x;go_wp2_with (go_at_call 163;refine jR y λP z=>?_);go_roundw
   case rel=>exact⟨G - 1,by go_num,ah,by omega,cV r z⟩
   case measure=>simp[intOf];omega
  rw[kQ x] at y
  have ai:G=Q:=by
   rcases (by omega:G=Q\/Q+1<=G) with h | h
   .exact h
   exfalso;have h1:=lr h (by omega:0<=bA vs);rw[lT,qC] at h1;have:=E.out;omega
  subst ai;clear x;go_wp2_with (go_at_call 163;refine jR y λP z=>?_);have ae:Sav g w P:=Sav.of<|cV r z;have ac:BlkP P g (A++us++C):=(dY.out).below<|cV r z;clear y z r
  go_loopw [8,44] (λt8 N wr=>∃(i:Nat) (cur:List Int) (f:Int),i<=n+2/\N=.int .i64 i/\t8=.int .i64 f/\-65536<=f/\f<=0/\Hid (Dg us vs G i cur f)/\BlkP wr g (A++cur++C)/\Sav g w wr) (λ_ N _=>n+2 - (intOf N).toNat)
  case atStart=>exact⟨0,us,0,kL _,rfl,rfl,by omega,by omega,Dg.zero T.out,ac,ae⟩
  case round=>
   clear ae ac;obtain⟨i,cur,f,hi,rfl,rfl,a9,a',t,D,H⟩:=hrel;by_cases x:i<n+2
   .have hcl:cur.length=n+2:=(by rw[t.out.len];exact k.out.1);have X:=D.cell (j:=A.length+i) (by simp;omega);rw[BU<|by omega,k.out.2.2,t.out.rest i<|kF _] at X;have a8:=D.frozen<|j+i;have aa:=T.out i;have ab:=V.out i;have K:=λd=>(Ej A cur C i d<|by omega);rw[k.out.2.2] at K;have W:Hid (∀d,(A++cur++C).set (j+i) d=A++cur.set i d++C):=K;clear K hcl;obtain⟨U,hU⟩:∃U,Hid (us.getD i 0=U):=⟨_,rfl⟩;obtain⟨Y,F⟩:∃Y,Hid (vs.getD i 0=Y):=⟨_,rfl⟩;rw[hU.out] at X aa;rw[F.out] at ab;obtain⟨u0,u1⟩:=aa;obtain⟨y0,y1⟩:=ab;have aq:=Fh ⟨q0,by omega⟩ ⟨y0,y1⟩;have L:=λS hS=>t.out.step (S:=S) T.out V.out ⟨q0,by omega⟩ (by rw[k.out.1];exact x) hS;rw[hU.out,F.out] at L;have I:Hid (∀S,S=U+f - G*Y->Dg us vs G (i+1) (cur.set i<|S % 65536) (S / 65536)):=L;clear L;by_cases ar:i<n+1
    .have cy:=bV.out i (by rw[k.out.2.1];exact ar);rw[F.out] at cy;have a3:wr.cell? ⟨b,o+i,none⟩=some (.int .u32 Y):=(H.cell hb az).trans cy;clear cy;obtain⟨l,al⟩:∃l,G*Y=l:=⟨_,rfl⟩;rw[al] at aq I;go_wp2;go_roundw
     case rel=>have M:=I.out (U+f - l) (by rfl);have B:=D.set (j+i)<|(U+f - l) % 65536;rw[W.out] at B;rw[GP,show((U+f - l) % 65536) % 4294967296=(U+f - l) % 65536 by omega];exact⟨i+1,_,_,by omega,by go_num,rfl,by omega,by omega,M,B,H.setCell _ _⟩
     case measure=>simp[intOf];omega
    have am:Y=0:=(by rw[<-F.out];have:=k.out.2.1;simp[List.getD,lP (by omega:vs.length<=i)]);subst am;go_wp2;go_roundw
    case rel=>have M:=I.out (U+f) (by simp);have B:=D.set (j+i)<|(U+f) % 65536;rw[W.out] at B;rw[GP,show((U+f) % 65536) % 4294967296=(U+f) % 65536 by omega];exact⟨i+1,_,_,by omega,by go_num,rfl,by omega,by omega,M,B,H.setCell _ _⟩
    case measure=>simp[intOf];omega
   obtain rfl:i=n+2:=(by omega);have J:=t.out;have ad:=k.out.1;rw[<-ad] at J;have Z:=J.done V.out (by rw[k.out.1,k.out.2.1];omega) (by have:=E.out;rw[kI];omega) (by have:=E.out;rw[kI];omega);have dR:Hid (bA cur=bA us - G*bA vs):=Z;clear Z J ad;go_wp2;go_ret;refine⟨cur,rfl,by rw[t.out.len];exact k.out.1,t.out.dig,?_,D,H⟩;rw[dR.out];have:=E.out;rw[kI];omega
theorem Re (ys:List Int):∀u∈ys.map (Value.int .u32),u.oneCell'=true:=mG .u32 ys
theorem Sl16.news {n:Nat} (h:Sl16 w (.slice q n cap) ys) {q2:Addr} (hq:q=some q2):∀j u,(ys.map<|Value.int .u32)[j]?=some u->w.cell? (q2.add j)=some u:=by
 obtain⟨_,_,q',cap',e,_,l⟩:=h;cases e;intro j u d
 rcases l with rfl | ⟨b,o,e,_,k⟩
 .simp at d
 cases hq;cases e
 have f:j<ys.length:=by
  rcases kS j ys.length with h | h
  .exact h
  simp[lP h] at d
 have h:=k j f;simp only[mI,k8 f,qW,mc] at d;rw[show ys.getD j 0=ys[j] by simp[f],d] at h;by_cases h0:j=0
 .subst h0;simpa [Addr.add] using h
 simpa [Addr.add,h0] using h
theorem Rf {P:Program} (base:Nat) (t ty e:TypeId) (i:TypeInfo) (size c:Nat) (ht:P.underlying t=some (.slice e)) (hi:P.info? e=some i)
  (v:Value) (n:Nat) (xs:List Value) (b:w.ownsRow base e size v n xs):
  (Builtin.append_ #[t,t] ty #[v,.slice none 0 c]).run P w=.ok v w:=by
 rcases b.2 with⟨rfl,rfl⟩ | ⟨g,cap,cur,rfl,_,_,hnc,_⟩
 .simp[Builtin.append_,qf ht,sizeOf,typeInfo,hi,Builtin.lenOf,Builtin.firstCells]
 simp[Builtin.append_,qf ht,sizeOf,typeInfo,hi,Builtin.lenOf,Builtin.firstCells,hnc,storeCells]
theorem Rg {P:Program} {ops:Array Oper} {rest:List Oper} {o:Oper} {a:Act} {Q:Exit->Act->World->Prop} (j:o.guard=none) (s x:Operand) (t:TypeId)
  (k:o.op=.call { callee:=.builtin .append,args:=#[s,x],argTypes:=#[t,t] })
  (base:Nat) (e:TypeId) (i:TypeInfo) (size c:Nat) (ht:P.underlying t=some (.slice e)) (hi:P.info? e=some i)
  (v:Value) (n:Nat) (xs:List Value) (l:a.eval s=v) (d:w.ownsRow base e size v n xs) (r:a.eval x=.slice none 0 c)
  (h:wpList P ops Q rest (a.put o.dst v) w):wpList P ops Q (o::rest) a w:=by
 refine pR j λK f=>?_;have b:=Rf (P:=P) (w:=w) base t o.type e i size c ht hi v n xs d;unfold Oper.wp;simp[execOp,k,resolve,invoke,builtin,l,r,b,Result.andThen];exact f _ _ h
theorem GQ {ops:Array Oper} {rest:List Oper} {o:Oper} {a:Act} {Q:Exit->Act->World->Prop} (j:o.guard=none) (s x:Operand)
  (r:o.op=.call { callee:=.builtin .append,args:=#[s,x],argTypes:=#[78,78] })
  (base:Nat) (v:Value) (n:Nat) (xs:List Value) (t:a.eval s=v) (f:w.ownsRow base 120 1 v n xs)
  (ys:List Int) (B:Value) (y:a.eval x=B) (l:Sl16 w B ys) (K:n+ys.length<=549755813888) (D:base<=w.1.size)
  (h:∀d w',w'.ownsRow base 120 1 d (n+ys.length) (xs++ys.map (Value.int .u32))->w.grownBy w' v.ownBlock->wpList prog ops Q rest (a.put o.dst d) w'):wpList prog ops Q (o::rest) a w:=by
 obtain⟨z,k,G,H,I⟩:=mE (show(prog.info? 120).map (λi=>(i.zero,i.size,i.bytes))=some (some<|.int .u32 0,1,4) by kernel_rfl);have E:=l;obtain⟨_,_,q,cap,rfl,J,F⟩:=l
 match q with
 | none=>
  have:ys=[]:=by
   rcases F with h | ⟨b,o,e,_⟩
   .exact h
   cases e
  subst this;exact Rg j s x 78 r base 120 z 1 cap underlying78 k v n xs t f y<|h v w (by simpa using f) ⟨rfl,rfl,rfl,kF _,λ_ _ _=>rfl⟩
 | some q2=>exact lm w j s x 78 r base 120 z (.int .u32 0) 1 4 underlying78 k G H I rfl (by decide) v n xs t f q2 ys.length cap (ys.map<|Value.int .u32) y (by simp) (E.news rfl) (Re ys) (by unfold maxLen;omega) (by omega) D λd w' h1 h2 _=>h d w' h1 h2
def OwR (w:World) (base:Nat) (v:Value) (zs:List Int):Prop:=w.ownsRow base 120 1 v zs.length<|zs.map<|Value.int .u32
theorem OwR.sl (h:OwR w base v zs) (b:bI zs) (d:zs.length<=549755813888):Sl16 w v zs:=BT rfl h b d
theorem OwR.blk (h:OwR w base v zs) (l:zs≠[]):∃g cap,v=.slice (some ⟨g,0,none⟩) zs.length cap/\base<=g/\zs.length<=cap/\BlkP w g zs:=by
 obtain⟨_,⟨rfl,h0⟩ | ⟨g,e,cur,rfl,f,d,h4,h5,h6,h7⟩⟩:=h
 .exact absurd (kM h0) l
 refine⟨g,e,rfl,f,h4,cur,d,λj k=>?_⟩;have b:(cur.toList.take<|zs.length*1)[j]?=(zs.map<|Value.int .u32)[j]?:=by rw[h7]
 rw[mD,kU<|by omega] at b;rw[<-qH,b];simp[k]
theorem MD {W:World} (d:OwR W base v zs) (t:bI zs) (y:zs.length<=549755813888):
  ∃r,(cN 109 #[v] W λe w'=>e=.returned r/\w'=W)/\OwR W base r (bE zs):=by
 have z:(bE zs).length=bK zs zs.length:=ed zs;have B:=fp zs zs.length;have k:=d.sl t y;by_cases f:zs=[]
 .subst f;obtain⟨_,_,q,cap,rfl,_,_⟩:=k;refine⟨_,GG q cap W,?_⟩;exact d
 obtain⟨_,⟨rfl,h0⟩ | ⟨g,j,cur,rfl,x,l,h4,h5,h6,h7⟩⟩:=id d
 .exact absurd (kM h0) f
 obtain⟨_,_,q,cap,e,_,D⟩:=k;cases e
 rcases D with h | ⟨b,o,e,E,n⟩
 .exact absurd h f
 cases e;refine⟨_,C2 g 0 zs.length j zs W n h4<|by omega,?_⟩;rw[<-z];refine⟨by simp,.inr ⟨g,j,cur,rfl,x,l,by omega,h5,h6,?_⟩⟩;have:cur.toList.take ((bE zs).length*1)=(cur.toList.take<|zs.length*1).take ((bE zs).length):=(by rw[List.take_take];congr 1;omega);rw[this,h7,<-List.map_take];unfold bE;rw[lD,lR B]
theorem Df {x c:Int} (k:0<=x/\x<=65535) (j:s<=15) (b:0<=c/\c<2^s):Go.bits .or .u32 (x*2^s) c=x*2^s+c:=by
 obtain⟨X,rfl⟩:=lZ k.1;obtain⟨C,rfl⟩:=lZ b.1;have d:C<2^s:=by have:=b.2;rw[show ((2:Int)^s)=((2^s:Nat):Int) by simp] at this;omega
 have f:2^s<=2^15:=pL (by decide) j;have e:X<=65535:=by omega
 have l:X*2^s<=65535*2^15:=tg e f
 have h:((BitVec.ofInt 32 ((X:Int)*2^s) ||| BitVec.ofInt 32 (C:Int)).toNat:Int)=(X:Int)*2^s+C:=by
  rw[show (X:Int)*2^s=((X*2^s:Nat):Int) by simp];rw[sV,sx,sx];have e1:(((X*2^s:Nat):Int) % ((2^32:Nat):Int)).toNat=X*2^s:=by omega
  have e2:((C:Int) % ((2^32:Nat):Int)).toNat=C:=by omega
  rw[e1,e2,Nat.mul_comm,<-qK d];omega
 show IntKind.u32.wrap ((BitVec.ofInt 32 ((X:Int)*2^s) ||| BitVec.ofInt 32 (C:Int)).toNat:Int)=_
 rw[h];rw[show (X:Int)*2^s+C=((X*2^s+C:Nat):Int) by simp];simp only[sK];omega
structure Sh (xs:List Int) (s k:Nat) (out:List Int) (cy:Int):Prop where
 len:out.length=k
 dig:bI out
 c:0<=cy/\cy<2^s
 eq:bA out+cy*65536^k=bA (xs.take k)*2^s
theorem i7 (s:Nat):(0:Int)<2^s:=pH<|by decide
theorem Sh.zero (xs:List Int) (s:Nat):Sh xs s 0 [] 0:=⟨rfl,λj=>by simp[List.getD],⟨by decide,i7 s⟩,by simp[bA]⟩
theorem Sh.step {out:List Int} {k:Nat} {b S:Int} (h:Sh xs s k out b) (f:bI xs) (j:S=xs.getD k 0*2^s+b):Sh xs s (k+1) (out++[S % 65536]) (S / 65536):=by
 have d:=f k;have l:=h.c;have o:=i7 s;have h0:0<=xs.getD k 0*2^s:=nj d.1 (by omega);have h1:xs.getD k 0*2^s<=65535*2^s:=kO d.2 (by omega);refine⟨by simp[h.len],xJ h.dig<|by omega,by omega,?_⟩;have n:=h.eq;rw[xK,oV,h.len,lH,kW]
 have e:S*65536^k=S % 65536*65536^k+S / 65536*(65536^k*65536):=by
  have h1:S=S % 65536+65536*(S / 65536):=by omega
  generalize (65536:Int)^k=p
  calc S*p=(S % 65536+65536*(S / 65536))*p:=by rw[<-h1]
   _=_:=by rw[kW,kI 65536,kH,kI 65536 p]
 have e2:S*65536^k=xs.getD k 0*65536^k*2^s+b*65536^k:=by rw[j,kW,kH,kI<|2^s,<-kH]
 omega
theorem GR (w:World):(w.alloc<|.cells #[] 120).ownsRow w.1.size 120 1 (.slice (some ⟨w.1.size,0,none⟩) 0 0) 0 []:=World.ownsRow_made w #[] 0 (kF _) (by decide) rfl
theorem cU (w:World) (o:Obj):Below w.1.size w (w.alloc o):=(kE _ _).alloc (kF _) o
theorem Rh (s:Int) (h:Sl16 w (.slice q 0 cap) []):
  cN 125 #[.slice q 0 cap,.int .i64 s] w λe w'=>∃r,e=.returned r/\OwR w' w.1.size r []/\Below w.1.size w w':=by
 have j:=h.below<|cU w<|.cells #[] 120;go_enter func125,ntmps125;go_wp2_with (at_builtin;refine GQ rfl _ _ rfl w.1.size (.slice (some ⟨w.1.size,0,none⟩) 0 0) 0 [] rfl (GR w) [] (.slice q 0 cap) rfl j (by simp) (by simp) ?_;intro k l b d);go_ret;exact⟨k,rfl,b,(cU w _).grown d (by simp) λg f=>by cases f;exact kF _⟩
theorem Ri (b:Sl16 w (.slice q xs.length cap) xs) (n:((xs.length:Int)==0)=false):
  cN 125 #[.slice q xs.length cap,.int .i64 0] w λe w'=>∃r,e=.returned r/\OwR w' w.1.size r xs/\Below w.1.size w w':=by
 have j:=b.below<|cU w<|.cells #[] 120;have l:=b.2.1;go_enter func125,ntmps125;go_wp2_with (at_builtin;refine GQ rfl _ _ rfl w.1.size (.slice (some ⟨w.1.size,0,none⟩) 0 0) 0 [] rfl (GR w) xs (.slice q xs.length cap) rfl j (by omega) (by simp) ?_;intro k o d f);go_ret;refine⟨k,rfl,?_,(cU w _).grown f (by simp) λg h=>by cases h;exact kF _⟩;simpa [OwR] using d
theorem Rj {b o:Nat} (s:Nat) (al:1<=s) (R:s<=15) (ag:((xs.length:Int)==0)=false) (J:bI xs) (lx:xs.length<=274877906944) (hb:b<w.1.size)
  (O:∀i,i<xs.length->w.cell? ⟨b,o+i,none⟩=some (.int .u32<|xs.getD i 0)):
  cN 125 #[.slice (some ⟨b,o,none⟩) xs.length cap,.int .i64 s] w λe w'=>∃r out d,e=.returned r/\Sh xs s xs.length out d/\OwR w' w.1.size r (bE<|out++[d])/\Below w.1.size w w':=by
 obtain⟨E,hi,z,B,D⟩:=mE (show(prog.info? 120).map (λi=>(i.zero,i.size,i.bytes))=some (some<|.int .u32 0,1,4) by kernel_rfl);have hq:(s:Int).tdiv 16=0:=by rw[nk<|by omega];omega
 have Q:(s:Int).tmod 16=s:=by rw[nR<|by omega];omega
 have ai:¬(s:Int)<=0:=by omega
 have P:(2:Int)^s<=32768:=by have:2^s<=2^15:=pL (by decide) R;rw[show ((2:Int)^s)=((2^s:Nat):Int) by simp];omega
 have jM:Hid ((2:Int)^s<=32768):=P;have aa:=bC O;have K:Hid (bI xs):=J;clear O J P;go_enter func125,ntmps125;go_wp2_with (at_make;refine qV _ rfl _ _ 78 rfl w.1.size 120 E (.int .u32 0) 1 underlying78 hi z B .i64 .i64 _ (xs.length+1) rfl rfl (by omega) (by rw[D];omega) (by unfold maxLen;omega) (kF _) ?_;intro w1 I H);have F:Below w.1.size w w1:=(kE _ _).grown H (kF _) λg f=>by cases f
 go_loopw [5,6,31] (λt5 t6 i wr=>∃(k:Nat) (out:List Int) (d:Int),k<=xs.length/\i=.int .i64 k/\t6=.int .u32 d/\0<=d/\d<=65535/\wr.ownsRow w.1.size 120 1 t5 k (out.map<|Value.int .u32)/\Hid (Sh xs s k out d)/\Below w.1.size w wr) (λ_ _ i _=>xs.length - (intOf i).toNat)
 case atStart=>exact⟨0,[],0,kL _,rfl,rfl,by omega,by omega,I,Sh.zero xs s,F⟩
 case round=>
  clear I H F;obtain⟨k,out,d,hk,rfl,rfl,c0,c1,j,h,l⟩:=hrel;have T:=l.size;by_cases ac:k<xs.length
  .have am:(k:Int)<(xs.length:Int):=(by omega);have cc:wr.cell? ⟨b,o+k,none⟩=some (.int .u32<|xs.getD k 0):=fg l hb<|aa.out k ac;have U:=K.out k;obtain⟨X,M⟩:∃X,Hid (xs.getD k 0=X):=⟨_,rfl⟩;rw[M.out] at cc U;obtain⟨Y,Z⟩:=U;have N:=h.out.c;have ae:0<=X*2^s:=nj Y (by have:=i7 s;omega);have af:X*2^s<=2147450880:=(by have h1:X*2^s<=65535*2^s:=kO Z (by have:=i7 s;omega);have:=jM.out;omega);have y:=Df ⟨Y,Z⟩ R N;have ab:X*2^s+d<=2147516415:=(by omega);have n:=h.out.step K.out (S:=X*2^s+d) (by rw[M.out]);clear N;obtain⟨S,L⟩:∃S,X*2^s+d=S:=⟨_,rfl⟩;rw[L] at y ab n;have ad:0<=S:=(by omega);clear L;have aD:Hid (Sh xs s (k+1) (out++[S % 65536])<|S / 65536):=n;clear n;go_wp2_with (at_builtin;refine lm _ rfl _ _ 78 rfl w.1.size 120 E (.int .u32 0) 1 4 underlying78 hi z B D rfl (by decide) _ _ _ rfl (j.alloc _) ⟨wr.1.size,0,none⟩ 1 1 [.int .u32<|S % 65536] rfl rfl (World.news_of_block<|kR wr<|.cells #[.int .u32<|S % 65536] 120) (mG .u32 [S % 65536]) (by unfold maxLen;omega) (by omega) (by simp;omega) ?_;intro V W x t _);go_roundw
   case rel=>exact⟨k+1,out++[S % 65536],S / 65536,by omega,by go_num,rfl,by omega,by omega,by rw[lN];exact x,aD,(l.alloc T _).grown t (by simp;omega) λg f=>(j.lt g f).1⟩
   case measure=>simp[intOf];omega
  obtain rfl:k=xs.length:=(by omega);have G:=h.out.len;go_wp2_with (at_builtin;refine lm _ rfl _ _ 78 rfl w.1.size 120 E (.int .u32 0) 1 4 underlying78 hi z B D rfl (by decide) _ _ _ rfl (j.alloc _) ⟨wr.1.size,0,none⟩ 1 1 [.int .u32 d] rfl rfl (World.news_of_block<|kR wr<|.cells #[.int .u32 d] 120) (mG .u32 [d]) (by unfold maxLen;omega) (by omega) (by simp;omega) ?_;intro V W x t _);have y:OwR W w.1.size V (out++[d]):=(by unfold OwR;rw[lN,kY,G];exact x);obtain⟨r,aA,Q⟩:=MD y (xJ h.out.dig ⟨c0,c1⟩) (by simp[G];omega);go_wp2_with (go_at_call 109;refine aA.mono ?_;rintro e w9 ⟨rfl,rfl⟩);go_ret;exact⟨r,out,d,rfl,h.out,Q,(l.alloc T _).grown t (by simp;omega) λg f=>(j.lt g f).1⟩
theorem Sh.done {out:List Int} {b:Int} (h:Sh xs s xs.length out b):bA (bE<|out++[b])=bA xs*2^s:=by have:=h.eq;rw[lQ] at this;rw[o4,xK,h.len,this]
theorem ME (x:Sl16 w v xs) (n:bD xs) (H:xs.length<=274877906944) (s:Nat) (E:s<=15):
  cN 125 #[v,.int .i64 s] w λe w'=>∃r zs,e=.returned r/\OwR w' w.1.size r zs/\bI zs/\bD zs/\bA zs=bA xs*2^s/\zs.length<=xs.length+1/\Below w.1.size w w':=by
 have y:=x;obtain⟨l,_,q,cap,rfl,I,G⟩:=x;by_cases h0:xs=[]
 .subst h0;refine(Rh s y).mono ?_;rintro e w' ⟨r,rfl,f,d⟩;exact⟨r,[],rfl,f,l,n,by simp[bA],by simp,d⟩
 have t:((xs.length:Int)==0)=false:=by have:xs.length≠0:=λh=>h0<|kM h;simp;omega
 by_cases F:s=0
 .subst F;refine(Ri y t).mono ?_;rintro e w' ⟨r,rfl,f,d⟩;exact⟨r,xs,rfl,f,l,n,by simp,by omega,d⟩
 rcases G with h | ⟨b,o,rfl,d,B⟩
 .exact absurd h h0
 refine(Rj s (by omega) E t l H d B).mono ?_;rintro e w' ⟨r,out,k,rfl,j,f,z⟩;have J:(2:Int)^s<=65536:=(by have:2^s<=2^16:=pL (by decide) (by omega);rw[show ((2:Int)^s)=((2^s:Nat):Int) by simp];omega);have D:=j.c;refine⟨r,bE<|out++[k],rfl,f,uK<|xJ j.dig ⟨D.1,by omega⟩,jH _,j.done,?_,z⟩;rw[ed];have:=fp (out++[k]) (out++[k]).length;have h2:=j.len;simp at this;simp;omega
