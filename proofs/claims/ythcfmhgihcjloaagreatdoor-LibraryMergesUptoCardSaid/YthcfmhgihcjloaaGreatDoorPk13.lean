import Derived.Lib.TrailingZeros
import Derived.Lib.BitFns
import Derived.Test.YthcfmhgihcjloaaGreatDoorPk12
namespace Go.Proofs.YthcfmhgihcjloaaGreatDoor
open Go Go.RowKit Tryz
set_option maxRecDepth 100000
set_option maxHeartbeats 16000000
variable {s m k t:Nat} {xs us vs ys u0 q out cur c0:List Int} {b S x G R g c:Int}
theorem JE:∃L:Nat,L<=68719476000/\1<=L/\∀xs:List Int,cB xs->xs.length<=34359737000->val xs<65536^L:=
 ⟨68719475000,by decide,by decide,λ_ a d=>RB a d⟩
theorem Er {L:Nat} (h1:1<=L) (a:∀xs:List Int,cB xs->xs.length<=34359737000->val xs<65536^L) {nu de:List Int} (e:cB nu) (d:cB de) (ln:nu.length<=34359737000) (ld:de.length<=34359737000):
  so L (db (val nu)<|bB<|val de) (dg (val nu)<|bB<|val de):=by
 have h3:(1:Int)<65536^L:=by have:=GT h1;omega
 have h4:=a nu e ln;have h5:=a de d ld;have h6:bB (val de)<65536^L:=by unfold bB;split<;>omega
 exact xY (ep e) (ep d) h4 h6 h3
theorem Dx {w:World} {s:Int} {g1 g2:Bool} {q1 p1 q2 p2:Option Addr} {l1 c1 m1 e1 l2 c2 m2 e2:Nat} {nu1 de1 nu2 de2:List Int} (h1:Sl w (.slice q1 l1 c1) nu1) (h2:Sl w (.slice p1 m1 e1) de1) (h3:Sl w (.slice q2 l2 c2) nu2) (h4:Sl w (.slice p2 m2 e2) de2)
  (b1:nu1.length<=34359737000) (b2:de1.length<=34359737000) (b3:nu2.length<=34359737000) (b4:de2.length<=34359737000) (hS:jo (sg (cI g1 (val nu1)<|bB<|val de1)*((db (val nu1)<|bB<|val de1)*bB (dg (val nu2)<|bB<|val de2)) - sg (cI g2 (val nu2)<|bB<|val de2)*((db (val nu2)<|bB<|val de2)*bB (dg (val nu1)<|bB<|val de1)))=s):cN 81 #[.agg<|iA g1 q1 l1 c1 p1 m1 e1 g2 q2 l2 c2 p2 m2 e2 false false] w λe w'=>∃v,e=.returned v/\IAt w' v (IvC.mk g1 (val nu1) (val de1) g2 (val nu2) (val de2) false false).v/\Below w.1.size w w':=by
 obtain⟨dd,hu,hd⟩:=FG;obtain⟨L,hL,ah,ac⟩:=JE;have ak:=Er ah ac h1.1 h2.1 b1 b2;have al:=Er ah ac h3.1 h4.1 b3 b4;have P:Below w.1.size w (((w.alloc<|.cells (iA g1 q1 l1 c1 p1 m1 e1 g2 q2 l2 c2 p2 m2 e2 false false) 83).alloc<|.cells zA 130).alloc<|.cells zA 130):=GZ _ _ _ _;have I0:=xW w (iA g1 q1 l1 c1 p1 m1 e1 g2 q2 l2 c2 p2 m2 e2 false false) 83 (.cells zA 130)<|.cells zA 130;have I1:=uO w (.cells (iA g1 q1 l1 c1 p1 m1 e1 g2 q2 l2 c2 p2 m2 e2 false false) 83) zA 130<|.cells zA 130;have I2:=xX w (.cells (iA g1 q1 l1 c1 p1 m1 e1 g2 q2 l2 c2 p2 m2 e2 false false) 83) (.cells zA 130) zA 130;have aj:=BY (g:=g1) (h1.below P) (h2.below P) (by omega) (by omega);have jI:∀z,Below w.1.size w z->_:=λz hz=>BY (g:=g2) (h3.below hz) (h4.below hz) (by omega) (by omega);have ad:Hid (jo _=_):=hS;have am:Hid (BlkI _ _ _ _):=I0;have an:Hid (BlkI _ _ _ _):=I1;have ao:Hid (BlkI _ _ _ _):=I2;have aH:=bC P;have a4:Hid (so _ _ _):=ak;have a5:Hid (so _ _ _):=al;clear I0 I1 I2 P h1 h2 h3 h4 ak al hS ac;go_enter func81,ntmps81
 go_wp2_with (first
  | (go_at_call 110;with_reducible refine aj.mono ?_;rintro e a ⟨r,rfl,hq,Q⟩
     have a2:Hid (QAt a r _ _ _):=hq;obtain⟨u1,u2,o,l,rfl,k2,k3,k4,F,k6,k7⟩:=hq;obtain⟨y,n,rfl⟩:=k2.form;obtain⟨u,kd,rfl⟩:=F.form;have f:=am.out.below Q;have J1:=an.out.below Q;have A:=ao.out.below Q;have Y:Below w.1.size w a:=cV aH.out Q;have h:=G5 A 0 (.bool<|cI g1 (val nu1)<|bB<|val de1) (.slice y o.length n)<|.slice u l.length kd;have X2:BlkI (((a.setCell ⟨w.1.size+1+1,0,none⟩<|.bool<|cI g1 (val nu1)<|bB<|val de1).setCell ⟨w.1.size+1+1,1,none⟩<|.slice y o.length n).setCell ⟨w.1.size+1+1,2,none⟩<|.slice u l.length kd) (w.1.size+1+1) 130 #[.bool<|cI g1 (val nu1)<|bB<|val de1,.slice y o.length n,.slice u l.length kd,.bool false,.slice none 0 0,.slice none 0 0,.bool false,.bool false,.bool false]:=h.1;have Q2:=a2.out.sav A kv h.2;have X0:=f.sav h.2 (by omega);have X1:=J1.sav h.2 (by omega);have Z:=Y.trans<|h.2.below (B:=w.1.size) (by omega) Y.size;have eF:=jI _ Z;have c6:a.cell? ⟨w.1.size,6,none⟩=some (.bool false):=f.cell 6;have c7:a.cell? ⟨w.1.size,7,none⟩=some (.bool false):=f.cell 7;have c3:a.cell? ⟨w.1.size,3,none⟩=some (.bool g2):=f.cell 3;have c4:a.cell? ⟨w.1.size,4,none⟩=some (.slice q2 l2 c2):=f.cell 4;have c5:a.cell? ⟨w.1.size,5,none⟩=some (.slice p2 m2 e2):=f.cell 5;obtain⟨f0,f1,f2,f3,f4,f5,f6,f7,f8⟩:=A.c9;have a6:=A.fr;have av:Hid (BlkI _ _ _ _):=X0;have aw:Hid (BlkI _ _ _ _):=X1;have ax:Hid (BlkI _ _ _ _):=X2;have ap:Hid (QAt _ _ _ _ _):=Q2;have ar:Hid (Below _ _ _):=Z
     clear f J1 A k2 k3 k4 F k6 k7 aj h X0 X1 X2 Q2 Z Y)
  | (go_at_call 110;with_reducible refine eF.mono ?_;rintro e N ⟨r,rfl,hq,D⟩
     have a3:Hid (QAt N r _ _ _):=hq;obtain⟨u1,u2,J,C,rfl,k2,k3,k4,F,k6,k7⟩:=hq;obtain⟨M,I,rfl⟩:=k2.form;obtain⟨K,H,rfl⟩:=F.form;have T:=av.out.below D;have K1:=aw.out.below D;have j:=ax.out.below D;have QL:=ap.out.below D;have W4:Below w.1.size w N:=cV ar.out D;have i:=G5 j 3 (.bool<|cI g2 (val nu2)<|bB<|val de2) (.slice M J.length I)<|.slice K C.length H;have Y2:BlkI (((N.setCell ⟨w.1.size+1+1,3,none⟩<|.bool<|cI g2 (val nu2)<|bB<|val de2).setCell ⟨w.1.size+1+1,4,none⟩<|.slice M J.length I).setCell ⟨w.1.size+1+1,5,none⟩<|.slice K C.length H) (w.1.size+1+1) 130 #[.bool<|cI g1 (val nu1)<|bB<|val de1,.slice y o.length n,.slice u l.length kd,.bool<|cI g2 (val nu2)<|bB<|val de2,.slice M J.length I,.slice K C.length H,.bool false,.bool false,.bool false]:=i.1;have X:=QL.sav j kv i.2;have V:=a3.out.sav j kv i.2;have Y1:=K1.sav i.2 (by omega);have W5:=W4.trans<|i.2.below (B:=w.1.size) (by omega) W4.size;have aU:=GX X V hL a4.out a5.out;rw[ad.out] at aU;have s6:N.cell? ⟨w.1.size,6,none⟩=some (.bool false):=T.cell 6;have s7:N.cell? ⟨w.1.size,7,none⟩=some (.bool false):=T.cell 7;obtain⟨h0,h1,h2,h3,h4,h5,h6,h7,h8⟩:=j.c9;have KC:=j.fr;have ay:Hid (BlkI _ _ _ _):=Y1;have az:Hid (BlkI _ _ _ _):=Y2;have W:Hid (QAt _ _ _ _ _):=X;have U:Hid (QAt _ _ _ _ _):=V;have au:Hid (Below _ _ _):=W5
     clear T K1 j k2 k3 k4 F k6 k7 eF i Y1 Y2 QL X V W4 W5)
  | (go_at_call 82;with_reducible refine jR aU λw4 E=>?_
     have O:=ay.out.below E;have Z2:=az.out.below E;have af:=W.out.below E;have ae:=U.out.below E;have W6:Below w.1.size w w4:=cV au.out E;have a1:=Au w4;obtain⟨m0,m1,m2,m3,m4,m5,m6,m7,m8⟩:=O.c9;obtain⟨n0,n1,n2,n3,n4,n5,n6,n7,n8⟩:=Z2.c9;have KD:=O.fr;have ab:Hid (BlkI _ _ _ _):=O;have W:Hid (QAt _ _ _ _ _):=af;have U:Hid (QAt _ _ _ _ _):=ae;have aa:Hid (Below _ _ _):=W6;clear O Z2 af ae W6 aU
     by_cases hs:s > 0)
  | (go_at_call 111;with_reducible refine jR a1 λw5 ai=>?_
     have V1:=ab.out.below ai;have W7:Below w.1.size w w5:=cV aa.out ai;obtain⟨v0,v1,v2,v3,v4,v5,v6,v7,v8⟩:=V1.c9;have KE:=V1.fr;have aq:Hid (BlkI _ _ _ _):=V1;have ag:Hid (Below _ _ _):=W7
     clear V1 W7))
 .have d:=G6 aq.out (.bool false) (.slice none 0 0) (.slice none 0 0) (.bool false) (.slice none 0 0) (.slice none 0 0) (.bool false) (.bool false)<|.bool true;have W9:=ag.out.trans<|d.2.below (B:=w.1.size) (by omega) ag.out.size;refine lJ (jP rfl _ _ (w.1.size+1) [.bool false,.slice none 0 0,.slice none 0 0,.bool false,.slice none 0 0,.slice none 0 0,.bool false,.bool false,.bool true] dd rfl (BlkI.row d.1) hu hd BZ) rfl ?_;refine⟨_,rfl,?_,W9⟩;have hv:(IvC.mk g1 (val nu1) (val de1) g2 (val nu2) (val de2) false false).v=⟨false,0,0,false,0,0,false,false,true⟩:=by unfold IvC.v;rw[kU];refine⟨rfl,rfl,?_⟩;show 0<jo (sg (cI g1 (val nu1)<|bB<|val de1)*((db (val nu1)<|bB<|val de1)*bB (dg (val nu2)<|bB<|val de2)) - sg (cI g2 (val nu2)<|bB<|val de2)*((db (val nu2)<|bB<|val de2)*bB (dg (val nu1)<|bB<|val de1)));rw[ad.out];exact hs
  rw[hv];exact⟨_,_,_,_,rfl,Ep _,Ep _⟩
 have d:=G6 ab.out (.bool<|cI g1 (val nu1)<|bB<|val de1) (.slice y o.length n) (.slice u l.length kd) (.bool<|cI g2 (val nu2)<|bB<|val de2) (.slice M J.length I) (.slice K C.length H) (.bool false) (.bool false)<|.bool false;have W9:=aa.out.trans<|d.2.below (B:=w.1.size) (by omega) aa.out.size;refine lJ (jP rfl _ _ (w.1.size+1) [.bool<|cI g1 (val nu1)<|bB<|val de1,.slice y o.length n,.slice u l.length kd,.bool<|cI g2 (val nu2)<|bB<|val de2,.slice M J.length I,.slice K C.length H,.bool false,.bool false,.bool false] dd rfl (BlkI.row d.1) hu hd BZ) rfl ?_;refine⟨_,rfl,?_,W9⟩
 have hv:(IvC.mk g1 (val nu1) (val de1) g2 (val nu2) (val de2) false false).v=⟨cI g1 (val nu1)<|bB<|val de1,db (val nu1)<|bB<|val de1,dg (val nu1)<|bB<|val de1,cI g2 (val nu2)<|bB<|val de2,db (val nu2)<|bB<|val de2,dg (val nu2)<|bB<|val de2,false,false,false⟩:=by
  unfold IvC.v;rw[kZ]
  .rfl
  rintro⟨-,-,a0⟩;have h':0<jo (sg (cI g1 (val nu1)<|bB<|val de1)*((db (val nu1)<|bB<|val de1)*bB (dg (val nu2)<|bB<|val de2)) - sg (cI g2 (val nu2)<|bB<|val de2)*((db (val nu2)<|bB<|val de2)*bB (dg (val nu1)<|bB<|val de1))):=a0;rw[ad.out] at h';exact absurd h'<|by omega
 rw[hv];have A0:=ab.out;exact⟨_,_,_,_,rfl,W.out.sav A0 kv d.2,U.out.sav A0 kv d.2⟩
theorem xZ {w:World} {g1 g2:Bool} {q1 p1 q2 p2:Option Addr} {l1 c1 m1 e1 l2 c2 m2 e2:Nat} {nu1 de1 nu2 de2:List Int} (h1:Sl w (.slice q1 l1 c1) nu1) (h2:Sl w (.slice p1 m1 e1) de1) (h3:Sl w (.slice q2 l2 c2) nu2) (h4:Sl w (.slice p2 m2 e2) de2)
  (a:nu1.length<=34359737000) (d:de1.length<=34359737000) (f:nu2.length<=34359737000) (h:de2.length<=34359737000) (li hh:Bool):cN 81 #[.agg<|iA g1 q1 l1 c1 p1 m1 e1 g2 q2 l2 c2 p2 m2 e2 li hh] w λe w'=>∃v,e=.returned v/\IAt w' v (IvC.mk g1 (val nu1) (val de1) g2 (val nu2) (val de2) li hh).v/\Below w.1.size w w':=by
 cases li<;>cases hh
 .exact Dx h1 h2 h3 h4 a d f h rfl
 .exact Dw h1 h2 h3 h4 a d f h
 .exact Du h1 h2 h3 h4 a d f h
 exact Dt h1 h2 h3 h4 a d f h
theorem po (l:List Int) (k:Nat):val (l.take<|k+1)=val (l.take k)+l.getD k 0*4294967296^k:=by
 by_cases h:k<l.length
 .exact Fd l k h
 have h0:l.getD k 0=0:=by simp[List.getD,lP (by omega:l.length<=k)]
 rw[lI<|by omega,lI<|by omega,h0];omega
theorem oW:∀{xs:List Int},cB xs->val xs<4294967296^xs.length
 | [],_=>by simp[val]
 | x::xs,h=>by have h0:=h 0;have h1:=oW<|D9 h;have h2:val (x::xs)=x+4294967296*val xs:=rfl;rw[h2,lF,lH];simp only[nz] at h0;omega
theorem JF {l:List Int} (h:cB l) {d:Int} (a:0<=d/\d<=4294967295):cB (l++[d]):=λj=>by
 by_cases e:j<l.length
 .have:=h j
  rwa [show (l++[d]).getD j 0=l.getD j 0 by simp[List.getD,lW e]]
 by_cases f:j=l.length
 .subst f;simpa [List.getD] using a
 have:(l++[d]).getD j 0=0:=(by simp only[List.getD];rw[lP<|by simp;omega];rfl);rw[this];omega
theorem JG (l:List Int) (d:Int):val (l++[d])=val l+d*4294967296^l.length:=by
 rw[zB];have:val [d]=d:=by simp[val]
 rw[this,kI]
theorem ms (h:cB xs) (k:Nat):cB (xs.take k):=λj=>by
 have:=h j;simp only[List.getD,mD] at this ⊢;split
 .exact this
 simp
theorem Av (h:cB xs) (k:Nat):cB (xs.drop k):=λj=>by have:=h<|k+j;simpa [List.getD,qt] using this
theorem su (k:Nat):(0:Int)<4294967296^k:=pH<|by decide
theorem FI (h:us.length=m+2):val us=val (us.take m)+(us.getD (m+1) 0*4294967296+us.getD m 0)*4294967296^m:=by have h1:=po us m;have h2:=po us<|m+1;rw[lI (by omega:us.length<=m+1+1),h1,lH] at h2;rw[h2,kW,kH,kI (4294967296^m) 4294967296];omega
theorem zG (h:vs.length=m+1):val vs=val (vs.take m)+vs.getD m 0*4294967296^m:=by
 have h1:=po vs m
 rwa [lI (by omega:vs.length<=m+1)] at h1
theorem RC (du:cB us) (dv:cB vs) (hu:us.length=m+2) (hv:vs.length=m+1) (ht:0<vs.getD m 0):
  val us / val vs<=(us.getD (m+1) 0*4294967296+us.getD m 0) / vs.getD m 0:=by
 have e1:=FI hu;have e2:=zG hv;have l1:=oW<|ms du m;have l2:=ep<|ms dv m;rw[lD,lR<|by omega] at l1;have e:=su m;generalize us.getD (m+1) 0*4294967296+us.getD m 0=top at*;generalize vs.getD m 0=a at*;generalize (4294967296:Int)^m=p at*;have l:0<a*p:=pP ht e;have j:top<(top / a+1)*a:=by have:=l9 top a;have:=mg top ht;rw[kW,nS,kI<|top / a];omega
 generalize top / a=g at*;have h3:(top+1)*p<=(g+1)*a*p:=kO (by omega) (by omega);rw[kW top 1 p,nS] at h3;have d:0<=g+1\/g+1<0:=by omega
 have h4:val us<(g+1)*val vs:=by
  rw[e2,lT]
  have h5:0<=(g+1)*val (vs.take m):=by
   rcases d with d | d
   .exact nj d l2
   exfalso;have h7:(g+1)*a<0:=pZ d ht;have h:(g+1)*a*p<0:=pZ h7 e;have i:=ep du;have f:=ep<|ms du m;have d1:=du<|m+1;have d2:=du m;omega
  rw[kH] at h3;omega
 have:=lU (by omega:0<val vs) h4;omega
theorem G7 (n:xs.length=ys.length) (d:cB xs) (e:cB ys) (r:k<xs.length) (h:xs.getD k 0<ys.getD k 0) (f:∀j,k+1<=j->j<xs.length->xs.getD j 0=ys.getD j 0):val xs<val ys:=by
 have key:∀m,k+1+m<=xs.length->val (xs.take<|k+1+m)<val (ys.take<|k+1+m):=by
  intro m
  induction m with
  | zero=>
   intro _
   have a:∀l:List Int,cB l->cB (l.take k):=λl i j=>by
    have:=i j;simp only[List.getD,mD];split
    .exact this
    simp
   have h1:=oW<|a xs d;have h2:=ep<|a ys e;rw[tz,po,po];rw[lD,lR<|by omega] at h1;generalize (4294967296:Int)^k=p at*;have h3:(xs.getD k 0+1)*p<=ys.getD k 0*p:=kO (by omega) (by have:=ep<|a xs d;omega);rw[kW,nS] at h3;omega
  | succ m o=>intro u;have h1:=o (by omega);rw[<-pW,po,po,f (k+1+m) (by omega)<|by omega];omega
 have:=key (xs.length - (k+1))<|by omega
 rwa [show k+1+(xs.length - (k+1))=xs.length by omega,lQ,n,lQ] at this
theorem FJ (i:cB xs) (a:cB ys) (f:bD ys) (r:xs.length<ys.length):val xs<val ys:=by
 obtain⟨m,e⟩:∃m,ys.length=m+1:=⟨ys.length - 1,by omega⟩;have h0:=f m e;have h1:=a m;have hv:=po ys m;rw[<-e,lQ] at hv
 have h:cB (ys.take m):=λj=>by
  have:=a j;simp only[List.getD,mD];split
  .exact this
  simp
 have h2:=ep h;have h3:=oW i;obtain⟨d,l⟩:∃d,m=xs.length+d:=⟨m - xs.length,by omega⟩
 have h4:(4294967296:Int)^xs.length<=4294967296^m:=by
  rw[l,mw];have n:(0:Int)<4294967296^d:=pH (by decide);have o:(0:Int)<4294967296^xs.length:=pH (by decide);have:=lr (by omega:(1:Int)<=4294967296^d) (by omega:(0:Int)<=4294967296^xs.length)
  rwa [qC] at this
 have h5:(1:Int)*4294967296^m<=ys.getD m 0*4294967296^m:=kO (by omega) (by have:(0:Int)<4294967296^m:=pH (by decide);omega);rw[nS] at h5;omega
theorem JH {a b:List Int} (d:cB a) (e:cB b):cB (a++b):=λj=>by
 by_cases h:j<a.length
 .have:=d j
  rwa [show (a++b).getD j 0=a.getD j 0 by simp[List.getD,lW h]]
 have:=e<|j - a.length
 rwa [show (a++b).getD j 0=b.getD (j - a.length) 0 by simp[List.getD,mz (by omega:a.length<=j)]]
theorem JI {a b:Nat} (h:a<=b):(4294967296:Int)^a<=4294967296^b:=by
 obtain⟨d,rfl⟩:∃d,b=a+d:=⟨b - a,by omega⟩;rw[mw];have:=lr (by have:=su d;omega:(1:Int)<=4294967296^d) (by have:=su a;omega:(0:Int)<=4294967296^a)
 rwa [qC] at this
theorem FK (d:cB xs) (e:cB ys) (a:bD xs) (h:val xs<=val ys):xs.length<=ys.length:=by
 rcases kS ys.length xs.length with h1 | h1
 .have:=FJ e d a h1;omega
 exact h1
theorem MO (a:cB xs) (d:bD xs) (h1:xs.length=k+1):4294967296^k<=val xs:=by have h2:=d k h1;have h3:=a k;have h4:=zG h1;have h5:=ep<|ms a k;have h6:=kO (by omega:1<=xs.getD k 0) (by have:=su k;omega:(0:Int)<=4294967296^k);omega
theorem MP (d:cB xs) (a:bD xs) (h:val xs<4294967296^k):xs.length<=k:=by
 rcases kS k xs.length with h1 | h1
 .obtain⟨m,hm⟩:∃m,xs.length=m+1:=⟨xs.length - 1,by omega⟩;have h2:=MO d a hm;have h3:=JI (by omega:k<=m);omega
 exact h1
theorem Es:∀(xs:List Int) (k:Nat),k<xs.length->val (xs.drop k)=xs.getD k 0+4294967296*val (xs.drop<|k+1)
 | [],k,h=>by simp at h
 | x::l,0,h=>by simp[val]
 | x::l,k+1,h=>by have:=Es l k (by simpa using h);simpa using this
structure Smb (xs:List Int) (B:Int) (k:Nat) (os:List Int) (r:Int):Prop where
 len:os.length=xs.length
 dig:cB os
 r0:0<=r/\r<B
 eq:val (xs.drop k)=B*val (os.drop k)+r
theorem Smb.zero (xs:List Int) {B:Int} (a:0<B):Smb xs B xs.length (List.replicate xs.length 0) 0:=by
 refine⟨by simp,λj=>?_,⟨by decide,a⟩,?_⟩
 .have:(List.replicate xs.length (0:Int)).getD j 0=0:=by simp only[ll,nK];split<;>rfl
  rw[this];omega
 rw[sL,pQ<|by simp];simp[val]
theorem Smb.step {os:List Int} {B r:Int} (h:Smb xs B (k+1) os r) (a:k<xs.length) (e:cB xs) (j:S=r*4294967296+xs.getD k 0):Smb xs B k (os.set k<|S / B) (S % B):=by
 have u:=h.r0;have d:0<B:=by omega
 have w:=e k;have f:0<=S:=by omega
 have l:=mt f (by omega:0<=B);have n:S / B<4294967296:=lU d (by omega);refine⟨by simp[h.len],BJ h.dig<|by omega,⟨nt _<|by omega,mg _ d⟩,?_⟩;have o:=l9 S B;have i:=h.eq;rw[Es xs k a,Es (os.set k<|S / B) k<|by simp[h.len,a],Dd<|by rw[h.len];exact a,JA,i,lT,lT,<-kH,<-kH,kI 4294967296 B];omega
structure Dvb (u0 vs:List Int) (k:Nat) (us q:List Int):Prop where
 len:us.length=u0.length
 dig:cB us
 qlen:q.length+vs.length=u0.length
 qdig:cB q
 qz:∀i,i<k->q.getD i 0=0
 eq:val us+val vs*val q=val u0
 top:val (us.drop k)<val vs
theorem Dvb.window (h:Dvb u0 vs (k+1) us q) (f:k<q.length) (dv:cB vs):
  val us=val (us.take k)+4294967296^k*val ((us.drop k).take<|vs.length+1)/\val (us.drop<|k+(vs.length+1))=0/\val ((us.drop k).take<|vs.length+1)<val vs*4294967296:=by
 have hq:=h.qlen;have i:=h.len;have h1:=Es us k (by omega);have h2:=(h.dig k);have h3:=h.top;have d:us.drop k=(us.drop k).take (vs.length+1)++us.drop (k+(vs.length+1)):=by rw[<-rY];exact(lS _ _).symm
 have e:((us.drop k).take<|vs.length+1).length=vs.length+1:=by rw[lD,nN];omega
 have h4:val (us.drop k)=val ((us.drop k).take<|vs.length+1)+4294967296^(vs.length+1)*val (us.drop<|k+(vs.length+1)):=by
  conv=>lhs;rw[d]
  rw[zB,e]
 have c0:=ep<|Av h.dig<|k+(vs.length+1);have w0:=ep<|ms (Av h.dig k)<|vs.length+1;have hv:=oW dv;have a:val (us.drop<|k+(vs.length+1))=0:=by refine GU (su<|vs.length+1) c0 (v:=val<|us.drop k) (by omega) ?_;rw[lH];omega
 have h5:val us=val (us.take k)+4294967296^k*val (us.drop k):=by
  conv=>lhs;rw[<-lS k us]
  rw[zB,lD,lR<|by omega]
 rw[a,nY,mR] at h4;exact⟨by rw[h5,h4],a,by omega⟩
theorem Dvb.step {W:List Int} (h:Dvb u0 vs (k+1) us q) (d:k<q.length) (dv:cB vs) (hv:0<val vs) (l:W.length=vs.length+1) (j:cB W)
  (a:val W=val ((us.drop k).take<|vs.length+1) % val vs):
  Dvb u0 vs k (us.take k++W++us.drop (k+(vs.length+1))) (q.set k<|val ((us.drop k).take<|vs.length+1) / val vs):=by
 obtain⟨h1,h2,h3⟩:=h.window d dv;have hq:=h.qlen;have y:=h.len;have w0:=ep<|ms (Av h.dig k)<|vs.length+1;generalize u:val ((us.drop k).take<|vs.length+1)=X at*;have n:0<=X / val vs:=mt w0 (by omega);have w:X / val vs<4294967296:=lU hv (by rwa [kI] at h3);have o:=l9 X<|val vs;have r:=mg X hv;have f:(us.take k).length=k:=by rw[lD,lR<|by omega]
 have e:=GB q k (X / val vs) d;rw[h.qz k<|by omega,sI] at e;refine⟨?_,JH (JH (ms h.dig k) j)<|Av h.dig _,by simpa using hq,BJ h.qdig ⟨n,by omega⟩,λi hi=>?_,?_,?_⟩
 .rw[kY,kY,f,l,nN];omega
 .rw[FA<|by omega];exact h.qz i<|by omega
 .have he:=h.eq;rw[mJ,zB,zB,h2,nY,mR,f,a,e,<-he,h1,lT];have e1:4294967296^k*X=4294967296^k*(X % val vs)+val vs*(X / val vs*4294967296^k):=by have:val vs*(X / val vs*4294967296^k)=4294967296^k*(val vs*(X / val vs)):=(by rw[<-kH,kI]);rw[this,<-lT,o]
  omega
 rw[mJ,qD<|by omega,pQ<|by omega,mL,zB,h2,nY,mR,a];exact r
theorem Dvb.zero {a:Nat} (e:a+vs.length=u0.length) (du:cB u0) (ht:val (u0.drop a)<val vs):Dvb u0 vs a u0 (List.replicate a 0):=by
 have d:∀j,(List.replicate a (0:Int)).getD j 0=0:=λj=>by simp only[ll,nK];split<;>rfl
 refine⟨rfl,du,by simpa using e,λj=>by rw[d];omega,λi _=>d i,?_,ht⟩
 have hv:∀n:Nat,val (List.replicate n 0)=0:=by
  intro n
  induction n with
  | zero=>rfl
  | succ n f=>simp[nV,val,f]
 rw[hv,nY,mR]
theorem Dvb.done (h:Dvb u0 vs 0 us q) (hv:0<val vs) (dv:cB vs) (e:vs.length<=us.length):val q=val u0 / val vs/\val (us.take vs.length)=val u0 % val vs:=by
 have ht:=h.top;have d:=h.eq;rw[qI] at ht;have h0:=ep h.dig
 have a:val us=val (us.take vs.length)+4294967296^vs.length*val (us.drop vs.length):=by
  conv=>lhs;rw[<-lS vs.length us]
  rw[zB,lD,lR e]
 have f:val (us.drop vs.length)=0:=by
  refine GU (su vs.length) (ep<|Av h.dig _) (v:=val us) ?_ ?_
  .have:=ep<|ms h.dig vs.length;omega
  have:=oW dv;omega
 rw[f,nY,mR] at a;rw[<-d,<-a];refine⟨?_,?_⟩
 .rw[pK _ _<|by omega,mY h0 ht,qY]
 rw[nl,pm h0 ht]
structure Shb (xs:List Int) (s k:Nat) (out:List Int) (cy:Int):Prop where
 len:out.length=k
 dig:cB out
 c:0<=cy/\cy<2^s
 eq:val out+cy*4294967296^k=val (xs.take k)*2^s
theorem Shb.zero (xs:List Int) (s:Nat):Shb xs s 0 [] 0:=⟨rfl,λj=>by simp[List.getD],⟨by decide,i7 s⟩,by simp[val]⟩
theorem Shb.step {a:Int} (h:Shb xs s k out a) (f:cB xs) (i:S=xs.getD k 0*2^s+a):Shb xs s (k+1) (out++[S % 4294967296]) (S / 4294967296):=by
 have d:=f k;have j:=h.c;have n:=i7 s;have h0:0<=xs.getD k 0*2^s:=nj d.1 (by omega);have h1:xs.getD k 0*2^s<=4294967295*2^s:=kO d.2 (by omega);refine⟨by simp[h.len],JF h.dig<|by omega,by omega,?_⟩;have l:=h.eq;rw[JG,po,h.len,lH,kW]
 have e:S*4294967296^k=S % 4294967296*4294967296^k+S / 4294967296*(4294967296^k*4294967296):=by
  have h1:S=S % 4294967296+4294967296*(S / 4294967296):=by omega
  generalize (4294967296:Int)^k=p
  calc S*p=(S % 4294967296+4294967296*(S / 4294967296))*p:=by rw[<-h1]
   _=_:=by rw[kW,kI 4294967296,kH,kI 4294967296 p]
 have e2:S*4294967296^k=xs.getD k 0*4294967296^k*2^s+a*4294967296^k:=by rw[i,kW,kH,kI<|2^s,<-kH]
 omega
def uW (x y:Int) (s:Nat):Int:=(x+y*4294967296) / 2^s % 4294967296
theorem Aw {y:Int} (d:0<=x/\x<=4294967295) (_e:0<=y/\y<=4294967295) (a:s<=31):uW x y s*2^s=x - x % 2^s+y % 2^s*4294967296:=by
 unfold uW
 rcases (by omega:s=0\/s=1\/s=2\/s=3\/s=4\/s=5\/s=6\/s=7\/s=8\/s=9\/s=10\/s=11\/s=12\/s=13\/s=14\/s=15\/s=16\/s=17\/s=18\/s=19\/s=20\/s=21\/s=22\/s=23\/s=24\/s=25\/s=26\/s=27\/s=28\/s=29\/s=30\/s=31) with rfl | rfl | rfl | rfl | rfl | rfl | rfl | rfl | rfl | rfl | rfl | rfl | rfl | rfl | rfl | rfl | rfl | rfl | rfl | rfl | rfl | rfl | rfl | rfl | rfl | rfl | rfl | rfl | rfl | rfl | rfl | rfl<;>omega
structure Srb (xs:List Int) (s k:Nat) (out:List Int):Prop where
 len:out.length=k
 dig:cB out
 eq:val out*2^s=val (xs.take k) - xs.getD 0 0 % 2^s+xs.getD k 0 % 2^s*4294967296^k
theorem Srb.zero (xs:List Int) (s:Nat):Srb xs s 0 []:=⟨rfl,λj=>by simp[List.getD],by simp[val];exact(Int.add_left_neg _).symm⟩
theorem Srb.step (h:Srb xs s k out) (a:cB xs) (f:s<=31):Srb xs s (k+1) (out++[uW (xs.getD k 0) (xs.getD (k+1) 0) s]):=by
 have d:=h.eq;have h1:=Aw (a k) (a<|k+1) f;refine⟨by simp[h.len],JF h.dig<|by unfold uW;omega,?_⟩;rw[JG,po,h.len,lH,kW,d,kH,kI (4294967296^k)<|2^s,<-kH,h1,kW,pO];have e:xs.getD (k+1) 0 % 2^s*4294967296*4294967296^k=xs.getD (k+1) 0 % 2^s*(4294967296^k*4294967296):=by rw[kH,kI 4294967296]
 omega
theorem Srb.done (h:Srb xs s xs.length out) (i:cB xs) (l:s<=31):val out=val xs / 2^s:=by
 have a:=h.eq;have f:xs.getD xs.length 0=0:=by simp[List.getD]
 rw[lQ,f,Int.zero_emod,qg,mR] at a;have j:=i7 s
 have h2:val xs % 2^s=xs.getD 0 0 % 2^s:=by
  match xs with
  | []=>rfl
  | x::r=>show(x+4294967296*val r) % 2^s=x % 2^s;obtain⟨d,e⟩:∃d,32=s+d:=⟨32 - s,by omega⟩;have:(4294967296:Int)=2^s*2^d:=(by rw[<-mw,<-e];decide);rw[this,kH,nl]
 rw[<-h2] at a;have h3:=l9 (val xs)<|2^s;have h4:val out*2^s=val xs / 2^s*2^s:=by rw[a,kI<|val xs / 2^s];omega
 exact sA (by omega) h4
theorem MQ (h:us.length=m+3):val us=val (us.take m)+((us.getD (m+2) 0*4294967296+us.getD (m+1) 0)*4294967296+us.getD m 0)*4294967296^m:=by have h1:=po us m;have h2:val us=val (us.take<|m+1)+(us.getD (m+2) 0*4294967296+us.getD (m+1) 0)*4294967296^(m+1):=FI (us:=us) (m:=m+1) h;rw[h1,lH] at h2;rw[h2,kW _<|us.getD m 0,kH _ 4294967296,kI<|4294967296^m];omega
structure Gs (us vs:List Int) (m:Nat) (G R:Int):Prop where
 ge:val us / val vs<=G
 g0:0<=G
 r0:0<=R
 eq:G*vs.getD (m+1) 0+R=us.getD (m+2) 0*4294967296+us.getD (m+1) 0
theorem Gs.zero (du:cB us) (dv:cB vs) (hu:us.length=m+3) (hv:vs.length=m+2) (ht:0<vs.getD (m+1) 0):
  Gs us vs m ((us.getD (m+2) 0*4294967296+us.getD (m+1) 0) / vs.getD (m+1) 0) ((us.getD (m+2) 0*4294967296+us.getD (m+1) 0) % vs.getD (m+1) 0):=by
 have h1:=du<|m+2;have h2:=du<|m+1;refine⟨RC du dv hu hv ht,mt (by omega)<|by omega,nt _<|by omega,?_⟩;generalize us.getD (m+2) 0*4294967296+us.getD (m+1) 0=top;generalize vs.getD (m+1) 0=d1;have:=l9 top d1;rw[kI<|top / d1];omega
theorem G8 (dv:cB vs) (hv:vs.length=m+2) (ht:0<vs.getD (m+1) 0):0<val vs:=by have h1:=zG (vs:=vs) (m:=m+1) hv;have h2:=ep<|ms dv<|m+1;have h3:=pP ht<|su<|m+1;omega
theorem Gs.down (h:Gs us vs m G R) (du:cB us) (dv:cB vs) (hu:us.length=m+3) (hv:vs.length=m+2) (ht:0<vs.getD (m+1) 0) (hq:val us<val vs*4294967296)
  (a:4294967296<=G\/R*4294967296+us.getD m 0<G*vs.getD m 0):Gs us vs m (G - 1) (R+vs.getD (m+1) 0)/\1<=G:=by
 have e:=G8 dv hv ht;have u0:=ep du;have n:0<=val us / val vs:=mt u0<|by omega
 have j:val us / val vs<=G - 1:=by
  rcases a with a | a
  .have:val us / val vs<4294967296:=lU e (by rwa [kI] at hq);omega
  have e1:=MQ hu;have e2:=FI (us:=vs) (m:=m) hv;have l1:=oW<|ms du m;have l2:=ep<|ms dv m;rw[lD,lR<|by omega] at l1;have f:=h.eq;have i:=h.g0;have l:=su m;generalize us.getD (m+2) 0*4294967296+us.getD (m+1) 0=top at*;generalize us.getD m 0=w0 at*;generalize vs.getD (m+1) 0=d1 at*;generalize vs.getD m 0=d at*;generalize (4294967296:Int)^m=p at*;have h1:top*4294967296+w0+1<=G*(d1*4294967296+d):=(by rw[lT,<-kH,<-f];omega);have h2:(top*4294967296+w0+1)*p<=G*(d1*4294967296+d)*p:=kO h1 (by omega);rw[kW _ 1 p,nS] at h2;have h3:G*(d1*4294967296+d)*p<=G*val vs:=(by rw[e2,lT G<|val<|vs.take m,kH G];have:=nj i l2;omega);have h4:val us<G*val vs:=(by omega);have:=lU e h4;omega
 refine⟨⟨j,by omega,by have:=h.r0;omega,?_⟩,by omega⟩;rw[<-h.eq,pO];omega
theorem Gs.good (h:Gs us vs m G R) (du:cB us) (dv:cB vs) (hu:us.length=m+3) (hv:vs.length=m+2) (ht:0<vs.getD (m+1) 0)
  (h1:G<4294967296) (h2:G*vs.getD m 0<=R*4294967296+us.getD m 0):G<=val us / val vs+1:=by
 have i:=G8 dv hv ht;have e1:=MQ hu;have e2:=FI (us:=vs) (m:=m) hv;have l1:=ep<|ms du m;have l2:=ep<|ms dv m;have f:=oW<|ms dv m;rw[lD,lR<|by omega] at f;have e:=h.eq;have r:=h.g0;have w:=su m;have d:=dv m;have o:=l9 (val us)<|val vs;have u:=mg (val us) i;generalize us.getD (m+2) 0*4294967296+us.getD (m+1) 0=top at*;generalize us.getD m 0=w0 at*;generalize vs.getD (m+1) 0=d1 at*;generalize vs.getD m 0=a at*;generalize (4294967296:Int)^m=p at*;have h3:G*(d1*4294967296+a)<=top*4294967296+w0:=by rw[lT,<-kH,<-e];omega
 have h4:G*(d1*4294967296+a)*p<=(top*4294967296+w0)*p:=kO h3 (by omega);have h5:G*val (vs.take m)<=4294967295*val (vs.take m):=kO (by omega) l2;have h6:1*(4294967296*p)<=d1*(4294967296*p):=kO (by omega) (by omega);have h7:0<=a*p:=nj d.1 (by omega);have l:d1*(4294967296*p)+a*p<=val vs:=by rw[e2,kW,kH];omega
 have n:G*val vs=G*val (vs.take m)+G*(d1*4294967296+a)*p:=by rw[e2,lT,kH]
 have j:G*val vs<val us+val vs:=by omega
 rcases (by omega:G<=val us / val vs+1\/val us / val vs+2<=G) with h | h
 .exact h
 exfalso;have:=kO h (by omega:0<=val vs);rw[kW,kI<|val us / val vs] at this;omega
theorem Gs.big (h:Gs us vs m G R) (du:cB us) (dv:cB vs) (hu:us.length=m+3) (hv:vs.length=m+2) (ht:0<vs.getD (m+1) 0) (hq:val us<val vs*4294967296)
  (l:4294967296<=R):G<4294967296/\G*vs.getD m 0<=R*4294967296+us.getD m 0:=by
 have e1:val us=val (us.take<|m+1)+(us.getD (m+2) 0*4294967296+us.getD (m+1) 0)*4294967296^(m+1):=FI (us:=us) (m:=m+1) hu;have e2:=zG (vs:=vs) (m:=m+1) hv;have l1:=ep<|ms du<|m+1;have f:=oW<|ms dv<|m+1;rw[lD,lR<|by omega] at f;have n:=h.eq;have e:=h.g0;have o:=su<|m+1;have d:=dv m;have j:=du m;generalize us.getD (m+2) 0*4294967296+us.getD (m+1) 0=top at*;generalize vs.getD (m+1) 0=d1 at*;generalize vs.getD m 0=i at*;generalize us.getD m 0=w0 at*;generalize (4294967296:Int)^(m+1)=p at*;have h1:top*p<(d1+1)*4294967296*p:=by rw[kH,kI 4294967296 p,<-kH,kW,nS];omega
 have h2:top<(d1+1)*4294967296:=sB h1<|by omega
 have h3:G<4294967296:=by
  rcases (by omega:G<4294967296\/4294967296<=G) with h | h
  .exact h
  exfalso;have:=kO h (by omega:0<=d1);omega
 have h4:=BK (a:=G) (b:=i) ⟨e,by omega⟩ d;exact⟨h3,by omega⟩
structure Mb (us vs:List Int) (g:Int) (i:Nat) (cur:List Int) (c b:Int):Prop where
 len:cur.length=us.length
 dig:cB cur
 c0:0<=c/\c<=4294967295
 b0:b=0\/b=1
 eq:val (cur.take i) - (c+b)*4294967296^i=val (us.take i) - g*val (vs.take i)
 rest:∀k,i<=k->cur.getD k 0=us.getD k 0
theorem Mb.zero (h:cB us):Mb us vs g 0 us 0 0:=⟨rfl,h,by omega,.inl rfl,by simp[val],λ_ _=>rfl⟩
theorem MR {w:Int} (a:0<=g/\g<=4294967295) (d:0<=w/\w<=4294967295) (e:0<=c/\c<=4294967295):0<=g*w+c/\g*w+c<=18446744069414584320:=by have h1:=BK a d;omega
theorem Mb.step {T:Int} {i:Nat} (h:Mb us vs g i cur c b) (du:cB us) (dv:cB vs) (l:0<=g/\g<=4294967295) (hi:i<us.length) (a:S=g*vs.getD i 0+c) (e:T=us.getD i 0 - S % 4294967296 - b):
  Mb us vs g (i+1) (cur.set i<|T % 4294967296) (S / 4294967296) (if T<0 then 1 else 0):=by
 have j:=MR l (dv i) h.c0;rw[<-a] at j;have hu:=du i;have w:=h.b0;refine⟨by simp[h.len],BJ h.dig<|by omega,by omega,by split<;>simp,?_,λk u=>?_⟩
 .have he:=h.eq;rw[po,po us,po vs,Eh,Dd<|by rw[h.len];exact hi,lH]
  have f:T % 4294967296=T+(if T<0 then 1 else 0)*4294967296:=by split<;>omega
  have d:S=S % 4294967296+S / 4294967296*4294967296:=by omega
  have n:g*vs.getD i 0=S - c:=by omega
  generalize r:(if T<0 then(1:Int) else 0)=B at*
  rw[f,lT g,<-kH g,n];generalize (4294967296:Int)^i=p at*;have e1:(T+B*4294967296)*p=us.getD i 0*p - S % 4294967296*p - b*p+B*(p*4294967296):=by rw[e,kW,pO,pO,kH B,kI 4294967296 p]
  have e2:(S / 4294967296+B)*(p*4294967296)=S / 4294967296*(p*4294967296)+B*(p*4294967296):=by rw[kW]
  have o:(S - c)*p=S % 4294967296*p+S / 4294967296*(p*4294967296) - c*p:=by
   conv=>lhs;rw[d]
   rw[pO,kW,kH,kI 4294967296 p]
  rw[kW] at he;omega
 rw[FA<|by omega];exact h.rest k<|by omega
theorem Mb.last {T:Int} {n:Nat} (h:Mb us vs g n cur c b) (du:cB us) (hu:us.length=n+1) (hv:vs.length=n) (d:T=us.getD n 0 - c - b):
  (cur.set n<|T % 4294967296).length=n+1/\cB (cur.set n<|T % 4294967296)/\val (cur.set n<|T % 4294967296)=val us - g*val vs+(if T<0 then 4294967296^(n+1) else 0):=by
 have h1:=h.len;have h2:=h.eq;have h3:=h.c0;have h4:=h.b0;have h5:=du n;refine⟨by simp;omega,BJ h.dig<|by omega,?_⟩;have e1:=zG (vs:=cur.set n<|T % 4294967296) (m:=n) (by simp;omega);have e2:=zG (vs:=us) (m:=n) hu;rw[Eh,Dd<|by omega] at e1;rw[lI (by omega:vs.length<=n)] at h2
 have e:T % 4294967296=T+(if T<0 then 4294967296 else 0):=by split<;>omega
 rw[e1,e2,e,lH];generalize (4294967296:Int)^n=p at*;have a:T*p=us.getD n 0*p - (c+b)*p:=by rw[d,Int.sub_sub,pO]
 split
 .rw[kW,a,kI p];omega
 rw[mR,a];omega
structure Ab (c0 vs:List Int) (i:Nat) (cur:List Int) (c:Int):Prop where
 len:cur.length=c0.length
 dig:cB cur
 c01:c=0\/c=1
 eq:val (cur.take i)+c*4294967296^i=val (c0.take i)+val (vs.take i)
 rest:∀k,i<=k->cur.getD k 0=c0.getD k 0
theorem Ab.zero (h:cB c0):Ab c0 vs 0 c0 0:=⟨rfl,h,.inl rfl,by simp[val],λ_ _=>rfl⟩
theorem Ab.step {i:Nat} (h:Ab c0 vs i cur c) (du:cB c0) (dv:cB vs) (hi:i<c0.length) (a:S=c0.getD i 0+vs.getD i 0+c):
  Ab c0 vs (i+1) (cur.set i<|S % 4294967296) (S / 4294967296):=by
 have hu:=du i;have hv:=dv i;have e:=h.c01;refine⟨by simp[h.len],BJ h.dig<|by omega,by omega,?_,λk d=>?_⟩
 .have he:=h.eq;rw[po,po c0,po vs,Eh,Dd<|by rw[h.len];exact hi,lH];generalize (4294967296:Int)^i=p at*
  have e1:S*p=S % 4294967296*p+S / 4294967296*(p*4294967296):=by
   have h1:S=S % 4294967296+4294967296*(S / 4294967296):=by omega
   calc S*p=(S % 4294967296+4294967296*(S / 4294967296))*p:=by rw[<-h1]
    _=_:=by rw[kW,kI 4294967296,kH,kI 4294967296 p]
  have e2:S*p=c0.getD i 0*p+vs.getD i 0*p+c*p:=by rw[a,kW,kW]
  omega
 rw[FA<|by omega];exact h.rest k<|by omega
theorem Ab.last {n:Nat} (h:Ab c0 vs n cur c) (du:cB c0) (dv:cB vs) (hu:c0.length=n+1) (hv:vs.length=n) (j:val c0+val vs=R+4294967296^(n+1)) (l:0<=R) (_o:R<val vs):
  (cur.set n<|(c0.getD n 0+c) % 4294967296).length=n+1/\cB (cur.set n<|(c0.getD n 0+c) % 4294967296)/\val (cur.set n<|(c0.getD n 0+c) % 4294967296)=R:=by
 have h1:=h.len;have h2:=h.eq;have h4:=h.c01;have h5:=du n;have a:cB (cur.set n<|(c0.getD n 0+c) % 4294967296):=BJ h.dig (by omega);refine⟨by simp;omega,a,?_⟩;have e1:=zG (vs:=cur.set n<|(c0.getD n 0+c) % 4294967296) (m:=n) (by simp;omega);have e2:=zG (vs:=c0) (m:=n) hu;rw[Eh,Dd<|by omega] at e1;rw[lI (by omega:vs.length<=n)] at h2;have f:=oW a;have b0:=ep a;have i:=oW dv;rw[show (cur.set n<|(c0.getD n 0+c) % 4294967296).length=n+1 by simp;omega] at f;rw[hv] at i;generalize val (cur.set n<|(c0.getD n 0+c) % 4294967296)=V at*;rw[lH] at*;generalize (4294967296:Int)^n=p at*
 rcases (by omega:c0.getD n 0+c<4294967296\/c0.getD n 0+c=4294967296) with e | e
 .exfalso;have d:(c0.getD n 0+c) % 4294967296=c0.getD n 0+c:=by omega
  rw[d,kW] at e1;omega
 have d:(c0.getD n 0+c) % 4294967296=0:=by omega
 have h6:(c0.getD n 0+c)*p=p*4294967296:=by rw[e,kI]
 rw[kW] at h6;rw[d,qg] at e1;omega
theorem x9 {a:Int} (k:Nat) (d:0<=a) (e:0<=b):cJ (2^k*a) (2^k*b)=2^k*cJ a b:=by obtain⟨A,rfl⟩:=lZ d;obtain⟨B,rfl⟩:=lZ e;unfold cJ;rw[show (2:Int)^k*(A:Int)=((2^k*A:Nat):Int) by simp,show(2:Int)^k*(B:Int)=((2^k*B:Nat):Int) by simp];rw[pA,pA,pA,pA,Nat.gcd_mul_left];simp
theorem RD (m j:Nat):Nat.gcd (2*m+1) (2^j)=1:=by
 have h2:Nat.gcd (2*m+1) 2=1:=by rw[tA,Nat.gcd_rec];simp[Nat.add_mod]
 exact Nat.Coprime.pow_right j h2
theorem ye {X':Int} {j:Nat} (h0:0<=X') (h:j=0\/∃m:Nat,X'=2*m+1):cJ X' (2^j)=1:=by
 rcases h with rfl | ⟨m,rfl⟩
 .unfold cJ;simp
 unfold cJ;rw[show (2:Int)^j=((2^j:Nat):Int) by simp,show(2:Int)*(m:Int)+1=((2*m+1:Nat):Int) by simp,pA,pA,RD];rfl
def TwosIs (x:Int) (t:Nat):Prop:=∃m:Nat,x=2^t*(2*m+1)
theorem TwosIs.pos (h:TwosIs x t):0<x:=by obtain⟨m,rfl⟩:=h;exact pP (i7 t)<|by omega
theorem TwosIs.div (h:TwosIs x t) (a:k<=t):x=2^k*(x / 2^k)/\TwosIs (x / 2^k) (t - k):=by
 obtain⟨m,rfl⟩:=h;obtain⟨d,rfl⟩:∃d,t=k+d:=⟨t - k,by omega⟩;have f:=i7 k;have e:(2:Int)^(k+d)*(2*(m:Int)+1)=2^k*(2^d*(2*(m:Int)+1)):=by rw[mw,kH]
 rw[e,qZ _<|by omega];exact⟨rfl,m,by rw[qp]⟩
theorem TwosIs.unique (h:TwosIs x s) (j:TwosIs x t):s=t:=by
 have key:∀{s t:Nat} {a b:Nat},s<t->(2:Int)^s*(2*(a:Int)+1)=2^t*(2*(b:Int)+1)->False:=by intro s t a b n i;obtain⟨d,rfl⟩:∃d,t=s+(d+1):=⟨t - s - 1,by omega⟩;have l:=i7 s;rw[mw,kH] at i;have h2:=Int.eq_of_mul_eq_mul_left (by omega) i;rw[lH,kH,kI<|2^d,kH] at h2;omega
 obtain⟨a,e⟩:=h;obtain⟨b,f⟩:=j
 rcases qE s t with h | h | h
 .exact(key h<|e.symm.trans f).elim
 .exact h
 exact(key h<|f.symm.trans e).elim
theorem TwosIs.pow (h:TwosIs x t) (d:x<2^(t+1)):x=2^t:=by
 obtain⟨m,rfl⟩:=h;have e:=i7 t;rw[lH] at d
 have a:m=0:=by
  rcases (by omega:m=0\/1<=m) with h | h
  .exact h
  exfalso;have:=lr (by omega:(2:Int)<=2*(m:Int)+1) (by omega:(0:Int)<=2^t);omega
 subst a;simp
theorem JJ {a:Int} (d:0<=a) (e:0<=b):(∃p:Int,a=cJ a b*p)/\∃p:Int,b=cJ a b*p:=by
 obtain⟨A,rfl⟩:=lZ d;obtain⟨B,rfl⟩:=lZ e;unfold cJ;rw[pA,pA];obtain⟨p,f⟩:=Nat.gcd_dvd_left A B;obtain⟨r,h⟩:=Nat.gcd_dvd_right A B;refine⟨⟨p,?_⟩,r,?_⟩
 .conv=>lhs;rw[f]
  simp
 conv=>lhs;rw[h]
 simp
theorem RE {X Y:Int} (f:0<X) (i:0<Y) (ex:X=2^k*(X / 2^k)) (e:Y=2^k*(Y / 2^k)):
  X / cJ X Y=X / 2^k / cJ (X / 2^k) (Y / 2^k)/\Y / cJ X Y=Y / 2^k / cJ (X / 2^k) (Y / 2^k)/\0<X / 2^k/\0<Y / 2^k:=by
 have d:=i7 k
 have h1:0<X / 2^k:=by
  rcases (by omega:0<X / 2^k\/X / 2^k<=0) with h | h
  .exact h
  have:=pt (by omega:(0:Int)<=2^k) h;omega
 have h2:0<Y / 2^k:=by
  rcases (by omega:0<Y / 2^k\/Y / 2^k<=0) with h | h
  .exact h
  have:=pt (by omega:(0:Int)<=2^k) h;omega
 generalize X / 2^k=a at*;generalize Y / 2^k=b at*;subst ex e;rw[x9 k (by omega)<|by omega,sS _ _ d,sS _ _ d];exact⟨rfl,rfl,h1,h2⟩
