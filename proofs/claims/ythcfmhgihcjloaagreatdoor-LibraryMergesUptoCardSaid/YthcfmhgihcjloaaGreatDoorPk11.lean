import Derived.Test.YthcfmhgihcjloaaGreatDoorPk10
namespace Go.Proofs.YthcfmhgihcjloaaGreatDoor
open Go Go.RowKit Tryz
set_option maxRecDepth 100000
set_option maxHeartbeats 16000000
variable {w:World} {v a b:Value} {g:Bool} {n d:Int} {ds xs ys zs:List Int} {N cap cap' k:Nat} {q q':Option Addr}
def QAt (w:World) (v:Value) (g:Bool) (n d:Int):Prop:=
 ∃a b ns ds,v=.agg #[.bool g,a,b]/\Sl16 w a ns/\bD ns/\bA ns=n/\Sl16 w b ds/\bD ds/\bA ds=d
theorem QAt.below {w':World} (h:QAt w v g n d) (e:Below w.1.size w w'):QAt w' v g n d:=by obtain⟨a,b,f,ds,h1,h2,h3,h4,h5,h6,h7⟩:=h;exact⟨a,b,f,ds,h1,h2.below e,h3,h4,h5.below e,h6,h7⟩
def cI (g:Bool) (n d:Int):Bool:=if n=0\/d=0 then false else g
def db (n d:Int):Int:=if n=0\/d=0 then 0 else n / cJ n d
def dg (n d:Int):Int:=if n=0\/d=0 then 1 else d / cJ n d
theorem xR {a:Int}:cJ a 1=1:=by unfold cJ;simp
theorem Dn {a b:Int} (e:0<a):0<cJ a b:=by unfold cJ;have:=Nat.gcd_pos_of_pos_left b.toNat (by omega:0<a.toNat);omega
theorem Ru (h1:ds.length=1):bA ds=ds.getD 0 0:=by have:=De (m:=0) h1;rw[this];simp[bA]
def QNew (w:World) (N:Nat):Prop:=w.1[N]?=some (.cells zC 80 (0,0))
theorem QNew.made (w:World):QNew (w.alloc<|.cells zC 80) w.1.size:=lK w _
theorem QNew.below {w':World} (h:QNew w N) (e:Below w.1.size w w'):QNew w' N:=by unfold QNew at h ⊢;rw[e.block N (kG.1 h).1];exact h
theorem QNew.c0 (h:QNew w N):w.cell? ⟨N,0,none⟩=some (.bool false):=by unfold QNew at h;simp[World.cell?,h]
theorem QNew.c1 (h:QNew w N):w.cell? ⟨N,1,none⟩=some (.slice none 0 0):=by unfold QNew at h;simp[World.cell?,h]
theorem QNew.c2 (h:QNew w N):w.cell? ⟨N,2,none⟩=some (.slice none 0 0):=by unfold QNew at h;simp[World.cell?,h]
theorem QNew.fr (h:QNew w N) (j:Nat):w.frozen? ⟨N,j,none⟩=false:=by unfold QNew at h;simp[World.frozen?,h]
theorem QNew.no (h:QNew w N) (j:Nat) (x:Int):w.cell? ⟨N,j,none⟩≠some (.int .u32 x):=by
 unfold QNew at h;simp only[World.cell?,h]
 match j with
 | 0=>simp
 | 1=>simp
 | 2=>simp
 | j+3=>simp
theorem Sl16.notQ (h:Sl16 w v xs) (j:QNew w N):Sl16N N w v xs:=by
 obtain⟨h1,h2,q,cap,h3,h4,h5⟩:=h;refine⟨h1,h2,q,cap,h3,h4,?_⟩;by_cases f:xs=[]
 .exact .inl f
 rcases h5 with h5 | ⟨b,o,e,l,i⟩
 .exact absurd h5 f
 refine .inr ⟨b,o,e,l,?_,i⟩;rintro rfl;exact j.no _ _<|i 0<|lG.2 f
theorem FD (h:QNew w N) (e f i:Value):(((w.setCell ⟨N,0,none⟩ e).setCell ⟨N,1,none⟩ f).setCell ⟨N,2,none⟩ i).rangeAt N 0 [e,f,i]/\Sav N w (((w.setCell ⟨N,0,none⟩ e).setCell ⟨N,1,none⟩ f).setCell ⟨N,2,none⟩ i):=by
 refine⟨λj v hv=>?_,((Sav.of<|kE _ _).setCell 0 e |>.setCell 1 f).setCell 2 i⟩
 match j,hv with
 | 0,hv=>simp only[mK,mc] at hv;subst hv;rw[lY _ _ _ _<|by simp,lY _ _ _ _<|by simp,nZ _ _ _ h.c0]
 | 1,hv=>simp only[pl,mK,mc] at hv;subst hv;rw[lY _ _ _ _<|by simp,nZ _ _ _<|by rw[lY _ _ _ _<|by simp];exact h.c1]
 | 2,hv=>simp only[pl,mK,mc] at hv;subst hv;rw[nZ _ _ _<|by rw[lY _ _ _ _<|by simp,lY _ _ _ _<|by simp];exact h.c2]
theorem Do:∃d,prog.underlying 80=some d/\d.isRow=true:=⟨_,underlying80,rfl⟩
theorem uN:(prog.info? 80).map (·.size)=some 3:=by kernel_rfl
theorem MJ {m n:Nat} (h:((m:Int)==0)=true\/((m:Int)==0)=false/\((n:Int)==0)=true):
  cN 59 (qA g q m cap q' n cap') w λe w'=>∃v,e=.returned v/\QAt w' v false 0 1/\Below w.1.size w w':=by
 have E:=λz=>Fy z 1 (by omega) (by omega);have o:=QNew.made w;have u:Below w.1.size w (w.alloc<|.cells zC 80):=cU w _;obtain⟨C,hu,D⟩:=Do
 have key:∀l r zs,Below (w.alloc<|.cells zC 80).1.size (w.alloc<|.cells zC 80) l->Sl16 l r zs->bD zs->bA zs=1->
   Hid (QAt (((l.setCell ⟨w.1.size,0,none⟩<|.bool false).setCell ⟨w.1.size,1,none⟩<|.slice none 0 0).setCell ⟨w.1.size,2,none⟩ r) (.agg #[.bool false,.slice none 0 0,r]) false 0 1/\Below w.1.size w (((l.setCell ⟨w.1.size,0,none⟩<|.bool false).setCell ⟨w.1.size,1,none⟩<|.slice none 0 0).setCell ⟨w.1.size,2,none⟩ r)):=by
  intro l r zs f i s t;have h1:=o.below f;obtain⟨_,h3⟩:=FD h1 (.bool false) (.slice none 0 0) r;exact⟨⟨_,r,[],zs,rfl,⟨λj=>by simp[List.getD],by simp,none,0,rfl,kF _,.inl rfl⟩,λm F=>by simp at F,rfl,((i.notQ h1).sav h3).sl,s,t⟩,(cV u f).trans<|h3.below (kF _)<|kJ u.size f.size⟩
 rcases h with h | ⟨h,h2⟩
 .go_enter func59,ntmps59
  go_wp2_with (go_at_call 60;with_reducible refine(E _).mono ?_;rintro e l ⟨r,zs,rfl,i,s,t,G,f⟩
               obtain⟨B,y,rfl⟩:=i.form;have A:=key _ _ _ f i s t;have h1:=o.below f;have c0:=h1.c0;have c1:=h1.c1;have c2:=h1.c2;have fr:=h1.fr;have x:=(FD h1 (.bool false) (.slice none 0 0)<|.slice B zs.length y).1
               clear key f h1 o u)
  refine lJ (jP rfl _ _ w.1.size _ C rfl x hu D uN) rfl ?_;exact⟨_,rfl,A.out⟩
 go_enter func59,ntmps59
 go_wp2_with (go_at_call 60;with_reducible refine(E _).mono ?_;rintro e l ⟨r,zs,rfl,i,s,t,G,f⟩
              obtain⟨B,y,rfl⟩:=i.form;have A:=key _ _ _ f i s t;have h1:=o.below f;have c0:=h1.c0;have c1:=h1.c1;have c2:=h1.c2;have fr:=h1.fr;have x:=(FD h1 (.bool false) (.slice none 0 0)<|.slice B zs.length y).1
              clear key f h1 o u)
 refine lJ (jP rfl _ _ w.1.size _ C rfl x hu D uN) rfl ?_;exact⟨_,rfl,A.out⟩
theorem xS {f e:World} {h:List Int} (h0:QNew f w.1.size) (j:Below w.1.size w f) (i:Below f.1.size f e) (m:Sl16 e a h) (l:bD h) (r:bA h=n) (o:Sl16 e b ds) (cb:bD ds) (s:bA ds=d):
  Hid (QAt (((e.setCell ⟨w.1.size,0,none⟩<|.bool g).setCell ⟨w.1.size,1,none⟩ a).setCell ⟨w.1.size,2,none⟩ b) (.agg #[.bool g,a,b]) g n d/\Below w.1.size w (((e.setCell ⟨w.1.size,0,none⟩<|.bool g).setCell ⟨w.1.size,1,none⟩ a).setCell ⟨w.1.size,2,none⟩ b))/\
  (((e.setCell ⟨w.1.size,0,none⟩<|.bool g).setCell ⟨w.1.size,1,none⟩ a).setCell ⟨w.1.size,2,none⟩ b).rangeAt w.1.size 0 [.bool g,a,b]:=by
 have h1:=h0.below i;obtain⟨h2,h3⟩:=FD h1 (.bool g) a b;exact⟨⟨⟨a,b,h,ds,rfl,((m.notQ h1).sav h3).sl,l,r,((o.notQ h1).sav h3).sl,cb,s⟩,(cV j i).trans<|h3.below (kF _)<|kJ j.size i.size⟩,h2⟩
theorem Rv (i:Sl16 w (.slice q xs.length cap) xs) (S:Sl16 w (.slice q' 1 cap') ys) (t:bD xs) (nx:((xs.length:Int)==0)=false) (B:ys.length=1) (C:ys.getD 0 0=1):
  cN 59 (qA g q xs.length cap q' 1 cap') w λe w'=>∃v,e=.returned v/\QAt w' v g (bA xs) 1/\Below w.1.size w w':=by
 have Q:=λz=>Fy z 1 (by omega) (by omega);have j:=QNew.made w;have f:Below w.1.size w (w.alloc<|.cells zC 80):=cU w _;obtain⟨J,hu,L⟩:=Do;have X:=i.2.1;obtain⟨_,_,q2,aa,e,_,T⟩:=S;simp only[nT] at e;obtain⟨rfl,M,rfl⟩:=e;clear M
 rcases T with h | ⟨b,o,rfl,K,x⟩
 .simp[h] at B
 have m:=x 0 (by omega);rw[C] at m;have c9:(w.alloc<|.cells zC 80).cell? ⟨b,o,none⟩=some (.int .u32 1):=fg f K m;clear m;have A:=(i.below f).below<|cU (w.alloc<|.cells zC 80)<|.cells #[] 120;have R:=bC i;have H:Hid (bD xs):=t;have W:Hid (Sl16 ((w.alloc<|.cells zC 80).alloc<|.cells #[] 120) (.slice q xs.length cap) xs):=A;clear i x B C t A
 have Y:Hid (((w.alloc<|.cells zC 80).alloc<|.cells #[] 120).ownsRow (w.alloc<|.cells zC 80).1.size 120 1 (.slice (some ⟨w.1.size+1,0,none⟩) 0 0) 0 []):=by
  have:=GR<|w.alloc<|.cells zC 80;have e:(w.alloc<|.cells zC 80).1.size=w.1.size+1:=by simp
  rw[e] at this ⊢;exact this
 go_enter func59,ntmps59
 go_wp2_with (first
  | (at_builtin;refine GQ rfl _ _ rfl (w.alloc<|.cells zC 80).1.size (.slice (some ⟨w.1.size+1,0,none⟩) 0 0) 0 [] rfl Y.out xs (.slice q xs.length cap) rfl W.out (by omega) (by simp) ?_;intro Z E G I
     have u:Below (w.alloc<|.cells zC 80).1.size (w.alloc<|.cells zC 80) E:=(cU (w.alloc<|.cells zC 80) _).grown I (by simp) (λg O=>by cases O;simp);have y:Sl16 E Z xs:=BT (base:=(w.alloc<|.cells zC 80).1.size) rfl (by simpa using G) R.out.1 X
     obtain⟨q3,ab,rfl⟩:=y.form)
  | (go_at_call 60;with_reducible refine(Q _).mono ?_;rintro e w3 ⟨r,zs,rfl,D,U,V,ac,s⟩
     obtain⟨qr,cr,rfl⟩:=D.form;have l:Below (w.alloc<|.cells zC 80).1.size (w.alloc<|.cells zC 80) w3:=cV u s;obtain⟨P,F⟩:=xS (g:=g) j f l (y.below s) H.out rfl D U V;have h1:=j.below l;have c0:=h1.c0;have c1:=h1.c1;have c2:=h1.c2;have fr:=h1.fr
     clear s h1 j f u l))
 refine lJ (jP rfl _ _ w.1.size _ J rfl F hu L uN) rfl ?_;exact⟨_,rfl,P.out⟩
theorem MK (D:Sl16 w (.slice q xs.length cap) xs) (M:Sl16 w (.slice q' ys.length cap') ys) (C:bD xs) (I:bD ys) (nx:((xs.length:Int)==0)=false) (ny:((ys.length:Int)==0)=false)
  (O:xs.length<=274877906000) (P:ys.length<=274877906000)
  (h1:((ys.length:Int)==1)=false\/((ys.length:Int)==1)=true/\∃b o X,q'=some ⟨b,o,none⟩/\b<w.1.size/\w.cell? ⟨b,o,none⟩=some (.int .u32 X)/\(X==1)=false/\0<ys.length):
  cN 59 (qA g q xs.length cap q' ys.length cap') w λe w'=>∃v,e=.returned v/\QAt w' v g (bA xs / cJ (bA xs) (bA ys)) (bA ys / cJ (bA xs) (bA ys))/\Below w.1.size w w':=by
 have r:=QNew.made w;have h:Below w.1.size w (w.alloc<|.cells zC 80):=cU w _;obtain⟨R,hu,V⟩:=Do;have Y:xs≠[]:=by rintro rfl;simp at nx
 have W:=xl D.1 C Y;have K:=Dn (b:=bA ys) W;have E:Hid (Sl16 w (.slice q xs.length cap) xs/\bD xs):=⟨D,C⟩;have F:Hid (Sl16 w (.slice q' ys.length cap') ys/\bD ys):=⟨M,I⟩;have t:=Rt (D.below h) (M.below h) C I O P;obtain⟨G,T⟩:∃G,cJ (bA xs) (bA ys)=G:=⟨_,rfl⟩;rw[T] at t K ⊢;have S:Hid (0<G):=K;clear D M C I T Y W K
 rcases h1 with h1 | ⟨h1,b,o,X,rfl,Z,U,hX,ab⟩
 .go_enter func59,ntmps59
  go_wp2_with (first
   | (go_at_call 87;with_reducible refine t.mono ?_;rintro e w1 ⟨rg,J,rfl,z,s,B,lg,i⟩
      have ng:J≠[]:=by rintro rfl;have:=S.out;simp only[bA] at B;omega
      have u:=FC ((E.out.1.below h).below i) z E.out.2 s ng O)
   | (go_at_call 88;with_reducible refine u.mono ?_;rintro e w2 ⟨r1,r2,ns,rs,rfl,A,cn,vn,_,_,_,j⟩
      have x:=FC (((F.out.1.below h).below i).below j) (z.below j) F.out.2 s ng P)
   | (go_at_call 88;with_reducible refine x.mono ?_;rintro e Q ⟨r3,r4,ds,aa,rfl,y,cd,vd,_,_,_,m⟩
      rw[B] at vn vd;obtain⟨qn,kn,rfl⟩:=A.form;obtain⟨qd,kd,rfl⟩:=y.form;have l:Below (w.alloc<|.cells zC 80).1.size (w.alloc<|.cells zC 80) Q:=i.trans<|(cV j m).mono i.size;obtain⟨L,H⟩:=xS (g:=g) r h l (A.below m) cn vn y cd vd;have f:=r.below l;have c0:=f.c0;have c1:=f.c1;have c2:=f.c2;have fr:=f.fr
      clear m f r h j l i u x t))
  refine lJ (jP rfl _ _ w.1.size _ R rfl H hu V uN) rfl ?_;exact⟨_,rfl,L.out⟩
 have c9:(w.alloc<|.cells zC 80).cell? ⟨b,o,none⟩=some (.int .u32 X):=fg h Z U;clear U;go_enter func59,ntmps59
 go_wp2_with (first
  | (go_at_call 87;with_reducible refine t.mono ?_;rintro e w1 ⟨rg,J,rfl,z,s,B,lg,i⟩
     have ng:J≠[]:=by rintro rfl;have:=S.out;simp only[bA] at B;omega
     have u:=FC ((E.out.1.below h).below i) z E.out.2 s ng O)
  | (go_at_call 88;with_reducible refine u.mono ?_;rintro e w2 ⟨r1,r2,ns,rs,rfl,A,cn,vn,_,_,_,j⟩
     have x:=FC (((F.out.1.below h).below i).below j) (z.below j) F.out.2 s ng P)
  | (go_at_call 88;with_reducible refine x.mono ?_;rintro e Q ⟨r3,r4,ds,aa,rfl,y,cd,vd,_,_,_,m⟩
     rw[B] at vn vd;obtain⟨qn,kn,rfl⟩:=A.form;obtain⟨qd,kd,rfl⟩:=y.form;have l:Below (w.alloc<|.cells zC 80).1.size (w.alloc<|.cells zC 80) Q:=i.trans<|(cV j m).mono i.size;obtain⟨L,H⟩:=xS (g:=g) r h l (A.below m) cn vn y cd vd;have f:=r.below l;have c0:=f.c0;have c1:=f.c1;have c2:=f.c2;have fr:=f.fr
     clear m f r h j l i u x t))
 refine lJ (jP rfl _ _ w.1.size _ R rfl H hu V uN) rfl ?_;exact⟨_,rfl,L.out⟩
theorem FE (i:Sl16 w a xs) (f:Sl16 w b ys) (j:bD xs) (r:bD ys) (t:xs.length<=274877906000) (u:ys.length<=274877906000):
  cN 59 #[.bool g,a,b] w λe w'=>∃v,e=.returned v/\QAt w' v (cI g (bA xs)<|bA ys) (db (bA xs)<|bA ys) (dg (bA xs)<|bA ys)/\Below w.1.size w w':=by
 obtain⟨q,cap,rfl⟩:=i.form;obtain⟨q',cap',rfl⟩:=f.form;by_cases s:xs=[]
 .subst s;simpa [cI,db,dg,bA] using MJ (g:=g) (q:=q) (q':=q') (m:=0) (n:=ys.length) (cap:=cap) (cap':=cap') (w:=w) (.inl rfl)
 have D:=xl i.1 j s;have nx:((xs.length:Int)==0)=false:=by have:xs.length≠0:=λh=>s<|kM h;simp;omega
 by_cases l:ys=[]
 .subst l;simpa [cI,db,dg,bA] using MJ (g:=g) (q:=q) (q':=q') (m:=xs.length) (n:=0) (cap:=cap) (cap':=cap') (w:=w) (.inr ⟨nx,rfl⟩)
 have vy:=xl f.1 r l;have x:((ys.length:Int)==0)=false:=(by have:ys.length≠0:=λh=>l<|kM h;simp;omega);have e1:¬(bA xs=0\/bA ys=0):=(by omega);unfold cI db dg;rw[kZ e1,kZ e1,kZ e1];by_cases h1:ys.length=1
 .have hv:=Ru h1;by_cases h2:ys.getD 0 0=1
  .rw[hv,h2,xR,q7,q7];have A:=Rv (g:=g) i (by rw[h1] at f;exact f) j nx h1 h2;rw[h1];exact A
  obtain⟨_,_,q2,C,e,_,B⟩:=id f;simp only[nT] at e;obtain⟨rfl,_,rfl⟩:=e
  rcases B with h | ⟨b,o,rfl,y,z⟩
  .exact absurd h l
  exact MK i f j r nx x t u<|.inr ⟨by simp[h1],b,o,_,rfl,y,by simpa using z 0 (by omega),by simpa using h2,by omega⟩
 exact MK i f j r nx x t u<|.inl<|by simp;omega
theorem Rw (dz:bI zs) (h1:zs.length=k+1) (h2:65536^k<=bA zs):bD zs:=by
 intro m e;obtain rfl:m=k:=by omega
 intro h0;have h3:=De h1;have h4:=ux<|uV dz m;rw[h0,qg,mR] at h3;rw[lD,lR<|by omega] at h4;omega
theorem ML (e:bI xs) (f:bD xs) (h1:xs.length=k+1):65536^k<=bA xs:=by have h2:=f k h1;have h3:=e k;have h4:=De h1;have h5:=gD<|uV e k;have h6:=kO (by omega:1<=xs.getD k 0) (by have:=uM k;omega:(0:Int)<=65536^k);omega
theorem MM (i:bI xs) (j:bI ys) (dz:bI zs) (f:bD xs) (hv:bA zs=bA xs+bA ys) (l:zs.length=xs.length\/zs.length=xs.length+1/\zs.getD xs.length 0=1):bD zs:=by
 rcases l with h | ⟨h,h1⟩
 .intro m e;have:=Rw dz e (by have h1:=ML i f (by omega:xs.length=m+1);have:=gD j;omega);exact this m e
 intro m e;obtain rfl:m=xs.length:=by omega
 omega
theorem Rx {u:Value} (h:Sl16 w v xs) (i:Sl16 w u ys) (o:bD xs) (s:bD ys) (t:xs.length<=274877906000) (x:ys.length<=274877906000):
  cN 178 #[v,u] w λe w'=>∃r zs,e=.returned r/\Sl16 w' r zs/\bD zs/\bA zs=bA xs+bA ys/\zs.length<=max xs.length ys.length+1/\Below w.1.size w w':=by
 rcases kS xs.length ys.length with m | m
 .refine(Q9 i h m<|by omega).mono ?_;rintro e w' ⟨r,zs,rfl,f,hv,j,l⟩;exact⟨r,zs,rfl,f,MM i.1 h.1 f.1 s hv j,by omega,by omega,l⟩
 refine(Q8 h i m<|by omega).mono ?_;rintro e w' ⟨r,zs,rfl,f,hv,j,l⟩;exact⟨r,zs,rfl,f,MM h.1 i.1 f.1 o hv j,by omega,by omega,l⟩
theorem Ry (q q':Option Addr) (n cap cap':Nat) (w:World):cN 80 #[.slice q 0 cap,.slice q' n cap'] w λe w'=>e=.returned (.slice none 0 0)/\w'=w:=by go_enter func80,ntmps80;go_wp2;go_ret;exact⟨rfl,rfl⟩
theorem JB {u:Value} (f:Sl16 w v xs) (h:Sl16 w u ys) (j:xs.length+ys.length<=549755813888):
  cN 80 #[v,u] w λe w'=>∃r zs,e=.returned r/\Sl16 w' r zs/\bD zs/\bA zs=bA xs*bA ys/\Below w.1.size w w':=by
 by_cases nx:xs=[]
 .subst nx;obtain⟨q,cap,rfl⟩:=f.form;obtain⟨q',cap',rfl⟩:=h.form;refine(Ry q q' ys.length cap cap' w).mono ?_;rintro e w' ⟨rfl,rfl⟩;exact⟨_,[],rfl,⟨f.1,by simp,none,0,rfl,kF _,.inl rfl⟩,λm i=>by simp at i,by simp[bA],kE _ _⟩
 exact MB f h nx j
theorem El (f:bI xs) (e:bD xs) (h:bA xs<65536^k):xs.length<=k:=by
 rcases kS k xs.length with h1 | h1
 .obtain⟨m,hm⟩:∃m,xs.length=m+1:=⟨xs.length - 1,by omega⟩;have h2:=ML f e hm;have h3:=GT (by omega:k<=m);omega
 exact h1
def bB (d:Int):Int:=if d=0 then 1 else d
theorem GV (e:bI ds) (cd:bD ds):bA (cR ds)=bB (bA ds)/\bD (cR ds)/\bI (cR ds)/\(cR ds).length<=ds.length+1/\0<bA (cR ds):=by
 unfold cR bB;by_cases h:ds=[]
 .subst h;simp only[bA];refine⟨by decide,λm f=>?_,λj=>?_,by simp,by decide⟩
  .obtain rfl:m=0:=(by simp at f;omega);decide
  match j with
  | 0=>decide
  | j+1=>simp
 have:=xl e cd h;rw[kZ h,kZ<|by omega];exact⟨rfl,cd,e,by omega,this⟩
theorem BV {i:Nat} (h:Sl16 w v xs):cN 78 #[.agg #[.bool g,.slice q' i cap',v]] w λe w'=>∃r,e=.returned r/\Sl16 w' r (cR xs)/\Below w.1.size w w':=by
 have j:=L3<|w.alloc<|Obj.cells #[.bool g,.slice q' i cap',v] 80;have s:=h;obtain⟨h1,h2,q,cap,rfl,h4,h5⟩:=h;by_cases f:xs=[]
 .subst f;go_enter func78,ntmps78;go_wp2_with (go_at_call 60;refine j.mono ?_;rintro e u ⟨r,rfl,o,l⟩);go_ret;exact⟨_,rfl,o,((kE _ _).alloc (kF _) _).trans<|l.mono<|by simp⟩
 have t:¬(xs.length:Int)=0:=by have:=lG.2 f;omega
 go_enter func78,ntmps78;go_wp2;go_ret;have m:cR xs=xs:=by simp[cR,f]
 exact⟨_,rfl,by rw[m];exact s.below<|(kE _ _).alloc (kF _) _,(kE _ _).alloc (kF _) _⟩
theorem GW (h:QAt w v g n d):bF w 112 #[v] (.int .i64 (if n=0 then 0 else if g then -1 else 1)):=by
 obtain⟨a,b,j,ds,rfl,h2,h3,h4,h5,h6,h7⟩:=h;obtain⟨q,cap,rfl⟩:=h2.form;obtain⟨q',cap',rfl⟩:=h5.form;by_cases f:j=[]
 .subst f;have e:n=0:=by rw[<-h4];rfl
  subst e;clear h2 h3 h4 h5 h6 h7;go_enter func112,ntmps112;go_wp2;go_ret;exact⟨rfl,cU _ _⟩
 have l:¬(j.length:Int)=0:=by have:=lG.2 f;omega
 have i:=xl h2.1 h3 f;rw[h4] at i;have e:¬n=0:=by omega
 clear h2 h3 h4 h5 h6 h7 i;cases g
 .go_enter func112,ntmps112;go_wp2;go_ret;exact⟨by simp,cU _ _⟩
 go_enter func112,ntmps112;go_wp2;go_ret;exact⟨by simp,cU _ _⟩
def sg (g:Bool):Int:=if g then -1 else 1
theorem Em {f e:World} {h:List Int} (m:w.1.size<=N) (h0:QNew f N) (j:Below w.1.size w f) (i:Below f.1.size f e) (o:Sl16 e a h) (l:bD h) (s:bA h=n) (r:Sl16 e b ds) (cb:bD ds) (t:bA ds=d):
  Hid (QAt (((e.setCell ⟨N,0,none⟩<|.bool g).setCell ⟨N,1,none⟩ a).setCell ⟨N,2,none⟩ b) (.agg #[.bool g,a,b]) g n d/\Below w.1.size w (((e.setCell ⟨N,0,none⟩<|.bool g).setCell ⟨N,1,none⟩ a).setCell ⟨N,2,none⟩ b))/\
  (((e.setCell ⟨N,0,none⟩<|.bool g).setCell ⟨N,1,none⟩ a).setCell ⟨N,2,none⟩ b).rangeAt N 0 [.bool g,a,b]:=by
 have h1:=h0.below i;obtain⟨h2,h3⟩:=FD h1 (.bool g) a b;exact⟨⟨⟨a,b,h,ds,rfl,((o.notQ h1).sav h3).sl,l,s,((r.notQ h1).sav h3).sl,cb,t⟩,(cV j i).trans<|h3.below m<|kJ j.size i.size⟩,h2⟩
theorem JC (w:World) (o:Obj) (e f h:Value) (t:TypeId):((w.alloc o).alloc<|.cells #[e,f,h] t).rangeAt (w.1.size+1) 0 [e,f,h]:=by
 intro j v hv
 match j,hv with
 | 0,hv=>simp at hv;subst hv;simp
 | 1,hv=>simp at hv;subst hv;simp
 | 2,hv=>simp at hv;subst hv;simp
theorem Dp (h:QAt w v g n d):cN 148 #[v] w λe w'=>∃r,e=.returned r/\QAt w' r (!g&&!decide (n=0)) n d/\Below w.1.size w w':=by
 obtain⟨a,b,f,ds,rfl,h2,h3,h4,h5,h6,h7⟩:=h;obtain⟨q,cap,rfl⟩:=h2.form;obtain⟨q',cap',rfl⟩:=h5.form;obtain⟨j,hu,m⟩:=Do
 have i:(f=[]↔n=0):=by
  rw[<-h4];constructor
  .rintro rfl;rfl
  intro h;apply Classical.byContradiction;intro x;have:=xl h2.1 h3 x;omega
 have s:Hid (∀(t u:Obj) (l:Bool),QAt ((w.alloc t).alloc u) (.agg<|qA l q f.length cap q' ds.length cap') l n d):=λt u l=>⟨_,_,f,ds,rfl,h2.below<|dF _ _ _,h3,h4,h5.below<|dF _ _ _,h6,h7⟩;clear h2 h3 h4 h5 h6 h7;cases g
 .by_cases hx:f=[]
  .have o:n=0:=i.1 hx;subst o;subst hx;clear i;go_enter func148,ntmps148;go_wp2;refine lJ (jP rfl _ _ (w.1.size+1) _ j rfl (JC _ _ _ _ _ _) hu m uN) rfl ?_;exact⟨_,rfl,by simpa using s.out _ _ false,dF _ _ _⟩
  have o:¬n=0:=λh=>hx<|i.2 h;have y:(f.length:Int) > 0:=(by have:=lG.2 hx;omega);have z:0<f.length:=(by omega);clear i hx;go_enter func148,ntmps148;go_wp2;refine lJ (jP rfl _ _ (w.1.size+1) _ j rfl (JC _ _ _ _ _ _) hu m uN) rfl ?_;exact⟨_,rfl,by simpa [o] using s.out _ _ true,dF _ _ _⟩
 clear i;go_enter func148,ntmps148;go_wp2;refine lJ (jP rfl _ _ (w.1.size+1) _ j rfl (JC _ _ _ _ _ _) hu m uN) rfl ?_;exact⟨_,rfl,by simpa using s.out _ _ false,dF _ _ _⟩
theorem JD (e:bI xs) (f:bI ys) (dz:bI zs) (h:bD zs) (hv:bA zs=bA xs*bA ys):zs.length<=xs.length+ys.length:=by refine El dz h ?_;have h1:=ux e;have h2:=ux f;have h3:=gD e;have h4:=gD f;rw[hv,mw];have h5:bA xs*bA ys<=bA xs*65536^ys.length:=lr (by omega) h3;have h6:bA xs*65536^ys.length<65536^xs.length*65536^ys.length:=pU h1<|uM _;omega
abbrev uy (w:World) (g1:Bool) (q1:Option Addr) (l1:Nat) (c1:Nat) (p1:Option Addr) (m1:Nat) (e1:Nat) (g2:Bool) (q2:Option Addr) (l2:Nat) (c2:Nat) (p2:Option Addr) (m2:Nat) (e2:Nat):World->Prop:=λz=>Below w.1.size w z/\w.1.size+3<=z.1.size/\z.cell? ⟨w.1.size,0,none⟩=some (.bool g1)/\z.cell? ⟨w.1.size,1,none⟩=some (.slice q1 l1 c1)/\z.cell? ⟨w.1.size,2,none⟩=some (.slice p1 m1 e1)/\z.cell? ⟨w.1.size+1,0,none⟩=some (.bool g2)/\z.cell? ⟨w.1.size+1,1,none⟩=some (.slice q2 l2 c2)/\z.cell? ⟨w.1.size+1,2,none⟩=some (.slice p2 m2 e2)
theorem xU {g1 g2:Bool} {q1 p1 q2 p2:Option Addr} {l1 c1 m1 e1 l2 c2 m2 e2:Nat} {ad C ae D:List Int} {L:Nat} (hL:L<=68719476000)
  (aJ:Sl16 w (.slice q1 l1 c1) ad) (aA:Sl16 w (.slice p1 m1 e1) C) (aK:Sl16 w (.slice q2 l2 c2) ae) (aB:Sl16 w (.slice p2 m2 e2) D) (aF:bD C) (aG:bD D)
  (b1:ad.length<=L) (b2:C.length<=L) (b3:ae.length<=L) (b4:D.length<=L):
  cN 147 #[.agg<|qA g1 q1 l1 c1 p1 m1 e1,.agg<|qA g2 q2 l2 c2 p2 m2 e2] w λe w'=>∃v g m,e=.returned v/\QAt w' v (cI g m<|bA (cR C)*bA (cR D)) (db m<|bA (cR C)*bA (cR D)) (dg m<|bA (cR C)*bA (cR D))/\
   0<=m/\sg g*m=sg g1*(bA ad*bA (cR D))+sg g2*(bA ae*bA (cR C))/\Below w.1.size w w':=by
 have aD:∀z,Below w.1.size w z->cN 78 #[.agg<|qA g1 q1 l1 c1 p1 m1 e1] z λe w'=>∃r,e=.returned r/\Sl16 w' r (cR C)/\Below z.1.size z w':=λz U=>BV<|aA.below U;have aE:∀z,Below w.1.size w z->cN 78 #[.agg<|qA g2 q2 l2 c2 p2 m2 e2] z λe w'=>∃r,e=.returned r/\Sl16 w' r (cR D)/\Below z.1.size z w':=λz U=>BV<|aB.below U;obtain⟨dd,hu,hd⟩:=Do;obtain⟨_,aN,aR,aZ,_⟩:=GV aA.1 aF;obtain⟨_,aP,aS,ba,_⟩:=GV aB.1 aG;have g7:Hid (Sl16 w (.slice q1 l1 c1) ad):=aJ;have g8:Hid (Sl16 w (.slice q2 l2 c2) ae):=aK;clear aJ aK aA aB aF aG;generalize cR C=D1 at*;generalize cR D=D2 at*;have aO:Hid (bD D1/\bI D1):=⟨aN,aR⟩;have aQ:Hid (bD D2/\bI D2):=⟨aP,aS⟩;clear aN aR aP aS;go_enter func147,ntmps147;go_wp2_with fail;have aC:QNew (((w.alloc<|.cells (qA g1 q1 l1 c1 p1 m1 e1) 80).alloc<|.cells (qA g2 q2 l2 c2 p2 m2 e2) 80).alloc<|.cells zC 80) (w.1.size+1+1):=by have:=QNew.made<|(w.alloc<|.cells (qA g1 q1 l1 c1 p1 m1 e1) 80).alloc<|.cells (qA g2 q2 l2 c2 p2 m2 e2) 80;simpa using this
 have aw:Below w.1.size w (((w.alloc<|.cells (qA g1 q1 l1 c1 p1 m1 e1) 80).alloc<|.cells (qA g2 q2 l2 c2 p2 m2 e2) 80).alloc<|.cells zC 80):=(dF w _ _).alloc (by simp;omega) _;have aY:(((w.alloc<|.cells (qA g1 q1 l1 c1 p1 m1 e1) 80).alloc<|.cells (qA g2 q2 l2 c2 p2 m2 e2) 80).alloc<|.cells zC 80).1.size=w.1.size+3:=by simp
 have x0:(((w.alloc<|.cells (qA g1 q1 l1 c1 p1 m1 e1) 80).alloc<|.cells (qA g2 q2 l2 c2 p2 m2 e2) 80).alloc<|.cells zC 80).cell? ⟨w.1.size,0,none⟩=some (.bool g1):=((cU _ _).cell<|by simp;try omega).trans<|by simp
 have x1:(((w.alloc<|.cells (qA g1 q1 l1 c1 p1 m1 e1) 80).alloc<|.cells (qA g2 q2 l2 c2 p2 m2 e2) 80).alloc<|.cells zC 80).cell? ⟨w.1.size,1,none⟩=some (.slice q1 l1 c1):=((cU _ _).cell<|by simp;try omega).trans<|by simp
 have x2:(((w.alloc<|.cells (qA g1 q1 l1 c1 p1 m1 e1) 80).alloc<|.cells (qA g2 q2 l2 c2 p2 m2 e2) 80).alloc<|.cells zC 80).cell? ⟨w.1.size,2,none⟩=some (.slice p1 m1 e1):=((cU _ _).cell<|by simp;try omega).trans<|by simp
 have y0:(((w.alloc<|.cells (qA g1 q1 l1 c1 p1 m1 e1) 80).alloc<|.cells (qA g2 q2 l2 c2 p2 m2 e2) 80).alloc<|.cells zC 80).cell? ⟨w.1.size+1,0,none⟩=some (.bool g2):=((cU _ _).cell<|by simp;try omega).trans<|by simp
 have y1:(((w.alloc<|.cells (qA g1 q1 l1 c1 p1 m1 e1) 80).alloc<|.cells (qA g2 q2 l2 c2 p2 m2 e2) 80).alloc<|.cells zC 80).cell? ⟨w.1.size+1,1,none⟩=some (.slice q2 l2 c2):=((cU _ _).cell<|by simp;try omega).trans<|by simp
 have y2:(((w.alloc<|.cells (qA g1 q1 l1 c1 p1 m1 e1) 80).alloc<|.cells (qA g2 q2 l2 c2 p2 m2 e2) 80).alloc<|.cells zC 80).cell? ⟨w.1.size+1,2,none⟩=some (.slice p2 m2 e2):=((cU _ _).cell<|by simp;try omega).trans<|by simp
 generalize (((w.alloc<|.cells (qA g1 q1 l1 c1 p1 m1 e1) 80).alloc<|.cells (qA g2 q2 l2 c2 p2 m2 e2) 80).alloc<|.cells zC 80)=f at*;have af:(uy w g1 q1 l1 c1 p1 m1 e1 g2 q2 l2 c2 p2 m2 e2) f.drew:=⟨aw.drew,by show _<=f.1.size;omega,x0,x1,x2,y0,y1,y2⟩;have tr:∀z z',(uy w g1 q1 l1 c1 p1 m1 e1 g2 q2 l2 c2 p2 m2 e2) z->Below z.1.size z z'->(uy w g1 q1 l1 c1 p1 m1 e1 g2 q2 l2 c2 p2 m2 e2) z':=by rintro z z' ⟨a0,a1,a2,a3,a4,a5,a6,a7⟩ K;have hs:=K.size;exact⟨cV a0 K,by omega,fg K (by omega) a2,fg K (by omega) a3,fg K (by omega) a4,fg K (by omega) a5,fg K (by omega) a6,fg K (by omega) a7⟩
 have ts:∀z j u,(uy w g1 q1 l1 c1 p1 m1 e1 g2 q2 l2 c2 p2 m2 e2) z->(uy w g1 q1 l1 c1 p1 m1 e1 g2 q2 l2 c2 p2 m2 e2) (z.setCell ⟨w.1.size+1+1,j,none⟩ u):=by
  rintro z j u ⟨a0,a1,a2,a3,a4,a5,a6,a7⟩
  exact⟨a0.setCell (by show _<=w.1.size+1+1;omega) u,by simp;omega,(lf _ _ _ _<|by simp;try omega).trans a2,(lf _ _ _ _<|by simp;try omega).trans a3,(lf _ _ _ _<|by simp;try omega).trans a4,(lf _ _ _ _<|by simp;try omega).trans a5,(lf _ _ _ _<|by simp;try omega).trans a6,(lf _ _ _ _<|by simp;try omega).trans a7⟩
 have l:=bC tr;have F:=bC ts;clear tr ts x0 x1 x2 y0 y1 y2;have aX:f.drew.1.size=f.1.size:=rfl
 go_region_held3 (uy w g1 q1 l1 c1 p1 m1 e1 g2 q2 l2 c2 p2 m2 e2) (first | exact ak | exact aj | exact ai | exact ag | exact af)
  (first
    | (go_at_call 78;with_reducible refine(aE _ ?_).mono ?_;exact af.1;rintro e w2 ⟨r2,rfl,h2,ao⟩
       have ag:=l.out _ _ af ao
       have kx:=JB (g7.out.below ag.1) h2<|by omega)
    | (go_at_call 80;with_reducible refine kx.mono ?_;rintro e w3 ⟨rx,xs,rfl,hx,cx,vx,ax⟩
       have ai:=l.out _ _ ag ax)
    | (go_at_call 78;with_reducible refine(aD _ ?_).mono ?_;exact ai.1;rintro e w4 ⟨r4,rfl,h4,ay⟩
       have aj:=l.out _ _ ai ay
       have ky:=JB (g8.out.below aj.1) h4<|by omega)
    | (go_at_call 80;with_reducible refine ky.mono ?_;rintro e w5 ⟨ry,ys,rfl,hy,cy,vy,az⟩
       have ak:=l.out _ _ aj az))
 have a9:Below w3.1.size w3 w5:=cV ay az;have aM:=hx.below a9;have lx:=JD g7.out.1 aQ.out.2 hx.1 cx vx;have ly:=JD g8.out.1 aO.out.2 hy.1 cy vy;have g9:Below f.1.size f w5:=(kE f.1.size f).drew.trans<|ao.trans<|(cV ax a9).mono ao.size;have i:Hid (Sl16 w5 rx xs/\bD xs/\bA xs=bA ad*bA D2/\Sl16 w5 ry ys/\bD ys/\bA ys=bA ae*bA D1/\Below f.1.size f w5):=⟨aM,cx,vx,hy,cy,vy,g9⟩;have al:(uy w g1 q1 l1 c1 p1 m1 e1 g2 q2 l2 c2 p2 m2 e2) w5.drew:=⟨ak.1.drew,ak.2⟩;clear af ag ai aj hx cx vx hy cy vy ao ax ay az a9 aM g9 kx ky h2 h4;go_wp2_with fail
 go_region_held3 (uy w g1 q1 l1 c1 p1 m1 e1 g2 q2 l2 c2 p2 m2 e2) (first | exact av | exact au | exact an | exact al)
  (first
    | (go_at_call 78;with_reducible refine(aD _ ?_).mono ?_;exact al.1;rintro e w7 ⟨r7,rfl,h7,ap⟩
       have an:=l.out _ _ al ap)
    | (go_at_call 78;with_reducible refine(aE _ ?_).mono ?_;exact an.1;rintro e w8 ⟨r8,rfl,h8,aq⟩
       have au:=l.out _ _ an aq
       have kz:=JB (h7.below aq) h8<|by omega)
    | (go_at_call 80;with_reducible refine kz.mono ?_;rintro e o ⟨rz,zs,rfl,U,cz,vz,a8⟩
       have av:=l.out _ _ au a8))
 have fj:Below w5.1.size w5 o:=(kE w5.1.size w5).drew.trans<|ap.trans<|(cV aq a8).mono ap.size;have lz:=JD aO.out.2 aQ.out.2 U.1 cz vz;have x:Hid (Sl16 o rx xs):=i.out.1.below fj;have y:Hid (Sl16 o ry ys):=i.out.2.2.2.1.below fj;have E:Hid (Sl16 o rz zs/\bD zs/\bA zs=bA D1*bA D2):=⟨U,cz,vz⟩;have W:Hid (Below f.1.size f o):=cV i.out.2.2.2.2.2.2 fj;have V:Hid (QNew f<|w.1.size+1+1):=aC;have aH:Hid (Below w.1.size w f):=aw;have fl:Hid ((uy w g1 q1 l1 c1 p1 m1 e1 g2 q2 l2 c2 p2 m2 e2) o):=av;obtain⟨_,z1,z2,z3,z4,z5,z6,z7⟩:=av;clear ak al an au U cz vz ap aq a8 kz h7 h8 fj aC aw aD aE;by_cases X:g1=g2
 .have fU:(g1==g2)=true:=by simp[X]
  have ja:Hid (g1=g2):=X;clear X;go_wp2_with fail;have H:(uy w g1 q1 l1 c1 p1 m1 e1 g2 q2 l2 c2 p2 m2 e2) o.drew:=⟨fl.out.1.drew,fl.out.2⟩;have ka:=Rx (x.out.below (kE o.1.size o).drew) (y.out.below (kE o.1.size o).drew) i.out.2.1 i.out.2.2.2.2.1 (by omega)<|by omega
  go_region_held3 (uy w g1 q1 l1 c1 p1 m1 e1 g2 q2 l2 c2 p2 m2 e2) (first | exact F.out _ _ _ (F.out _ _ _<|F.out _ _ _ J) | exact J | exact I | exact H)
   (first
     | (go_at_call 178;with_reducible refine ka.mono ?_;rintro e wa ⟨ra,aa,rfl,T,S,A,la,M⟩
        have I:=l.out _ _ H M;have t:Below o.1.size o wa:=(kE o.1.size o).drew.trans M;have ac:=(E.out.1).below t;have R:=FE (g:=g1) T ac S E.out.2.1 (by omega) (by omega);rw[A] at R
        clear A)
     | (go_at_call 59;with_reducible refine R.mono ?_;rintro e wd ⟨rd,rfl,hq,O⟩
        have J:=l.out _ _ I O;obtain⟨u1,u2,aT,aI,rfl,k2,k3,k4,Q,k6,k7⟩:=hq;obtain⟨qn,kn,rfl⟩:=k2.form;obtain⟨qd,kd,rfl⟩:=Q.form;have G:Below f.1.size f wd:=W.out.trans<|(cV t O).mono W.out.size;obtain⟨P,Y⟩:=Em (N:=w.1.size+1+1) (g:=cI g1 (bA xs+bA ys)<|bA zs) (by omega) V.out aH.out G k2 k3 k4 Q k6 k7;have h:=V.out.below G;have f0:=h.c0;have f1:=h.c1;have f2:=h.c2;have fr:=h.fr
        clear h))
  go_wp2_with fail;refine lJ (jP rfl _ _ (w.1.size+1+1) _ dd rfl Y hu hd uN) rfl ?_;refine⟨_,g1,bA xs+bA ys,rfl,by rw[<-E.out.2.2];exact P.out.1,?_,?_,P.out.2⟩
  .have:=gD x.out.1;have:=gD y.out.1;omega
  rw[i.out.2.2.1,i.out.2.2.2.2.2.1,lT,<-ja.out]
 have fU:(g1==g2)=false:=by simp[X]
 have aU:=Fz x.out y.out i.out.2.1 i.out.2.2.2.2.1;by_cases ar:bA xs<bA ys
 .have B:Hid (bA xs<bA ys):=ar;clear ar X
  go_wp2_with (go_at_call 79;with_reducible refine aU.mono ?_;rintro e wc ⟨c,rfl,ab,a',s⟩
               have aW:c<0:=ab.2 B.out;have Z:=l.out _ _ fl.out s
               clear ab a')
  have H:(uy w g1 q1 l1 c1 p1 m1 e1 g2 q2 l2 c2 p2 m2 e2) wc.drew:=⟨Z.1.drew,Z.2⟩;have ka:=Mz ((y.out.below s).below (kE wc.1.size wc).drew) ((x.out.below s).below (kE wc.1.size wc).drew) (Di x.out.1 y.out.1 i.out.2.1<|by have:=B.out;omega)<|by have:=B.out;omega
  go_region_held3 (uy w g1 q1 l1 c1 p1 m1 e1 g2 q2 l2 c2 p2 m2 e2) (first | exact F.out _ _ _ (F.out _ _ _<|F.out _ _ _ J) | exact J | exact I | exact H)
   (first
     | (go_at_call 179;with_reducible refine ka.mono ?_;rintro e wa ⟨ra,aa,rfl,T,S,A,M⟩
        have la:=Di T.1 y.out.1 S (by rw[A];have:=gD x.out.1;have:=gD y.out.1;omega);have I:=l.out _ _ H M;have t:Below wc.1.size wc wa:=(kE wc.1.size wc).drew.trans M;have ac:=(E.out.1.below s).below t;have R:=FE (g:=g2) T ac S E.out.2.1 (by omega) (by omega);rw[A] at R
        clear A)
     | (go_at_call 59;with_reducible refine R.mono ?_;rintro e wd ⟨rd,rfl,hq,O⟩
        have J:=l.out _ _ I O;obtain⟨u1,u2,aT,aI,rfl,k2,k3,k4,Q,k6,k7⟩:=hq;obtain⟨qn,kn,rfl⟩:=k2.form;obtain⟨qd,kd,rfl⟩:=Q.form;have G:Below f.1.size f wd:=W.out.trans<|((cV s t).trans<|O.mono (cV s t).size).mono W.out.size;obtain⟨P,Y⟩:=Em (N:=w.1.size+1+1) (g:=cI g2 (bA ys - bA xs)<|bA zs) (by omega) V.out aH.out G k2 k3 k4 Q k6 k7;have h:=V.out.below G;have f0:=h.c0;have f1:=h.c1;have f2:=h.c2;have fr:=h.fr
        clear h))
  go_wp2_with fail;refine lJ (jP rfl _ _ (w.1.size+1+1) _ dd rfl Y hu hd uN) rfl ?_;refine⟨_,g2,bA ys - bA xs,rfl,by rw[<-E.out.2.2];exact P.out.1,?_,?_,P.out.2⟩
  .have:=B.out;omega
  rw[i.out.2.2.1,i.out.2.2.2.2.2.1,Int.mul_sub];cases g1<;>cases g2<;>simp[sg] at fU ⊢<;>omega
 have B:Hid (¬bA xs<bA ys):=ar;clear ar X
 go_wp2_with (go_at_call 79;with_reducible refine aU.mono ?_;rintro e wc ⟨c,rfl,ab,a',s⟩
              have aW:¬c<0:=λaV=>B.out<|ab.1 aV;have Z:=l.out _ _ fl.out s
              clear ab a')
 have H:(uy w g1 q1 l1 c1 p1 m1 e1 g2 q2 l2 c2 p2 m2 e2) wc.drew:=⟨Z.1.drew,Z.2⟩;have ka:=Mz ((x.out.below s).below (kE wc.1.size wc).drew) ((y.out.below s).below (kE wc.1.size wc).drew) (Di y.out.1 x.out.1 i.out.2.2.2.2.1<|by have:=B.out;omega)<|by have:=B.out;omega
 go_region_held3 (uy w g1 q1 l1 c1 p1 m1 e1 g2 q2 l2 c2 p2 m2 e2) (first | exact F.out _ _ _ (F.out _ _ _<|F.out _ _ _ J) | exact J | exact I | exact H)
  (first
    | (go_at_call 179;with_reducible refine ka.mono ?_;rintro e wa ⟨ra,aa,rfl,T,S,A,M⟩
       have la:=Di T.1 x.out.1 S (by rw[A];have:=gD x.out.1;have:=gD y.out.1;omega);have I:=l.out _ _ H M;have t:Below wc.1.size wc wa:=(kE wc.1.size wc).drew.trans M;have ac:=(E.out.1.below s).below t;have R:=FE (g:=g1) T ac S E.out.2.1 (by omega) (by omega);rw[A] at R
       clear A)
    | (go_at_call 59;with_reducible refine R.mono ?_;rintro e wd ⟨rd,rfl,hq,O⟩
       have J:=l.out _ _ I O;obtain⟨u1,u2,aT,aI,rfl,k2,k3,k4,Q,k6,k7⟩:=hq;obtain⟨qn,kn,rfl⟩:=k2.form;obtain⟨qd,kd,rfl⟩:=Q.form;have G:Below f.1.size f wd:=W.out.trans<|((cV s t).trans<|O.mono (cV s t).size).mono W.out.size;obtain⟨P,Y⟩:=Em (N:=w.1.size+1+1) (g:=cI g1 (bA xs - bA ys)<|bA zs) (by omega) V.out aH.out G k2 k3 k4 Q k6 k7;have h:=V.out.below G;have f0:=h.c0;have f1:=h.c1;have f2:=h.c2;have fr:=h.fr
       clear h))
 go_wp2_with fail;refine lJ (jP rfl _ _ (w.1.size+1+1) _ dd rfl Y hu hd uN) rfl ?_;refine⟨_,g1,bA xs - bA ys,rfl,by rw[<-E.out.2.2];exact P.out.1,?_,?_,P.out.2⟩
 .have:=B.out;omega
 rw[i.out.2.2.1,i.out.2.2.2.2.2.1,Int.mul_sub];cases g1<;>cases g2<;>simp[sg] at fU ⊢<;>omega
