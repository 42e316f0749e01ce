import Derived.Deep.RegionLaw
import Derived.Test.YthcfmhgihcjloaaGreatDoorPk29
namespace Go.Proofs.YthcfmhgihcjloaaGreatDoor
open Go Go.RowKit Tryz
variable {w:World} {n:Nat}
def Cm (p:Si × Sv):List Value:=p.1.cells p.2
def condC (p:Co × Nd):List Value:=p.1.cells p.2
abbrev oC (e:Nd) (st:Bool) (v u:Value):List Value:=e.cells++[.bool st,v,u]
abbrev TZ:List Value:=[.bool false,.slice none 0 0,.slice none 0 0,.bool false,.slice none 0 0,.slice none 0 0,.bool false,.bool false]
theorem FZ:ElT 34 85 9 136:=⟨underlying34,by kernel_rfl,by decide,by decide,by decide⟩
theorem T0:(prog.info? 34).map (·.size)=some 1:=by kernel_rfl
theorem F0:ElT 35 90 8 120:=⟨underlying35,by kernel_rfl,by decide,by decide,by decide⟩
theorem T4:(prog.info? 35).map (·.size)=some 1:=by kernel_rfl
theorem Ki:gb 35:=⟨_,underlying35,rfl⟩
def NZ (w1 wr:World) (G:Nat) (e:Nd) (C:Cl) (k:Nat) (q3:Option Addr) (c3:Nat) (L:List (Si × Sv)):Prop:=
 L.length=k/\wr.1[G]?=some (.cells (oC e C.st (.slice q3 k c3)<|.slice none 0 0).toArray 37 (0,0))/\wr.ownsRow w1.1.size 85 9 (.slice q3 k c3) k (L.flatMap Cm)/\(Value.slice q3 k c3).ownBlock≠some G/\
  (∀i x,L[i]?=some x->x.1=C.bs i/\SiA wr (cH w1.1.size wr G<|.slice q3 k c3) x.1 x.2)/\ExA wr (cH w1.1.size wr G<|.slice q3 k c3) C.goal e/\Below w1.1.size w1 wr
def N0 (w1 wr:World) (G:Nat) (e:Nd) (C:Cl) (q3:Option Addr) (c3 k:Nat) (q4:Option Addr) (c4:Nat) (L:List (Co × Nd)):Prop:=
 L.length=k/\wr.1[G]?=some (.cells (oC e C.st (.slice q3 C.nb c3)<|.slice q4 k c4).toArray 37 (0,0))/\wr.ownsRow w1.1.size 90 8 (.slice q4 k c4) k (L.flatMap condC)/\(Value.slice q4 k c4).ownBlock≠some G/\
  (∀i x,L[i]?=some x->x.1=C.cs i/\ExA wr (cH w1.1.size wr G<|.slice q4 k c4) x.1.x x.2)/\ExA wr (cH w1.1.size wr G<|.slice q4 k c4) C.goal e/\SisA wr (cH w1.1.size wr G<|.slice q4 k c4) q3 C.nb C.bs/\Below w1.1.size w1 wr
set_option maxRecDepth 100000 in
set_option maxHeartbeats 4000000 in
theorem T' {C:Cl} {D:Cd} (h:ClOk w C D) (hs:fJ C):cN 28 #[.agg (C.cells D).toArray] w λe w'=>∃D':Cd,e=.returned (.agg (C.cells D').toArray)/\ClA w' (bP w w') C D'/\Below w.1.size w w':=by
 have H:=bC h;have Hs:=bC hs;have hE:=fun(z:World) (J:Below w.1.size w z)=>NY C.goal D.d z ((h.below J).1.ok λ_ h=>h) hs.1;clear h hs;go_enter func28,ntmps28;go_upto_region 1 with fail;generalize ak:(w.alloc _).alloc _=l;have aa:Below w.1.size w l:=by rw[<-ak];exact dF _ _ _
 have az:l.1.size=w.1.size+2:=by rw[<-ak];simp
 have aQ:l.rangeAt w.1.size 0 (C.cells D):=by rw[<-ak];exact(oI (ys:=oC uL false (.slice none 0 0)<|.slice none 0 0)).1
 have aP:l.1[w.1.size+1]?=some (.cells (oC uL false (.slice none 0 0)<|.slice none 0 0).toArray 37 (0,0)):=by rw[<-ak];exact xE
 clear ak;have Gd:Below l.1.size l l.drew:=(kE _ _).drew;have hS:∀z,Below l.1.size l z->z.rangeAt w.1.size 0 (C.cells D):=λz J=>bU aQ J (by omega);refine kN (S:=λz=>z.rangeAt w.1.size 0<|C.cells D) (by kernel_rfl) (hS _ Gd) λhh=>?_;refine tk 0 _ rfl hh ?_;refine fE eU 1 9 w.1.size 0 D.d.cells rfl rfl hh (λz h=>iE (o:=0) h [] [.bool C.st,.slice D.bq C.nb D.bc,.slice D.cq C.nc D.cc] rfl) ?_;refine tk 3 _ rfl hh ?_;refine jQ BR 4 12 w.1.size 7 _ rfl hh (λz h=>h 7 _ rfl) ?_;refine Fp (fuel:=1) [2,5] [6] 3 #[true,true,true,true,true,true,true,false] (λ_=>37) (λ_=>(oC uL false (.slice none 0 0)<|.slice none 0 0).toArray) (λz J=>hS z<|cV Gd J) ?_ ?_;rotate_left
 .intro f hf a z K h;obtain rfl:f=6:=by simpa using hf
  unfold wpOp;go_simp;exact .inl h
 refine it rfl λx z J K m=>?_;have Gz:=cV Gd J;simp only[cE,pz];go_simp;refine(hE _<|cV aa Gz).mono ?_;rintro e w2 ⟨I,rfl,R,aG⟩;refine m.out _ _ aG ?_;have G2:=cV Gz aG;clear m K hE;refine it rfl λx z3 al K m=>?_;rw[kU<|by kernel_rfl];refine bd 37 _ (oC I C.st (.slice none 0 0)<|.slice none 0 0)<|m.out _ _ (kE _ _) ?_;clear m K;rintro x z4 aT ⟨p,hp,-,-,hI⟩;obtain⟨e6,h6,N6⟩:=hp 6 (by simp) (by simp);have hI:=hI 6 (by simp) (by simp) _<|lM _ mq;have K4:Below w2.1.size w2 z4:=cV al aT;have G4:=cV G2 K4;simp only[cE,pz,bY,e6];generalize p 6=G at*;have aF:l.1.size<=G:=h6;refine dy 7 rfl λK m=>?_;rw[kU<|by rfl];refine Ak i4 3 14 G (oC I C.st (.slice none 0 0)<|.slice none 0 0) N6 rfl rfl (Cl.one ⟨.non,C.st,0,default,0,default⟩ ⟨I,none,0,none,0⟩) (m.out _ _ (hS _<|oh G4 h6 _) λ_=>?_);clear m K;refine kV (by kernel_rfl) ?_ _;simp only[pz];have T:∀b,bP z w2 b->b≠G:=λb d e=>hI<|e ▸ ⟨d.1,d.2⟩;have aJ:l.1.size<=z.1.size:=Gz.size;have HA:=bC<|R.keep (w':=z4.setRow G (oC I C.st (.slice none 0 0)<|.slice none 0 0).toArray) (A':=cH l.1.size (z4.setRow G (oC I C.st (.slice none 0 0)<|.slice none 0 0).toArray) G<|.slice none 0 0) (λb d=>(mf _ _ _ _<|T b d).trans<|K4.block b d.2) λb d=>⟨kJ aJ d.1,by have:=d.2;have:=K4.size;simp;omega,T b d,by simp[Value.ownBlock]⟩;have HG:=bC<|nh z4 G _ (oC I C.st (.slice none 0 0)<|.slice none 0 0).toArray _ _ N6;have Gc:Below l.1.size l (z4.setRow G (oC I C.st (.slice none 0 0)<|.slice none 0 0).toArray):=oh G4 h6 _;clear T aJ hI N6 e6 K4 R;generalize z4.setRow G _=wc at*;have p8:wc.cell? ⟨w.1.size,8,none⟩=some (.slice D.bq C.nb D.bc):=hS _ Gc 8 _ rfl;have aM:=H.out.2.1;go_wp2_with fail
 go_loopw [18] (λi wr=>∃(k:Nat) (M:Option Addr) (c3:Nat),k<=C.nb/\i=.int .i64 k/\∃L:List (Si × Sv),NZ l wr G I C k M c3 L) (λi _=>C.nb - (intOf i).toNat)
 case atStart=>exact⟨0,none,0,kL _,rfl,[],rfl,HG.out,mH _ _ _ _,by simp[Value.ownBlock],λi x h=>by simp at h,HA.out,Gc⟩
 case round=>
  obtain⟨k,M,c3,hk,rfl,L,HL⟩:=hrel;clear HG HA p8;by_cases af:k<C.nb
  .have am:(k:Int)<(C.nb:Int):=(by omega);obtain⟨b,o,hq,ax,ds,ad⟩:=H.out.2.2.2.1.resolve_left (by omega);have F:=HL.2.2.2.2.2.2;have hx:=bC (bU (bU (ad k af).1 aa ax) F<|by omega);have Hk:=bC (ad k af).2;clear ad;generalize ds k=Y at*;obtain⟨X,ag⟩:∃X,Hid (X=C.bs k):=⟨_,rfl⟩;rw[<-ag.out] at hx Hk;rw[hq]
   go_wp2_with (first
    | (with_reducible refine cW (op:=⟨some 21,_,_,_,_,_⟩) D7 20 b (o+k*9) (X.cells Y) hx.out rfl ?_)
    | (with_reducible refine si (op:=⟨none,_,_,_,_,_⟩) D7 5 21 (X.cells Y) rfl (mh<|Si.one X Y) ?_))
   obtain⟨W,Q,V,T,Z,R,-⟩:=HL;have ae:=(kG.1 Q).1;have s1:=F.size;have Bn:Below wr.1.size wr (wr.alloc<|.cells (X.cells Y).toArray 85):=fH _ _;have ay:=og<|kR wr<|.cells (X.cells Y).toArray 85;have an:wr.1.size<(wr.alloc<|.cells (X.cells Y).toArray 85).1.size:=(by simp);generalize wr.alloc (.cells (X.cells Y).toArray 85)=N at*;have Bd:Below N.1.size N N.drew:=(kE _ _).drew;have ab:∀z,Below N.1.size N z->z.rangeAt wr.1.size 0 (X.cells Y):=λz J=>bU ay J an;have lt:∀b,b<w.1.size->b<w.1.size:=λ_ h=>h;refine kN (S:=λz=>z.rangeAt wr.1.size 0<|X.cells Y) (by kernel_rfl) (ab _ Bd) λhh=>?_;refine tk 0 _ rfl hh ?_;refine tk 1 _ rfl hh ?_;refine fE pe 2 23 wr.1.size 1 [.bool X.g1,.slice Y.q1 Y.l1 Y.c1,.slice Y.p1 Y.m1 Y.e1] rfl rfl hh (λz h=>iE (o:=0) h [.string X.m] [.bool X.g2,.slice Y.q2 Y.l2 Y.c2,.slice Y.p2 Y.m2 Y.e2,.bool X.li,.bool X.hh] rfl) ?_;refine tk 4 _ rfl hh ?_;refine tk 5 _ rfl hh ?_;refine fE pe 6 27 wr.1.size 4 [.bool X.g2,.slice Y.q2 Y.l2 Y.c2,.slice Y.p2 Y.m2 Y.e2] rfl rfl hh (λz h=>iE (o:=0) h [.string X.m,.bool X.g1,.slice Y.q1 Y.l1 Y.c1,.slice Y.p1 Y.m1 Y.e1] [.bool X.li,.bool X.hh] rfl) ?_;refine tk 8 _ rfl hh ?_;refine tk 9 _ rfl hh ?_;refine jQ BR 10 31 wr.1.size 7 _ rfl hh (λz h=>h 7 _ rfl) ?_;refine tk 11 _ rfl hh ?_;refine tk 12 _ rfl hh ?_;refine jQ BR 13 34 wr.1.size 8 _ rfl hh (λz h=>h 8 _ rfl) ?_;refine Fp (fuel:=1) [3,7,14] [15] 4 #[true,true,true,true,true,true,true,true,true,true,true,true,true,true,true,true,false] (λ_=>83) (λ_=>TZ.toArray) (λz J=>ab z<|cV Bd J) ?_ ?_;rotate_left
   .intro f hf a z K h;obtain rfl:f=15:=(by simpa using hf);unfold wpOp;go_simp;exact .inl h
   refine it rfl λxx za ha K m=>?_;have Ba:=cV Bd ha;have Wa:=aa.trans<|(F.trans<|(cV Bn Ba).mono s1).mono aa.size;simp only[cE,pz];go_simp;refine(Kh ((Hk.out.1.ok lt).below Wa)<|(Hk.out.2.1.ok lt).below Wa).mono ?_;rintro r wx ⟨s,f1,t,f2,rfl,aB,aC,ac⟩;refine m.out _ _ ac ?_;clear m K;have Bx:=cV Ba ac;refine it rfl λxx zb d K m=>?_;have Bb:=cV Bx d;have Wb:=aa.trans<|(F.trans<|(cV Bn Bb).mono s1).mono aa.size;simp only[cE,pz];go_simp;refine(Kh ((Hk.out.2.2.1.ok lt).below Wb)<|(Hk.out.2.2.2.1.ok lt).below Wb).mono ?_;rintro r wy ⟨A,q,B,E,rfl,aD,aE,ai⟩;refine m.out _ _ ai ?_;clear m K;have By:=cV Bb ai;have aU:=bC (rfl:(⟨s,Y.l1,f1,t,Y.m1,f2,A,Y.l2,q,B,Y.m2,E⟩:Sv)=_);refine it rfl λxx zc hc K m=>?_;rw[kU<|by kernel_rfl];refine bd 83 _ (X.iv ⟨s,Y.l1,f1,t,Y.m1,f2,A,Y.l2,q,B,Y.m2,E⟩)<|m.out _ _ (kE _ _) ?_;clear m K;rintro xx U hd ⟨p,hp,-,-,hI⟩;obtain⟨a8,aA,ar⟩:=hp 15 (by simp) (by simp);have I1:=hI 15 (by simp) (by simp) (za.1.size,wx.1.size) (by simp);have I2:=hI 15 (by simp) (by simp) (zb.1.size,wy.1.size) (by simp);have Kd:Below wy.1.size wy U:=cV hc hd;have Bz:=cV By Kd;simp only[cE,pz,bY,a8];generalize p 15=P at*;have fZ:N.1.size<=P:=aA;refine dy 16 rfl λK m=>?_;rw[kU<|by rfl];refine Ak oG 6 36 P (X.iv ⟨s,Y.l1,f1,t,Y.m1,f2,A,Y.l2,q,B,Y.m2,E⟩) ar rfl rfl (λu hu=>Si.one X ⟨s,Y.l1,f1,t,Y.m1,f2,A,Y.l2,q,B,Y.m2,E⟩ u<|lM _ hu) (m.out _ _ (ab _<|oh Bz fZ _) λ_=>?_);clear m K;refine kV (by kernel_rfl) ?_ _;simp only[pz];have r5:∀kk,(Value.slice M k c3).ownBlock=some kk->kk<wr.1.size:=λkk e=>(V.lt kk e).2;have aR:=bC<|nh U P _ (X.iv ⟨s,Y.l1,f1,t,Y.m1,f2,A,Y.l2,q,B,Y.m2,E⟩).toArray _ _ ar;have sa:wr.1.size<=za.1.size:=kJ Bn.size Ba.size;have sb:wr.1.size<=zb.1.size:=kJ Bn.size Bb.size;have Bv:Below wr.1.size wr (U.setRow P (X.iv ⟨s,Y.l1,f1,t,Y.m1,f2,A,Y.l2,q,B,Y.m2,E⟩).toArray):=oh (cV Bn Bz) (kJ Bn.size fZ) _;have aS:=ab _<|oh Bz fZ (X.iv ⟨s,Y.l1,f1,t,Y.m1,f2,A,Y.l2,q,B,Y.m2,E⟩).toArray;have aq:Below wx.1.size wx U:=(cV d ai).trans<|Kd.mono<|kJ d.size ai.size
   have HS:=bC (show SiA (U.setRow P (X.iv ⟨s,Y.l1,f1,t,Y.m1,f2,A,Y.l2,q,B,Y.m2,E⟩).toArray) (cH l.1.size (U.setRow P (X.iv ⟨s,Y.l1,f1,t,Y.m1,f2,A,Y.l2,q,B,Y.m2,E⟩).toArray) G<|.slice M k c3) X ⟨s,Y.l1,f1,t,Y.m1,f2,A,Y.l2,q,B,Y.m2,E⟩ from by
    have k1:Keeps (bP za wx) wx (U.setRow P (X.iv ⟨s,Y.l1,f1,t,Y.m1,f2,A,Y.l2,q,B,Y.m2,E⟩).toArray):=λb d=>(mf _ _ _ _<|by rintro rfl;exact I1 d).trans<|aq.block b d.2;have k2:Keeps (bP zb wy) wy (U.setRow P (X.iv ⟨s,Y.l1,f1,t,Y.m1,f2,A,Y.l2,q,B,Y.m2,E⟩).toArray):=λb d=>(mf _ _ _ _<|by rintro rfl;exact I2 d).trans<|Kd.block b d.2;have n1:=BQ (w0:=l.1.size) (y:=U.setRow P (X.iv ⟨s,Y.l1,f1,t,Y.m1,f2,A,Y.l2,q,B,Y.m2,E⟩).toArray) (w5:=wx) ae s1 r5 sa (by simpa using aq.size);have n2:=BQ (w0:=l.1.size) (y:=U.setRow P (X.iv ⟨s,Y.l1,f1,t,Y.m1,f2,A,Y.l2,q,B,Y.m2,E⟩).toArray) (w5:=wy) ae s1 r5 sb<|by simpa using Kd.size
    exact⟨aB.keep k1 n1,aC.keep k1 n1,aD.keep k2 n2,aE.keep k2 n2,Hk.out.2.2.2.2⟩)
   clear I1 I2 aB aC aD aE aq Kd sa sb a8 ar aA Bz By Bx Bb Ba Wa Wb ac ai d ha hc hd hI hp;generalize U.setRow P _=wv at*;have m0:wv.cell? ⟨wr.1.size,0,none⟩=some (.string X.m):=aS 0 _ rfl;have m8:wv.cell? ⟨G,8,none⟩=some (.slice M k c3):=(by rw[pG _ _ _ _ _ _<|(Bv.block _ ae).trans Q];rfl);have R6:=bC<|og aR.out;have B9:=fH wv<|.cells (X.cells ⟨s,Y.l1,f1,t,Y.m1,f2,A,Y.l2,q,B,Y.m2,E⟩).toArray 85;have a6:=cV Bv B9
   go_wp2_with (first
    | (with_reducible refine cW (op:=⟨some 41,_,_,_,_,_⟩) oG 6 P 0 (X.iv ⟨s,Y.l1,f1,t,Y.m1,f2,A,Y.l2,q,B,Y.m2,E⟩) R6.out rfl ?_)
    | (with_reducible refine QX (op:=⟨some 42,_,_,_,_,_⟩) 85 _ (X.cells ⟨s,Y.l1,f1,t,Y.m1,f2,A,Y.l2,q,B,Y.m2,E⟩) ?_)
    | (with_reducible refine Al (op:=⟨some 43,_,_,_,_,_⟩) FZ (.tmp 42) (X.cells ⟨s,Y.l1,f1,t,Y.m1,f2,A,Y.l2,q,B,Y.m2,E⟩) rfl ?_)
    | (with_reducible refine QY (oi:=⟨some 44,_,_,_,_,_⟩) FZ T0 38 43 G 8 k wv.1.size (y:=X.cells ⟨s,Y.l1,f1,t,Y.m1,f2,A,Y.l2,q,B,Y.m2,E⟩) F aF Q rfl V T a6 (by omega) (kR _ _) rfl (Si.one _ _) rfl ?_
       intro g c w8 m1 m2 m3 m4 m5 m6;obtain⟨au,av⟩:=BP (w0:=l.1.size) (G:=G) (v:=.slice M k c3) a6;obtain⟨a9,a'⟩:=BP (w0:=l.1.size) (G:=G) (v:=.slice M k c3) B9
       have HR:NZ l w8 G I C (k+1) (some ⟨g,0,none⟩) c (L++[(X,⟨s,Y.l1,f1,t,Y.m1,f2,A,Y.l2,q,B,Y.m2,E⟩)]):=
        ⟨by simp[W],m1,by rw[mj,mQ];exact m2,m3,C' W (λi x h=>⟨(Z i x h).1,((Z i x h).2.keep au av).keep m5 m6⟩) ⟨ag.out,(HS.out.keep a9 a').keep m5 m6⟩,(R.keep au av).keep m5 m6,m4⟩
       clear m1 m2 m3 m4 m5 m6 au av a9 a'))
   go_roundw
   case rel=>exact⟨k+1,some ⟨g,0,none⟩,c,by omega,by go_num,_,HR⟩
   case measure=>simp[intOf];omega
  obtain rfl:k=C.nb:=(by omega);have aO:¬(C.nb:Int)<(C.nb:Int):=(by omega);obtain⟨W,Q,V,T,Z,R,F⟩:=HL;have wk:∀b,cH l.1.size wr G (.slice M C.nb c3) b->cH l.1.size wr G (.slice none 0 0) b:=λb d=>⟨d.1,d.2.1,d.2.2.1,by simp[Value.ownBlock]⟩
  have HS:Hid (SisA wr (cH l.1.size wr G<|.slice none 0 0) M C.nb C.bs):=bC ((Da (f:=Cm) (λ_=>rfl) V W).imp id λ⟨g,e1,g1,g2,g3,g4⟩=>⟨g,0,e1,⟨g1,g2,λe=>T<|e ▸ g3,by simp[Value.ownBlock]⟩,λi=>(L.getD i default).2,λi hi=>by
   have aj:L[i]?=some (L.getD i default):=(by simp[List.getD,show i<L.length by omega]);obtain⟨k1,k2⟩:=Z i _ aj;have hr:=g4 i _ aj;rw[<-k1]
   exact⟨hr,k2.keep (Keeps.refl _ _) wk⟩⟩)
  have HG:=bC Q;have HA:=bC<|R.keep (Keeps.refl _ _) wk;have Gc:=F;have p9:wr.cell? ⟨w.1.size,9,none⟩=some (.slice D.cq C.nc D.cc):=hS _ F 9 _ rfl;have aN:=H.out.2.2.1;clear Q V T Z R wk W F;go_wp2_with fail
  go_loopw [50] (λi wr=>∃(k:Nat) (O:Option Addr) (c4:Nat),k<=C.nc/\i=.int .i64 k/\∃L:List (Co × Nd),N0 l wr G I C M c3 k O c4 L) (λi _=>C.nc - (intOf i).toNat)
  case atStart=>exact⟨0,none,0,kL _,rfl,[],rfl,HG.out,mH _ _ _ _,by simp[Value.ownBlock],λi x h=>by simp at h,HA.out,HS.out,Gc⟩
  case round=>
   obtain⟨k,O,c4,hk,rfl,L,HL⟩:=hrel;clear HG HA HS Gc p9;by_cases af:k<C.nc
   .have am:(k:Int)<(C.nc:Int):=(by omega);obtain⟨b,o,hq,ax,ds,ad⟩:=H.out.2.2.2.2.resolve_left (by omega);have F:=HL.2.2.2.2.2.2.2;have hx:=bC (bU (bU (ad k af).1 aa ax) F<|by omega);have Hk:=bC (ad k af).2;have a7:=bC<|Hs.out.2 k af;clear ad;generalize ds k=Y at*;obtain⟨X,ag⟩:∃X,Hid (X=C.cs k):=⟨_,rfl⟩;rw[<-ag.out] at hx Hk a7;rw[hq]
    go_wp2_with (first
     | (with_reducible refine cW (op:=⟨some 53,_,_,_,_,_⟩) GA 52 b (o+k*8) (X.cells Y) hx.out rfl ?_)
     | (with_reducible refine si (op:=⟨none,_,_,_,_,_⟩) GA 8 53 (X.cells Y) rfl (mh<|Co.one X Y) ?_))
    obtain⟨W,Q,V,T,Z,R,aw,-⟩:=HL;have ae:=(kG.1 Q).1;have s1:=F.size;have Bn:Below wr.1.size wr (wr.alloc<|.cells (X.cells Y).toArray 90):=fH _ _;have ay:=og<|kR wr<|.cells (X.cells Y).toArray 90;have an:wr.1.size<(wr.alloc<|.cells (X.cells Y).toArray 90).1.size:=(by simp);have cG:(wr.alloc<|.cells (X.cells Y).toArray 90).cell? ⟨G,9,none⟩=some (.slice O k c4):=(by rw[pj _ _ _ ae,pG _ _ _ _ _ _ Q];rfl);generalize wr.alloc (.cells (X.cells Y).toArray 90)=N at*;have Bd:Below N.1.size N N.drew:=(kE _ _).drew;have ab:∀z,Below N.1.size N z->z.rangeAt wr.1.size 0 (X.cells Y):=λz J=>bU ay J an;refine kN (S:=λz=>z.rangeAt wr.1.size 0<|X.cells Y) (by kernel_rfl) (ab _ Bd) λhh=>?_;refine tk 0 _ rfl hh ?_;refine tk 2 _ rfl hh ?_;refine fE eU 3 56 wr.1.size 0 Y.cells rfl rfl hh (λz h=>iE (o:=0) h [] [.bool X.st] rfl) ?_;refine tk 5 _ rfl hh ?_;refine jQ BR 6 59 wr.1.size 7 _ rfl hh (λz h=>h 7 _ rfl) ?_;refine Ee (fuel:=3) Ki [4,7,8] 1 54 G 9 4 (.slice O k c4) (by show _<N.1.size;omega) cG rfl (λz J=>ab z<|cV Bd J) ?_ (l1:=#[true,true,true,true,true,true,true,true,true,false,false,false]);refine it rfl λxx z J K m=>?_;have Bz:=cV Bd J;have ao:=cV Bn Bz;have Wz:=aa.trans<|(F.trans<|ao.mono s1).mono aa.size;simp only[cE,pz];go_simp;refine(NY X.x Y _ ((Hk.out.ok λ_ h=>h).below Wz) a7.out).mono ?_;rintro r w5 ⟨f',rfl,aL,ac⟩;refine m.out _ _ ac ?_;clear m K;have B5:=cV ao ac;refine it rfl λxx z3 al K m=>?_;rw[kU<|by kernel_rfl];refine bd 90 _ (X.cells f')<|m.out _ _ (kE _ _) ?_;clear m K;refine it rfl λxx z6 aH K m=>?_;rw[kU<|by kernel_rfl];refine C8 F0 (.tmp 61) (X.cells f') rfl (m.out _ _ (fH _ _) ?_);clear m K;have cA:=kR z6<|.cells (X.cells f').toArray 90;have B6:=(cV al aH).trans<|(fH z6<|.cells (X.cells f').toArray 90).mono<|kJ al.size aH.size;have cC:z6.1.size<(z6.alloc<|.cells (X.cells f').toArray 90).1.size:=(by simp);intro xx z7 aI e0;have e0:=e0 (by simp);have B7:=cV B6 aI;have a0:Below wr.1.size wr z7:=cV B5 B7;have a5:Below N.1.size N z7:=Bz.trans<|(cV ac B7).mono Bz.size;have r5:∀kk,(Value.slice O k c4).ownBlock=some kk->kk<wr.1.size:=λkk e=>(V.lt kk e).2;refine Ef F0 T4 9 10 11 55 62 G 9 k z6.1.size (y:=X.cells f') rfl rfl rfl F aF Q rfl V T a0 (by omega) (λz kz=>kz.range ⟨s1,kw an a5.size,by omega,λe=>by have:=r5 _ e;omega⟩<|ab _ a5) ((aI.block _ cC).trans cA) rfl (Co.one X f') (by exact(show _=xx 1 by kernel_rfl).trans e0) ?_;intro g c w8 m1 m2 m3 m4 m5 m6;refine kV (by kernel_rfl) ?_ _;obtain⟨f1,f2⟩:=BP (w0:=l.1.size) (G:=G) (v:=.slice O k c4) a0;have q:=BQ (w0:=l.1.size) (y:=z7) ae s1 r5 ao.size B7.size
    have HR:N0 l w8 G I C M c3 (k+1) (some ⟨g,0,none⟩) c (L++[(X,f')]):=
     ⟨by simp[W],m1,by rw[mj,mQ];exact m2,m3,C' W (λi x h=>⟨(Z i x h).1,((Z i x h).2.keep f1 f2).keep m5 m6⟩) ⟨ag.out,(aL.keep (λb d=>B7.block b d.2) q).keep m5 m6⟩,(R.keep f1 f2).keep m5 m6,(aw.keep f1 f2).keep m5 m6,m4⟩
    clear m1 m2 m3 m4 m5 m6 f1 f2 q;simp only[cE,pz,bY];go_wp2_with fail;go_roundw
    case rel=>exact⟨k+1,some ⟨g,0,none⟩,c,by omega,by go_num,_,HR⟩
    case measure=>simp[intOf];omega
   obtain rfl:k=C.nc:=(by omega);have aO:¬(C.nc:Int)<(C.nc:Int):=(by omega);obtain⟨W,Q,V,T,Z,R,aw,F⟩:=HL;have s1:=F.size;have R3:Hid (wr.rangeAt G 0<|C.cells ⟨I,M,c3,O,c4⟩):=bC<|og Q;have T3:=bC<|(F.block (w.1.size+1)<|by omega).trans aP;have aK:=bC az;clear az
   go_wp2_with (first
    | (with_reducible refine cW (op:=⟨some 66,_,_,_,_,_⟩) i4 3 G 0 (C.cells ⟨I,M,c3,O,c4⟩) R3.out rfl ?_)
    | (with_reducible refine Am (op:=⟨none,_,_,_,_,_⟩) i4 2 66 (w.1.size+1) (C.cells ⟨I,M,c3,O,c4⟩) T3.out rfl rfl (Cl.one _ _) ?_))
   have az:=aK.out;refine xF i4 (p:=2) (nh _ _ _ _ _ _ T3.out) rfl ?_;have kp:Keeps (cH l.1.size wr G<|.slice O C.nc c4) wr (wr.setRow (w.1.size+1) (C.cells ⟨I,M,c3,O,c4⟩).toArray):=λb d=>mf _ _ _ _ (by have:=d.1;omega);have fr:∀b,cH l.1.size wr G (.slice O C.nc c4) b->bP w (wr.setRow (w.1.size+1) (C.cells ⟨I,M,c3,O,c4⟩).toArray) b:=λb d=>⟨by have:=d.1;omega,by have:=d.2.1;simpa using this⟩;refine⟨⟨I,M,c3,O,c4⟩,rfl,⟨R.keep kp fr,aM,aN,aw.keep kp fr,(Da (f:=condC) (λ_=>rfl) V W).imp id λ⟨g,e1,g1,g2,g3,g4⟩=>⟨g,0,e1,⟨by omega,by simpa using g2⟩,λi=>(L.getD i default).2,λi hi=>?_⟩⟩,oh (cV aa F) (by omega) _⟩;have aj:L[i]?=some (L.getD i default):=(by simp[List.getD,show i<L.length by omega]);obtain⟨k1,k2⟩:=Z i _ aj;rw[<-k1];exact⟨λj u hu=>(ml<|mf _ _ _ _<|by show g≠_;omega).trans<|g4 i _ aj j u hu,k2.keep kp fr⟩
set_option maxRecDepth 100000 in
set_option maxHeartbeats 4000000 in
theorem zi {d:Sd} {X:St} (r:StOk w X d) (z:dC X):cN 27 #[.agg d.cells.toArray,.slice none 0 0] w λe w'=>∃a:Sd,e=.returned (.tuple #[.agg a.cells.toArray,.bool true])/\StA w' (bP w w') X a/\Below w.1.size w w':=by
 have A:¬(0:Int)<0:=by decide
 have j:Below w.1.size w ((w.alloc<|.cells d.cells.toArray 42).alloc<|.cells uU.cells.toArray 42):=dF _ _ _;have m:=bC<|Db X d _ (r.below j) z;have t:((w.alloc<|.cells d.cells.toArray 42).alloc<|.cells uU.cells.toArray 42).rangeAt w.1.size 0 d.cells:=oI.1;have ht:((w.alloc<|.cells d.cells.toArray 42).alloc<|.cells uU.cells.toArray 42).1[w.1.size+1]?=some (.cells uU.cells.toArray 42 (0,0)):=xE;have o:((w.alloc<|.cells d.cells.toArray 42).alloc<|.cells uU.cells.toArray 42).1.size=w.1.size+2:=by simp
 have l:=bC t;have k:=bC ht;have h:=bC o;clear r t ht o;go_enter func27,ntmps27;go_upto_region 1 with fail;generalize g:(w.alloc _).alloc _=f;replace l:Hid (f.rangeAt w.1.size 0 d.cells):=by rw[<-g];exact l
 replace k:Hid (f.1[w.1.size+1]?=some (.cells uU.cells.toArray 42 (0,0))):=by rw[<-g];exact k
 replace h:Hid (f.1.size=w.1.size+2):=by rw[<-g];exact h
 replace j:Below w.1.size w f:=by rw[<-g];exact j
 replace m:Hid (cN 46 #[d.val] f λe w'=>∃a:Sd,e=.returned a.val/\StA w' (bP f w') X a/\Below f.1.size f w'):=by rw[<-g];exact m
 clear g;go_wp2_with fail;refine my ?_
 go_wp2_with (first
  | (with_reducible refine cW (op:=⟨some 30,_,_,_,_,_⟩) jh 2 w.1.size 0 d.cells l.out rfl ?_)
  | (go_at_call 46;refine m.out.mono ?_;rintro e B ⟨a,rfl,x,s⟩
     have q:=bC<|(s.block (w.1.size+1)<|by have:=h.out;omega).trans k.out)
  | (with_reducible refine Am (op:=⟨none,_,_,_,_,_⟩) jh 4 31 (w.1.size+1) a.cells q.out rfl rfl (GO a) ?_))
 obtain⟨⟨u,hu,y⟩,hi⟩:=jh;refine lJ (G9 rfl _ _ (w.1.size+1) a.cells u rfl (og<|nh _ _ _ _ _ _ q.out) hu y hi) rfl ?_;have o:=h.out;exact⟨a,rfl,x.keep (λb i=>mf _ _ _ _<|by have:=i.1;omega) λb i=>⟨by have:=i.1;omega,by have:=i.2;simpa using this⟩,oh (cV j s) (by omega) _⟩
def Ua:List Value:=oC uL false (.slice none 0 0)<|.slice none 0 0
def zj:List Value:=.string ⟨#[]⟩::.int .i64 0::(Ua++uU.cells)
set_option maxRecDepth 100000 in
set_option maxHeartbeats 4000000 in
theorem N1 {e:Ent} {D:Cd} {d:Sd} (h1:ClOk w e.C D) (s1:fJ e.C) (h2:StOk w e.X d) (s2:dC e.X):
  cN 13 #[.agg (e.cells D d).toArray] w λr w'=>∃i f,r=.returned (.agg (e.cells i f).toArray)/\ClA w' (bP w w') e.C i/\StA w' (bP w w') e.X f/\Below w.1.size w w':=by
 have x:Below w.1.size w ((w.alloc<|.cells (e.cells D d).toArray 44).alloc<|.cells zj.toArray 44):=dF _ _ _;have E:=bC<|zi (h2.below x) s2;have H:=bC (oI (w:=w) (xs:=e.cells D d) (ys:=zj) (t:=44) (t':=44)).1;have ht:=bC<|xE (w:=w) (a:=.cells (e.cells D d).toArray 44) (b:=.cells zj.toArray 44);have I:=bC (show((w.alloc<|.cells (e.cells D d).toArray 44).alloc<|.cells zj.toArray 44).1.size=w.1.size+2 by simp);have X:=bC h1;clear h1 h2;go_enter func13,ntmps13;go_upto_region 1 with fail;generalize B:(w.alloc _).alloc _=k;replace H:Hid (k.rangeAt w.1.size 0<|e.cells D d):=by rw[<-B];exact H
 replace ht:Hid (k.1[w.1.size+1]?=some (.cells zj.toArray 44 (0,0))):=by rw[<-B];exact ht
 replace I:Hid (k.1.size=w.1.size+2):=by rw[<-B];exact I
 replace x:Below w.1.size w k:=by rw[<-B];exact x
 replace E:Hid (cN 27 #[.agg d.cells.toArray,.slice none 0 0] k λr w'=>∃f:Sd,r=.returned (.tuple #[.agg f.cells.toArray,.bool true])/\StA w' (bP k w') e.X f/\Below k.1.size k w'):=by rw[<-B];exact E
 clear B;have hR:∀z,Below k.1.size k z->z.rangeAt w.1.size 0 (e.cells D d):=λz J=>bU H.out J (by have:=I.out;omega);have T:Hid (k.rangeAt w.1.size 12 d.cells):=iE (o:=0) H.out (.string e.k.1::.int .i64 e.k.2::e.C.cells D) []<|by rw[mU];rfl
 go_upto_region 2 with(first
  | (with_reducible refine cW (op:=⟨some 7,_,_,_,_,_⟩) jh 6 w.1.size 12 d.cells T.out rfl ?_)
  | (go_at_call 27;refine E.out.mono ?_;rintro r q ⟨f,rfl,P,F⟩)
  | (with_reducible refine si (op:=⟨none,_,_,_,_,_⟩) jh 3 9 f.cells rfl (Sd.one f) ?_))
 have hG:=og<|kR q<|.cells f.cells.toArray 42;have C:Below k.1.size k (q.alloc<|.cells f.cells.toArray 42):=F.trans<|(fH _ _).mono F.size;have Q:q.1.size<(q.alloc<|.cells f.cells.toArray 42).1.size:=by simp
 have Z:=bC<|P.keep (A':=λb=>k.1.size<=b/\b<(q.alloc<|.cells f.cells.toArray 42).1.size) (λb g=>(fH q<|.cells f.cells.toArray 42).block b g.2) λb g=>⟨g.1,nH g.2 Q⟩;have ac:=F.size;clear P F E T;generalize q.alloc (.cells f.cells.toArray 42)=y at*;generalize q.1.size=G at*;have L:Below y.1.size y y.drew:=(kE _ _).drew;have A:∀z,Below y.1.size y z->z.rangeAt w.1.size 0 (e.cells D d)/\z.rangeAt G 0 f.cells:=λz J=>⟨hR z<|cV C J,bU hG J Q⟩;refine kN (S:=λz=>z.rangeAt w.1.size 0 (e.cells D d)/\z.rangeAt G 0 f.cells) (by kernel_rfl) (A _ L) λhh=>?_;refine tk 0 _ rfl hh ?_;refine jQ BS 1 11 w.1.size 0 _ rfl hh (λz h=>h.1 0 _ rfl) ?_;refine tk 2 _ rfl hh ?_;refine jQ Fs 3 13 w.1.size 1 _ rfl hh (λz h=>h.1 1 _ rfl) ?_;refine tk 4 _ rfl hh ?_;refine fE i4 5 15 w.1.size 2 (e.C.cells D) rfl rfl hh (λz h=>iE (o:=0) h.1 [.string e.k.1,.int .i64 e.k.2] d.cells rfl) ?_;refine fE jh 7 3 G 0 f.cells rfl rfl hh (λz h=>h.2) ?_;refine dy 6 rfl λK m=>?_;go_simp;have Wd:=x.trans<|(cV C L).mono x.size;refine(T' (X.out.below Wd) s1).mono ?_;rintro r l ⟨i,rfl,hC,R⟩;have s:=cV L R;refine m.out _ _ (A _ s) λ_=>?_;clear m K;refine dy 8 rfl λK m=>?_;rw[kU<|by kernel_rfl];refine bd 44 _ (e.cells i f)<|m.out _ _ (A _ s) λ_=>?_;clear m K;have ab:=I.out;have O:=(s.block (w.1.size+1)<|by omega).trans<|(C.block (w.1.size+1)<|by omega).trans ht.out;have Wf:=x.trans<|(cV C s).mono x.size;have M:∀b,b≠w.1.size+1->∀o cs,l.rangeAt b o cs->(l.setRow (w.1.size+1) (e.cells i f).toArray).rangeAt b o cs:=λb g o cs h j u hu=>(ml<|mf _ _ _ _ g).trans<|h j u hu;refine dy 9 rfl λK m=>?_;rw[kU<|by kernel_rfl];refine Ak iq 2 19 (w.1.size+1) (e.cells i f) O rfl rfl (Ent.one _ _ _) (m.out _ _ ⟨M _ (by omega) _ _ (A _ s).1,M _ (by omega) _ _ (A _ s).2⟩ λ_=>?_);clear m K;have s3:=R.size;have s4:y.1.size<=y.drew.1.size:=kF _;have Y:=bC<|nh l _ _ (e.cells i f).toArray _ _ O;have U:=oh Wf (show w.1.size<=w.1.size+1 by omega) (e.cells i f).toArray;have aa:(l.setRow (w.1.size+1) (e.cells i f).toArray).1.size=l.1.size:=by simp
 have N:Keeps (λb=>b≠w.1.size+1) l (l.setRow (w.1.size+1) (e.cells i f).toArray):=λb g=>mf _ _ _ _ g;have V:=bC<|hC.keep (A':=bP w<|l.setRow (w.1.size+1) (e.cells i f).toArray) (λb g=>N b<|by have:=g.1;omega) λb g=>⟨by have:=g.1;omega,by have:=g.2;omega⟩;have W:=bC<|Z.out.keep (A':=bP w<|l.setRow (w.1.size+1) (e.cells i f).toArray) (λb g=>(N b<|by have:=g.1;omega).trans<|s.block b g.2) λb g=>⟨by have:=g.1;omega,by have:=g.2;omega⟩;clear M A N;generalize l.setRow (w.1.size+1) _=w4 at*;refine kV (by kernel_rfl) ?_ _;simp only[pz];go_wp2_with fail;refine xF (cs:=e.cells i f) iq (p:=2) Y.out rfl ?_;exact⟨i,f,rfl,V.out,W.out,U⟩
set_option maxRecDepth 100000
set_option maxHeartbeats 16000000
def oa (w0:Nat) (wr:World) (v:Value) (b:Nat):Prop:=w0<=b/\b<wr.1.size/\v.ownBlock≠some b
theorem zk {w0 g c:Nat} {wr z w5 d:World} {v u:Value} {i:Obj} (s:w0<=wr.1.size) (o:Below wr.1.size wr z) (h5:Below z.1.size z w5) (m:(w5.alloc i).grownBy d v.ownBlock) (r:v.ownBlock=some g\/g=(w5.alloc i).1.size)
  (q:∀k,v.ownBlock=some k->w0<=k/\k<wr.1.size) (hu:u=.slice (some ⟨g,0,none⟩) n c):
  Keeps (oa w0 wr v) wr d/\(∀b,oa w0 wr v b->oa w0 d u b)/\Keeps (bP z w5) w5 d/\(∀b,bP z w5 b->oa w0 d u b)/\wr.1.size<=d.1.size:=by
 have s1:=o.size;have s2:=h5.size;have t:(w5.alloc i).1.size=w5.1.size+1:=by simp
 have x:=m.size;have j:u.ownBlock=some g:=by rw[hu];rfl
 have f:∀b,b<w5.1.size->v.ownBlock≠some b->g≠b:=by
  intro b a hv f
  rcases r with h | h
  .exact hv (by rw[h,f])
  omega
 have l:∀b,b<w5.1.size->v.ownBlock≠some b->d.1[b]?=w5.1[b]?:=by intro b a hv;rw[m.block b (by omega) λe=>hv e.symm,mW _ _ _ a]
 have old:∀b,b<wr.1.size->v.ownBlock≠some b->d.1[b]?=wr.1[b]?:=by intro b a hv;rw[l b (by omega) hv,h5.block b<|by omega,o.block b a]
 have fr:∀b,bP z w5 b->v.ownBlock≠some b:=by intro b a e;have h1:=a.1;have:=q b e;omega
 refine⟨λb a=>old b a.2.1 a.2.2,λb a=>?_,λb a=>l b a.2<|fr b a,λb a=>?_,by omega⟩
 .obtain⟨h1,h2,h3⟩:=a;refine⟨h1,by omega,?_⟩;rw[j];exact λe=>f b (by omega) h3<|pD e
 have h1:=a.1;have h2:=a.2;refine⟨by omega,by omega,?_⟩;rw[j];exact λe=>f b h2 (fr b a)<|pD e
theorem N2 {ops:Array Oper} {rest:List Oper} {o:Oper} {a:Act} {Q:Exit->Act->World->Prop} (g:o.guard=none) (x:Operand) (k:o.op=.buildSlice 22 1 #[(0,x)]) (y:List Value) (m:y.length=33) (l:a.eval x=.agg y.toArray)
  (h:wpList prog ops Q rest (a.put o.dst<|.slice (some ⟨w.1.size,0,none⟩) 1 1) (w.alloc<|.cells y.toArray 44)):wpList prog ops Q (o::rest) a w:=by
 obtain⟨b,j,e,d⟩:∃b,prog.info? 44=some b/\(∃z,b.zero=some z)/\b.size=33:=by
  have h:(prog.info? 44).map (λi=>(i.zero.isSome,i.size))=some (true,33):=by kernel_rfl
  rw[pF] at h;obtain⟨b,h1,h2⟩:=h;exact⟨b,h1,ql.1<|by simpa using mn Prod.fst h2,by simpa using mn Prod.snd h2⟩
 obtain⟨z,e⟩:=e;refine wpList_buildSlice g 22 44 1 #[(0,x)] k y.toArray b z underlying22 j e (by rw[d];decide) (by rw[d];decide) ?_ h;have f:=Great.fill_whole (s:=33) (by decide) [Value.agg y.toArray] ((Array.range<|1*33).map (z.cells[·% z.cells.size]!)) (by simp[Value.cells,m]) (by simp);rw[d];simpa [l,Value.cells] using f
def gP (p:Ent × Cd × Sd):List Value:=p.1.cells p.2.1 p.2.2
def EtA (w:World) (A:Nat->Prop) (p:Ent × Cd × Sd):Prop:=ClA w A p.1.C p.2.1/\StA w A p.1.X p.2.2
def A9 (w:World) (B:Nat) (v:Value) (es:Nat->Ent) (L:List (Ent × Cd × Sd)):Prop:=∀i p,L[i]?=some p->p.1=es i/\EtA w (oa B w v) p
theorem EtA.keep {w':World} {A A':Nat->Prop} (d:Keeps A w w') (a:∀b,A b->A' b) {p:Ent × Cd × Sd} (h:EtA w A p):EtA w' A' p:=⟨h.1.keep d a,h.2.keep d a⟩
theorem zm {q:Option Addr} {c:Nat} (es:Nat->Ent) (x:Nat->List Value) (hn:n<=1048576) (lx:∀i,i<n->(x i).length=33) (ox:∀i,i<n->∀u∈x i,u.oneCell'=true)
  (h1:n=0\/∃b o,q=some ⟨b,o,none⟩/\b<w.1.size/\∀i,i<n->w.rangeAt b (o+i*33) (x i))
  (V:∀i,i<n->∀z,Below w.1.size w z->cN 13 #[.agg (x i).toArray] z λr w'=>∃a d,r=.returned (.agg ((es i).cells a d).toArray)/\ClA w' (bP z w') (es i).C a/\StA w' (bP z w') (es i).X d/\Below z.1.size z w'):
  cN 11 #[.slice q n c] w λr w'=>∃(v:Value) (L:List (Ent × Cd × Sd)),r=.returned v/\L.length=n/\w'.ownsRow w.1.size 44 33 v n (L.flatMap gP)/\A9 w' w.1.size v es L/\Below w.1.size w w':=by
 have Q:=bC h1;clear h1;obtain⟨E,hu,K⟩:=FR;have H:=bC hu;clear hu;obtain⟨i0,hi,N,ab,ac⟩:=mE (show(prog.info? 44).map (λi=>(i.zero,i.size,i.bytes))=some (some<|.agg #[.string ⟨#[]⟩,.int .i64 0,.int .i64 0,.int .i64 0,.bool false,.slice none 0 0,.slice none 0 0,.string ⟨#[]⟩,.slice none 0 0,.bool false,.slice none 0 0,.slice none 0 0,.int .i64 0,.string ⟨#[]⟩,.string ⟨#[]⟩,.bool false,.slice none 0 0,.slice none 0 0,.int .i64 0,.int .i64 0,.int .i64 0,.int .i64 0,.int .i64 0,.bool false,.slice none 0 0,.slice none 0 0,.string ⟨#[]⟩,.slice none 0 0,.slice none 0 0,.string ⟨#[]⟩,.int .i64 0,.slice none 0 0,.slice none 0 0],33,520) by kernel_rfl);have je:=bC N;clear N;go_enter func11,ntmps11;go_wp2_with fail
 go_loopw [3,8] (λx i wr=>∃(k:Nat) (v:Value),k<=n/\i=.int .i64 k/\x=v/\∃L:List (Ent × Cd × Sd),L.length=k/\wr.ownsRow w.1.size 44 33 v k (L.flatMap gP)/\A9 wr w.1.size v es L/\Below w.1.size w wr) (λ_ i _=>n - (intOf i).toNat)
 case atStart=>exact⟨0,_,kL _,rfl,rfl,[],rfl,mH _ _ _ _,λi p h=>by simp at h,kE _ _⟩
 case round=>
  obtain⟨k,v,hk,rfl,aa,L,I,l,s,j⟩:=hrel;have jf:=aa.symm;subst jf;have C:=j.size;by_cases t:k<n
  .have am:(k:Int)<(n:Int):=by omega
   rcases Q.out with h0 | ⟨b,o,rfl,X,J⟩
   .omega
   have hx:=bC<|bU (J k t) j X;have W:=V k t;have A:=lx k t;have ok:=ox k t;have M:=l.lt;clear J;generalize x k=f at*;have m:=bC s;have ad:=bC ok;clear s ok
   go_wp2_with (first
    | (with_reducible refine nI ?_ 44 (.tmp 10) ?_ b (o+k*33) ?_ f E hx.out H.out K ?_ ?_
       rotate_left 1
       .with_reducible rfl
       .rfl
       .rw[A];exact yE
       rotate_left 1
       rfl)
    | (with_reducible refine GI ?_ 44 (.tmp 5) (.tmp 11) ?_ f.toArray wr.1.size rfl ?_ ?_ ?_ ?_ ?_ ?_
       rotate_left 1
       .with_reducible rfl
       .rfl
       .rfl
       .rw[show f.toArray.size=33 by simp[A]];rfl
       .rw[show f.toArray.size=33 by simp[A]];exact yE
       .exact mh ad.out
       rotate_left 1
       rfl)
    | (with_reducible refine nI ?_ 44 (.tmp 5) ?_ wr.1.size 0 ?_ f E (oe wr f 44) H.out K ?_ ?_
       rotate_left 1
       .with_reducible rfl
       .rfl
       .rw[A];exact yE
       rotate_left 1
       rfl)
    | (go_at_call 13;refine(W _<|j.trans<|(fH wr _).mono C).mono ?_;rintro r w5 ⟨a,d,rfl,F,G,e⟩
       have P:((es k).cells a d).length=33:=rfl;have oy:=bC<|Ent.one (es k) a d;have ag:wr.1.size<w5.1.size:=kw (by simp) e.size;have U:Hid (EtA w5 (bP (wr.alloc<|.cells f.toArray 44) w5) (es k,a,d)):=⟨F,G⟩;clear F G;generalize hy:(es k).cells a d=y at*
       have ig:w5.ownsRow w.1.size 44 33 v k (L.flatMap gP):=(l.alloc _).kept (row:=none) ⟨e.os,e.tape,e.output,e.size,λb B _=>e.block b B⟩ (by cases hv:v.ownBlock with | none=>exact .inl rfl | some _=>exact .inr<|by simp))
    | (with_reducible refine N2 ?_ (.tmp 14) ?_ y P ?_ ?_
       rotate_left 1
       .with_reducible rfl
       .rfl
       rotate_left 1
       rfl)
    | (at_builtin;(refine wpList_append_lies _ rfl _ _ 22 rfl w.1.size 44 i0 _ 33 520 underlying22 hi je.out ab ac rfl (by decide) v k (L.flatMap gP) rfl (ig.alloc _) ⟨w5.1.size,0,none⟩ 1 1 y rfl (by simp[P]) (World.news_of_block<|kR w5<|.cells y.toArray 44) oy.out (by decide) (by unfold maxLen;omega) (by omega) (by simp;omega) _ rfl ?_;intro g cap w7 S D T iY)))
   have O:Below wr.1.size wr (wr.alloc<|.cells f.toArray 44):=fH _ _;obtain⟨m1,m2,m3,m4,m5⟩:=zk (u:=.slice (some ⟨g,0,none⟩) (k+1) cap) C O e D T M rfl;go_roundw
   case rel=>
    refine⟨k+1,_,by omega,by go_num,rfl,L++[(es k,a,d)],by simp[I],?_,?_,?_⟩
    .rw[mj,mQ];show w7.ownsRow w.1.size 44 33 _ (k+1) (L.flatMap gP++(es k).cells a d);rw[hy];exact S
    .intro i p hp;by_cases ae:i<k
     .rw[lW<|by omega] at hp;exact⟨(m.out i p hp).1,(m.out i p hp).2.keep m1 m2⟩
     rw[mz<|by omega] at hp
     have Y:i - L.length=0:=by
      rcases mX (i - L.length) with h | h
      .exact h
      rw[lP<|by simp;omega] at hp;cases hp
     rw[Y] at hp;simp only[mK,mc] at hp;subst hp;have:i=k:=(by omega);subst this;exact⟨rfl,U.out.keep m3 m4⟩
    exact(((j.trans<|O.mono C).trans<|e.mono<|by simp;omega).alloc (by omega) _).grown D (by simp;omega) (λb B=>(M b B).1)
   case measure=>simp[intOf];omega
  have Z:n=k:=(by omega);have af:¬(k:Int)<(n:Int):=(by omega);subst Z;have R:=bC l;have m:=bC s;clear l s;go_wp2_with fail;go_ret;exact⟨v,rfl,L,I,R.out,m.out,j⟩
def LbA (w:World) (q:Option Addr) (n:Nat) (es:Nat->Ent):Prop:=
 n<=1048576/\(n=0\/∃b o,q=some ⟨b,o,none⟩/\b<w.1.size/\∃(Ds:Nat->Cd) (ds:Nat->Sd),∀i,i<n->w.rangeAt b (o+i*33) ((es i).cells (Ds i)<|ds i)/\ClOk w (es i).C (Ds i)/\StOk w (es i).X (ds i))
theorem LbA.below {w':World} (a:Below w.1.size w w') {q:Option Addr} {n:Nat} {es:Nat->Ent} (h:LbA w q n es):LbA w' q n es:=by refine⟨h.1,h.2.imp id ?_⟩;rintro⟨b,o,e,f,g,j,d⟩;exact⟨b,o,e,kw f a.size,g,j,λi hi=>⟨bU (d i hi).1 a f,(d i hi).2.1.below a,(d i hi).2.2.below a⟩⟩
def Be (n:Nat) (es:Nat->Ent):Prop:=∀i,i<n->fJ (es i).C/\dC (es i).X
theorem DL {q:Option Addr} (c:Nat) {es:Nat->Ent} (h:LbA w q n es) (g:Be n es):
  cN 11 #[.slice q n c] w λr w'=>∃(v:Value) (L:List (Ent × Cd × Sd)),r=.returned v/\L.length=n/\w'.ownsRow w.1.size 44 33 v n (L.flatMap gP)/\A9 w' w.1.size v es L/\Below w.1.size w w':=by
 obtain⟨l,h2⟩:=h
 have:∃(a:Nat->Cd) (d:Nat->Sd),(n=0\/∃b o,q=some ⟨b,o,none⟩/\b<w.1.size/\∀i,i<n->w.rangeAt b (o+i*33) ((es i).cells (a i)<|d i))/\∀i,i<n->ClOk w (es i).C (a i)/\StOk w (es i).X (d i):=by
  rcases h2 with h0 | ⟨b,o,e,k,a,d,f⟩
  .exact⟨λ_=>⟨default,none,0,none,0⟩,default,.inl h0,λi hi=>by omega⟩
  exact⟨a,d,.inr ⟨b,o,e,k,λi hi=>(f i hi).1⟩,λi hi=>(f i hi).2⟩
 obtain⟨a,d,k1,k2⟩:=this;exact zm es (λi=>(es i).cells (a i)<|d i) l (λi _=>rfl) (λi _=>Ent.one _ _ _) k1 λi hi z j=>N1 ((k2 i hi).1.below j) (g i hi).1 ((k2 i hi).2.below j) (g i hi).2
