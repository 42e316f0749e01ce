import Derived.Test.YthcfmhgihcjloaaGreatDoorPk06
namespace Go.Proofs.YthcfmhgihcjloaaGreatDoor
open Go Go.RowKit Tryz
variable {w:World} {b o:Nat} {d:Nd}
def dl:Ex->Prop
 | .non=>True
 | .mk _ _ _ _ _ _ n ar=>n<=1048576/\∀i,i<n->dl (ar i)
theorem Mo (h:w.rangeAt b o d.cells):NdAt w b o d:=⟨h 0 _ rfl,h 1 _ rfl,h 2 _ rfl,h 3 _ rfl,h 4 _ rfl,h 5 _ rfl,h 6 _ rfl⟩
theorem Mp (h:NdAt w b o d):w.rangeAt b o d.cells:=by
 intro j v hv
 match j,hv with
 | 0,hv=>cases hv;exact h.h0
 | 1,hv=>cases hv;exact h.h1
 | 2,hv=>cases hv;exact h.h2
 | 3,hv=>cases hv;exact h.h3
 | 4,hv=>cases hv;exact h.h4
 | 5,hv=>cases hv;exact h.h5
 | 6,hv=>cases hv;exact h.h6
theorem Ao:ElT 31 33 7 112:=⟨underlying31,by kernel_rfl,by decide,by decide,by decide⟩
theorem Mq:(prog.info? 31).map (·.size)=some 1:=by kernel_rfl
theorem Fs:gb 3:=⟨_,underlying3,rfl⟩
theorem BS:gb 9:=⟨_,underlying9,rfl⟩
theorem Ft:gb 31:=⟨_,underlying31,rfl⟩
def uL:Nd:=⟨0,0,false,none,0,0,none,0,0,⟨#[]⟩,none,0,0⟩
set_option maxRecDepth 100000 in
set_option maxHeartbeats 4000000 in
theorem QZ {nu de:List Int} (ds:Nat->Nd) (W:Nat->Ex) (hn:d.sn<=1048576)
  (hR:∀z,Below w.1.size w z->cN 101 #[.agg #[.bool d.neg,.slice d.aq d.an d.ac,.slice d.cq d.cn d.cc]] z λe w'=>∃q1 c1 q2 c2,e=.returned (.agg #[.bool d.neg,.slice q1 d.an c1,.slice q2 d.cn c2])/\SlA w' (bP z w') (.slice q1 d.an c1) nu/\SlA w' (bP z w') (.slice q2 d.cn c2) de/\Below z.1.size z w')
  (hk:d.sn=0\/∃b o,d.sq=some ⟨b,o,none⟩/\b<w.1.size/\∀i,i<d.sn->w.rangeAt b (o+i*7) (ds i).cells)
  (n:∀i,i<d.sn->∀z,Below w.1.size w z->cN 102 #[.agg (ds i).cells.toArray] z λe w'=>∃s:Nd,e=.returned (.agg s.cells.toArray)/\ExA w' (bP z w') (W i) s/\Below z.1.size z w'):
  cN 102 #[.agg d.cells.toArray] w λe w'=>∃q1 c1 q2 c2 m c3,e=.returned (.agg (Nd.cells ⟨d.k,d.f,d.neg,q1,d.an,c1,q2,d.cn,c2,d.m,m,d.sn,c3⟩).toArray)/\
   SlA w' (bP w w') (.slice q1 d.an c1) nu/\SlA w' (bP w w') (.slice q2 d.cn c2) de/\(d.sn=0\/∃b,m=some ⟨b,0,none⟩/\bP w w' b/\∃es:Nat->Nd,∀i,i<d.sn->w'.rangeAt b (0+i*7) (es i).cells/\ExA w' (bP w w') (W i) (es i))/\Below w.1.size w w':=by
 have a4:=bC hk;clear hk;go_enter func102,ntmps102;go_upto_region 1 with fail;generalize Q:(w.alloc _).alloc _=l;have P:Below w.1.size w l:=by rw[<-Q];exact dF _ _ _
 have aA:l.1.size=w.1.size+2:=by rw[<-Q];simp
 have a7:l.rangeAt w.1.size 0 d.cells:=by rw[<-Q];exact(oI (xs:=d.cells) (ys:=uL.cells)).1
 have a6:l.1[w.1.size+1]?=some (.cells uL.cells.toArray 33 (0,0)):=by rw[<-Q];exact xE
 clear Q;have Gd:Below l.1.size l l.drew:=(kE _ _).drew;have O:∀z,Below l.1.size l z->z.rangeAt w.1.size 0 d.cells:=λz C=>bU a7 C (by omega);refine kN (S:=λz=>z.rangeAt w.1.size 0 d.cells) (by kernel_rfl) (O _ Gd) λhh=>?_;refine tk 0 _ rfl hh ?_;refine jQ Fs 1 6 w.1.size 0 _ rfl hh (λz h=>h 0 _ rfl) ?_;refine tk 2 _ rfl hh ?_;refine jQ Fs 3 8 w.1.size 1 _ rfl hh (λz h=>h 1 _ rfl) ?_;refine tk 4 _ rfl hh ?_;refine fE pe 5 10 w.1.size 2 [.bool d.neg,.slice d.aq d.an d.ac,.slice d.cq d.cn d.cc] rfl rfl hh (λz h=>iE (o:=0) h [.int .i64 d.k,.int .i64 d.f] [.string d.m,.slice d.sq d.sn d.sc] rfl) ?_;refine tk 7 _ rfl hh ?_;refine jQ BS 8 13 w.1.size 5 _ rfl hh (λz h=>h 5 _ rfl) ?_;refine Fp (fuel:=1) [6,9] [10] 3 #[true,true,true,true,true,true,true,true,true,true,true,false] (λ_=>33) (λ_=>uL.cells.toArray) (λz C=>O z<|cV Gd C) ?_ ?_;rotate_left
 .intro f hf a z K h;obtain rfl:f=10:=by simpa using hf
  unfold wpOp;go_simp;exact .inl h
 refine it rfl λx z C K n=>?_;have Gz:=cV Gd C;simp only[cE,pz];go_simp;refine(hR _<|cV P Gz).mono ?_;rintro e A ⟨q1,c1,q2,c2,rfl,F,H,af⟩;refine n.out _ _ af ?_;have G2:=cV Gz af;have az:∀b,bP z A b->l.1.size<=b/\b<A.1.size:=λb q=>⟨kJ Gz.size q.1,q.2⟩;clear n K hR;refine it rfl λx z3 aa K n=>?_;rw[kU<|by kernel_rfl];refine bd 33 _ (Nd.cells ⟨d.k,d.f,d.neg,q1,d.an,c1,q2,d.cn,c2,d.m,none,0,0⟩)<|n.out _ _ (kE _ _) ?_;clear n K;rintro x J aq ⟨p,hp,-,-,X⟩;obtain⟨ai,ad,ac⟩:=hp 10 (by simp) (by simp);have X:=X 10 (by simp) (by simp) _<|lM _ mq;have G4:=G2.trans<|(cV aa aq).mono G2.size;simp only[cE,pz,bY,ai];generalize p 10=G at*;have a0:l.1.size<=G:=ad;refine dy 11 rfl λK n=>?_;rw[kU<|by rfl];refine Ak eU 3 15 G _ ac rfl rfl (Aj ⟨d.k,d.f,d.neg,q1,d.an,c1,q2,d.cn,c2,d.m,none,0,0⟩) (n.out _ _ (O _<|oh G4 ad _) λ_=>?_);clear n K;refine kV (by kernel_rfl) ?_ _;simp only[pz]
 have ax:=af.mono (kF _) |>.size
 have K4:Below A.1.size A J:=cV aa aq;have I:∀b,bP z A b->b≠G:=λb q e=>X<|e ▸ ⟨q.1,q.2⟩;have Gc:=oh G4 ad (Nd.cells ⟨d.k,d.f,d.neg,q1,d.an,c1,q2,d.cn,c2,d.m,none,0,0⟩).toArray;have E:Keeps (bP z A) A (J.setRow G (Nd.cells ⟨d.k,d.f,d.neg,q1,d.an,c1,q2,d.cn,c2,d.m,none,0,0⟩).toArray):=λb q=>(mf _ _ _ _<|I b q).trans<|K4.block b q.2;have fr:∀b,bP z A b->cH l.1.size (J.setRow G (Nd.cells ⟨d.k,d.f,d.neg,q1,d.an,c1,q2,d.cn,c2,d.m,none,0,0⟩).toArray) G (.slice none 0 0) b:=λb q=>⟨(az b q).1,by have:=q.2;have:=K4.size;simp;omega,I b q,by simp[Value.ownBlock]⟩;have M:Hid ((J.setRow G (Nd.cells ⟨d.k,d.f,d.neg,q1,d.an,c1,q2,d.cn,c2,d.m,none,0,0⟩).toArray).1[G]?=some (.cells (Nd.cells ⟨d.k,d.f,d.neg,q1,d.an,c1,q2,d.cn,c2,d.m,none,0,0⟩).toArray 33 (0,0))/\SlA _ _ _ nu/\SlA _ _ _ de):=bC ⟨nh _ _ _ _ _ _ ac,F.keep E fr,H.keep E fr⟩;have p6:(J.setRow G (Nd.cells ⟨d.k,d.f,d.neg,q1,d.an,c1,q2,d.cn,c2,d.m,none,0,0⟩).toArray).cell? ⟨w.1.size,6,none⟩=some (.slice d.sq d.sn d.sc):=O _ Gc 6 _ rfl;clear E fr I X ac ai K4 ax F H O;generalize J.setRow G _=wc at*;go_wp2_with fail
 go_loopw [19] (λi wr=>∃(k:Nat) (m:Option Addr) (c3:Nat),k<=d.sn/\i=.int .i64 k/\∃L:List Nd,Hid (L.length=k/\wr.1[G]?=some (.cells (Nd.cells ⟨d.k,d.f,d.neg,q1,d.an,c1,q2,d.cn,c2,d.m,m,k,c3⟩).toArray 33 (0,0))/\wr.ownsRow l.1.size 33 7 (.slice m k c3) k (L.flatMap Nd.cells)/\(Value.slice m k c3).ownBlock≠some G/\
  (∀i x,L[i]?=some x->ExA wr (cH l.1.size wr G<|.slice m k c3) (W i) x)/\SlA wr (cH l.1.size wr G<|.slice m k c3) (.slice q1 d.an c1) nu/\SlA wr (cH l.1.size wr G<|.slice m k c3) (.slice q2 d.cn c2) de/\Below l.1.size l wr)) (λi _=>d.sn - (intOf i).toNat)
 case atStart=>exact⟨0,none,0,kL _,rfl,[],rfl,M.out.1,mH _ _ _ _,by simp[Value.ownBlock],λi x h=>by simp at h,M.out.2.1,M.out.2.2,Gc⟩
 case round=>
  obtain⟨k,m,c3,hk,rfl,L,HL⟩:=hrel;by_cases ao:k<d.sn
  .have am:(k:Int)<(d.sn:Int):=(by omega);obtain⟨b,o,hq,a2,al⟩:=a4.out.resolve_left (by omega);have hx:=bC (bU (bU (al k ao) P a2) HL.out.2.2.2.2.2.2.2<|by omega);have a1:=bC<|n k ao;clear al M p6;generalize ds k=D at*;rw[hq]
   go_wp2_with (first
    | (with_reducible refine cW (op:=⟨some 22,_,_,_,_,_⟩) eU 21 b (o+k*7) D.cells hx.out rfl ?_)
    | (with_reducible refine si (op:=⟨none,_,_,_,_,_⟩) eU 5 22 D.cells rfl (mh<|Aj D) ?_))
   obtain⟨Y,N,V,I,ae,F,H,B⟩:=HL.out;have aj:=(kG.1 N).1;have s1:=B.size;have Bn:Below wr.1.size wr (wr.alloc<|.cells D.cells.toArray 33):=fH _ _;have a5:=og<|kR wr<|.cells D.cells.toArray 33;have a8:wr.1.size<(wr.alloc<|.cells D.cells.toArray 33).1.size:=(by simp);have c6:(wr.alloc<|.cells D.cells.toArray 33).cell? ⟨G,6,none⟩=some (.slice m k c3):=(by rw[pj _ _ _ aj,pG _ _ _ _ _ _ N];rfl);generalize wr.alloc (.cells D.cells.toArray 33)=wl at*;have Bd:Below wl.1.size wl wl.drew:=(kE _ _).drew;refine kN (S:=λ_=>True) (by kernel_rfl) trivial (λhh=>?_);refine tk 0 _ rfl hh ?_;refine Ee (fuel:=3) Ft [2,3,4] 1 23 G 6 4 (.slice m k c3) (by show _<wl.1.size;omega) c6 rfl (λ_ _=>trivial) ?_ (l1:=#[true,true,true,true,true,false,false,false]);refine it rfl λx z C K n=>?_;rw[kU<|by kernel_rfl];have Bz:=cV Bd C;refine GN eU 5 wr.1.size 0 D.cells (bU a5 Bz a8) rfl (n.out _ _ (kE _ _) ?_);clear n K;refine it rfl λx z3 aa K n=>?_;have B3:=cV Bz aa;have ab:=cV Bn B3;simp only[cE,pz];go_simp;refine(a1.out _<|P.trans<|(B.trans<|ab.mono s1).mono P.size).mono ?_;rintro r w5 ⟨s,rfl,ay,ak⟩;refine n.out _ _ ak ?_;clear n K;have B5:=cV ab ak;refine it rfl λx U au K n=>?_;rw[kU<|by kernel_rfl];refine C8 Ao (.tmp 26) s.cells rfl (n.out _ _ ((kE _ _).alloc (kF _) _) ?_);clear n K;have cA:=kR U<|.cells s.cells.toArray 33;have B6:=au.trans<|(fH U<|.cells s.cells.toArray 33).mono au.size;have cC:U.1.size<(U.alloc<|.cells s.cells.toArray 33).1.size:=(by simp);intro x z7 av e0;have e0:=e0 (by simp);have B7:=cV B6 av;have ag:=cV B5 B7;have aw:Below wr.1.size wr z7:=ag;refine Ef Ao Mq 5 6 7 24 27 G 6 k U.1.size (y:=s.cells) rfl rfl rfl B a0 N rfl V I ag (by omega) (λ_ _=>trivial) ((av.block _ cC).trans cA) rfl (Aj s) (by exact(show _=x 1 by kernel_rfl).trans e0) ?_;intro g c t m1 m2 m3 m4 R T;refine kV (by kernel_rfl) ?_ _;have r5:∀kk,(Value.slice m k c3).ownBlock=some kk->kk<wr.1.size:=λkk e=>(V.lt kk e).2;obtain⟨f1,f2⟩:=BP (w0:=l.1.size) (G:=G) (v:=.slice m k c3) aw;have f3:=BQ (w0:=l.1.size) (y:=z7) aj s1 r5 (ab.size)<|B7.size
   have HR:Hid ((L++[s]).length=k+1/\t.1[G]?=some (.cells (Nd.cells ⟨d.k,d.f,d.neg,q1,d.an,c1,q2,d.cn,c2,d.m,some ⟨g,0,none⟩,k+1,c⟩).toArray 33 (0,0))/\t.ownsRow l.1.size 33 7 (.slice (some ⟨g,0,none⟩) (k+1) c) (k+1) ((L++[s]).flatMap Nd.cells)/\(Value.slice (some ⟨g,0,none⟩) (k+1) c).ownBlock≠some G/\
     (∀i x,(L++[s])[i]?=some x->ExA t (cH l.1.size t G<|.slice (some ⟨g,0,none⟩) (k+1) c) (W i) x)/\SlA t (cH l.1.size t G<|.slice (some ⟨g,0,none⟩) (k+1) c) (.slice q1 d.an c1) nu/\SlA t (cH l.1.size t G<|.slice (some ⟨g,0,none⟩) (k+1) c) (.slice q2 d.cn c2) de/\Below l.1.size l t):=
    bC ⟨by simp[Y],m1,by rw[mj,mQ];exact m2,m3,C' Y (λi x h=>((ae i x h).keep f1 f2).keep R T)<|(ay.keep (λb q=>B7.block b q.2) f3).keep R T,(F.keep f1 f2).keep R T,(H.keep f1 f2).keep R T,m4⟩
   clear m1 m2 m3 m4 R T f1 f2 f3;simp only[cE,pz,bY];go_wp2_with fail;go_roundw
   case rel=>exact⟨k+1,some ⟨g,0,none⟩,c,by omega,by go_num,L++[s],HR⟩
   case measure=>simp[intOf];omega
  obtain rfl:k=d.sn:=(by omega);have a':¬(d.sn:Int)<(d.sn:Int):=(by omega);obtain⟨Y,N,V,I,ae,F,H,B⟩:=HL.out;have s1:=B.size;have R3:=bC<|og N;have T3:=bC<|(B.block (w.1.size+1)<|by omega).trans a6;clear M p6
  go_wp2_with (first
   | (with_reducible refine cW (op:=⟨some 31,_,_,_,_,_⟩) eU 3 G 0 (Nd.cells ⟨d.k,d.f,d.neg,q1,d.an,c1,q2,d.cn,c2,d.m,m,d.sn,c3⟩) R3.out rfl ?_)
   | (with_reducible refine Am (op:=⟨none,_,_,_,_,_⟩) eU 2 31 (w.1.size+1) (Nd.cells ⟨d.k,d.f,d.neg,q1,d.an,c1,q2,d.cn,c2,d.m,m,d.sn,c3⟩) T3.out rfl rfl (Aj _) ?_))
  refine xF eU (p:=2) (nh _ _ _ _ _ _ T3.out) rfl ?_;have E:Keeps (cH l.1.size wr G<|.slice m d.sn c3) wr (wr.setRow (w.1.size+1) (Nd.cells ⟨d.k,d.f,d.neg,q1,d.an,c1,q2,d.cn,c2,d.m,m,d.sn,c3⟩).toArray):=λb q=>mf _ _ _ _ (by have:=q.1;omega);have fr:∀b,cH l.1.size wr G (.slice m d.sn c3) b->bP w (wr.setRow (w.1.size+1) (Nd.cells ⟨d.k,d.f,d.neg,q1,d.an,c1,q2,d.cn,c2,d.m,m,d.sn,c3⟩).toArray) b:=λb q=>⟨by have:=q.1;omega,by have:=q.2.1;simpa using this⟩;refine⟨q1,c1,q2,c2,m,⟨c3,rfl⟩,F.keep E fr,H.keep E fr,?_,oh (cV P B) (by omega) _⟩;refine(Da (f:=Nd.cells) (λ_=>rfl) V Y).imp id ?_;rintro⟨g,rfl,a9,a3,-,Z⟩;refine⟨g,rfl,⟨by omega,by simpa using a3⟩,λi=>L.getD i default,λi hi=>?_⟩;have an:L[i]?=some (L.getD i default):=(by simp[List.getD,show i<L.length by omega]);have Z:=Z i _ an;rw[mF] at Z;exact⟨λj u hu=>(ml<|mf _ _ _ _<|by show g≠_;omega).trans<|Z j u hu,(ae i _ an).keep E fr⟩
theorem Mr:∀(x:Ex) (d:Nd) (w:World),ExOk w x d->dl x->cN 102 #[d.val] w λe w'=>∃q:Nd,e=.returned (.agg q.cells.toArray)/\ExA w' (bP w w') x q/\Below w.1.size w w':=by
 intro x
 induction x with
 | non=>exact λd w h=>h.elim
 | mk k f ng nu de m n ar ih=>
  intro d w h l;unfold ExOk at h;unfold dl at l;obtain⟨⟨rfl,rfl,rfl,rfl,rfl⟩,h2,h3,h4,h5,h6,h7⟩:=h
  obtain⟨a,A,B⟩:∃a:Nat->Nd,(d.sn=0\/∃b o,d.sq=some ⟨b,o,none⟩/\b<w.1.size/\∀i,i<d.sn->w.rangeAt b (o+i*7) (a i).cells)/\∀i,i<d.sn->ExOk w (ar i) (a i):=by
   rcases h7 with h0 | ⟨b,o,hq,j,a,r⟩
   .exact⟨λ_=>default,.inl h0,λi hi=>by omega⟩
   exact⟨a,.inr ⟨b,o,hq,j,λi hi=>Mp (r i hi).1⟩,λi hi=>(r i hi).2⟩
  refine(QZ a ar l.1 (λz g=>Ju (h2.below g)<|h3.below g) A λi hi z g=>ih i (a i) z ((B i hi).below g)<|l.2 i hi).mono ?_;rintro e w' ⟨q1,c1,q2,c2,D,c3,rfl,t,u,y,j⟩;refine⟨⟨d.k,d.f,d.neg,q1,d.an,c1,q2,d.cn,c2,d.m,D,d.sn,c3⟩,rfl,⟨⟨rfl,rfl,rfl,rfl,rfl⟩,t,u,h4,h5,h6,y.imp id ?_⟩,j⟩;rintro⟨b,hq,C,es,s⟩;exact⟨b,0,hq,C,es,λi hi=>⟨Mo (s i hi).1,(s i hi).2⟩⟩
def Va.cells (d:Va):List Value:=[.string d.m,.bool d.g,.slice d.aq d.an d.ac,.slice d.cq d.cn d.cc]
def Bi.cells (d:Bi):List Value:=[.string d.m,.int .i64 d.ek,.int .i64 d.ef,.bool d.eg,.slice d.eaq d.ean d.eac,.slice d.ecq d.ecn d.ecc,.string d.em,.slice d.esq d.esn d.esc]
abbrev mp (m:ByteArray) (e:Nd):Bi:=⟨m,e.k,e.f,e.neg,e.aq,e.an,e.ac,e.cq,e.cn,e.cc,e.m,e.sq,e.sn,e.sc⟩
theorem xG (d:Va):∀u∈d.cells,u.oneCell'=true:=by
 intro u hu;simp only[Va.cells,lO,nw,qy] at hu
 rcases hu with rfl | rfl | rfl | rfl<;>rfl
theorem xH (d:Bi):∀u∈d.cells,u.oneCell'=true:=by
 intro u hu;simp only[Bi.cells,lO,nw,qy] at hu
 rcases hu with rfl | rfl | rfl | rfl | rfl | rfl | rfl | rfl<;>rfl
theorem GO (d:Sd):∀u∈d.cells,u.oneCell'=true:=λu hu=>Array.all_eq_true_iff_forall_mem.1 (Sd.one d) u<|by simpa using hu
theorem Ms:eS 93 4:=⟨⟨_,underlying93,rfl⟩,by kernel_rfl⟩
theorem Mt:eS 96 8:=⟨⟨_,underlying96,rfl⟩,by kernel_rfl⟩
theorem Fu:ElT 38 93 4 72:=⟨underlying38,by kernel_rfl,by decide,by decide,by decide⟩
theorem Mu:(prog.info? 38).map (·.size)=some 1:=by kernel_rfl
theorem Fv:ElT 39 96 8 128:=⟨underlying39,by kernel_rfl,by decide,by decide,by decide⟩
theorem Mw:(prog.info? 39).map (·.size)=some 1:=by kernel_rfl
theorem Mx:(prog.info? 40).map (·.size)=some 1:=by kernel_rfl
theorem Jv:gb 38:=⟨_,underlying38,rfl⟩
theorem Jw:gb 39:=⟨_,underlying39,rfl⟩
def Sd.kids (D:Sd) (q:Option Addr) (n c:Nat):Sd:=⟨D.s,D.aq,D.an,D.ac,D.cq,D.cn,D.cc,D.e,D.poq,D.pon,D.poc,D.arq,D.arn,D.arc,q,n,c⟩
def uU:Sd:=⟨⟨0,⟨#[]⟩,⟨#[]⟩,false,0,0,0,⟨#[]⟩,0⟩,none,0,0,none,0,0,uL,none,0,0,none,0,0,none,0,0⟩
def Sd.ls (d:Sd) (q1:Option Addr) (c1:Nat) (q2:Option Addr) (c2:Nat) (e:Nd) (q3:Option Addr) (n3 c3:Nat) (q4:Option Addr) (n4 c4:Nat):Sd:=⟨d.s,q1,d.an,c1,q2,d.cn,c2,e,q3,n3,c3,q4,n4,c4,none,0,0⟩
def HdA (w:World) (A:Nat->Prop) (d:Sd) (nu de:List Int) (x:Ex) (q1:Option Addr) (c1:Nat) (q2:Option Addr) (c2:Nat) (e:Nd):Prop:=SlA w A (.slice q1 d.an c1) nu/\SlA w A (.slice q2 d.cn c2) de/\ExA w A x e
theorem HdA.keep {w':World} {A A':Nat->Prop} (f:Keeps A w w') (a:∀b,A b->A' b) {d:Sd} {nu de:List Int} {x:Ex} {q1:Option Addr} {c1:Nat} {q2:Option Addr} {c2:Nat} {e:Nd} (h:HdA w A d nu de x q1 c1 q2 c2 e):HdA w' A' d nu de x q1 c1 q2 c2 e:=⟨h.1.keep f a,h.2.1.keep f a,h.2.2.keep f a⟩
theorem Q0 {d:Va} (h:VaAt w b o d):w.rangeAt b o d.cells:=by
 intro j v hv
 match j,hv with
 | 0,hv=>cases hv;exact h.h0
 | 1,hv=>cases hv;exact h.h1
 | 2,hv=>cases hv;exact h.h2
 | 3,hv=>cases hv;exact h.h3
theorem Q5 {d:Bi} (h:BiAt w b o d):w.rangeAt b o d.cells:=by
 intro j v hv
 match j,hv with
 | 0,hv=>cases hv;exact h.h0
 | 1,hv=>cases hv;exact h.h1
 | 2,hv=>cases hv;exact h.h2
 | 3,hv=>cases hv;exact h.h3
 | 4,hv=>cases hv;exact h.h4
 | 5,hv=>cases hv;exact h.h5
 | 6,hv=>cases hv;exact h.h6
 | 7,hv=>cases hv;exact h.h7
def dC:St->Prop
 | .non=>True
 | .mk _ _ _ x pn _ bn bs n ki=>dl x/\pn<=1048576/\bn<=1048576/\(∀i,i<bn->dl (bs i).x)/\n<=1048576/\∀i,i<n->dC (ki i)
def St.bare:St->St
 | .non=>.non
 | .mk s nu de x pn ps bn bs _ _=>.mk s nu de x pn ps bn bs 0 λ_=>.non
def F1 (w1 wr:World) (G:Nat) (d:Sd) (nu de:List Int) (x:Ex) (ps:Nat->Pt) (q1:Option Addr) (c1:Nat) (q2:Option Addr) (c2:Nat) (e:Nd) (k:Nat) (q3:Option Addr) (c3:Nat) (L:List Va):Prop:=
 L.length=k/\wr.1[G]?=some (.cells (d.ls q1 c1 q2 c2 e q3 k c3 none 0 0).cells.toArray 42 (0,0))/\wr.ownsRow w1.1.size 93 4 (.slice q3 k c3) k (L.flatMap Va.cells)/\(Value.slice q3 k c3).ownBlock≠some G/\
  (∀i y,L[i]?=some y->PtA wr (cH w1.1.size wr G<|.slice q3 k c3) (ps i) y)/\HdA wr (cH w1.1.size wr G<|.slice q3 k c3) d nu de x q1 c1 q2 c2 e/\Below w1.1.size w1 wr
def F2 (w1 wr:World) (G:Nat) (d:Sd) (nu de:List Int) (x:Ex) (ps:Nat->Pt) (bs:Nat->Bd) (q1:Option Addr) (c1:Nat) (q2:Option Addr) (c2:Nat) (e:Nd) (q3:Option Addr) (c3 k:Nat) (q4:Option Addr) (c4:Nat) (L:List Bi):Prop:=
 L.length=k/\wr.1[G]?=some (.cells (d.ls q1 c1 q2 c2 e q3 d.pon c3 q4 k c4).cells.toArray 42 (0,0))/\wr.ownsRow w1.1.size 96 8 (.slice q4 k c4) k (L.flatMap Bi.cells)/\(Value.slice q4 k c4).ownBlock≠some G/\
  (∀i y,L[i]?=some y->BdA wr (cH w1.1.size wr G<|.slice q4 k c4) (bs i) y)/\HdA wr (cH w1.1.size wr G<|.slice q4 k c4) d nu de x q1 c1 q2 c2 e/\PtsA wr (cH w1.1.size wr G<|.slice q4 k c4) q3 d.pon ps/\Below w1.1.size w1 wr
set_option maxRecDepth 100000 in
set_option maxHeartbeats 8000000 in
theorem Q6 {X:St} {d:Sd} (h:StOk w X d) (hs:dC X):
  cN 70 #[.agg d.cells.toArray] w λe w'=>∃D:Sd,e=.returned (.agg (D.kids none 0 0).cells.toArray)/\StA w' (bP w w') X.bare D/\Below w.1.size w w':=by
 cases X with
 | non=>exact h.elim
 | mk s nu de x pn ps bn bs n ki=>
 unfold StOk at h;unfold dC at hs;obtain⟨⟨rfl,rfl,rfl,rfl⟩,h2,h3,h4,h5,h6,h7,h8,h9,aF⟩:=h;obtain⟨s1,s2,s3,s4,_,_⟩:=hs;obtain⟨xs,x1,x2⟩:=xv h7;obtain⟨ys,y1,y2⟩:=xw h8;have HP:=bC x1;have HB:=bC y1;have aE:=bC x2;have aD:=bC y2;have a8:=bC<|And.intro h4 h5;have S4:=bC s4;clear x1 y1 x2 y2 h4 h5 s4 h7 h8 h9 aF;go_enter func70,ntmps70;go_upto_region 1 with fail;generalize au:(w.alloc _).alloc _=a;have J:Below w.1.size w a:=by rw[<-au];exact dF _ _ _
 have ai:a.1.size=w.1.size+2:=by rw[<-au];simp
 have aC:a.rangeAt w.1.size 0 d.cells:=by rw[<-au];exact(oI (xs:=d.cells) (ys:=uU.cells)).1
 have aJ:a.1[w.1.size+1]?=some (.cells uU.cells.toArray 42 (0,0)):=by rw[<-au];exact xE
 clear au;have al:=bC ai;clear ai
 go_wp2_with (first
  | (with_reducible refine cW (op:=⟨some 8,_,_,_,_,_⟩) jh 1 w.1.size 0 d.cells aC rfl ?_)
  | (with_reducible refine si (op:=⟨none,_,_,_,_,_⟩) jh 3 8 d.cells rfl (Sd.one _) ?_))
 have aK:w.1.size≠a.1.size:=by have:=al.out;omega
 have hG:=kR a<|.cells d.cells.toArray 42;have Ba:Below a.1.size a (a.alloc<|.cells d.cells.toArray 42):=fH _ _;have a6:a.1.size<(a.alloc<|.cells d.cells.toArray 42).1.size:=by simp
 generalize a.alloc (.cells d.cells.toArray 42)=wa at*;have Gd:Below wa.1.size wa wa.drew:=(kE _ _).drew;have hS:∀z,Below a.1.size a z->z.rangeAt w.1.size 0 d.cells:=λz C=>bU aC C (by have:=al.out;omega);refine kN (S:=λz=>z.rangeAt w.1.size 0 d.cells) (by kernel_rfl) (hS _<|cV Ba Gd) λhh=>?_;refine tk 0 _ rfl hh ?_
 refine fE pe 1 9 w.1.size 3 [.bool d.s.g,.slice d.aq d.an d.ac,.slice d.cq d.cn d.cc] rfl rfl hh (λz h j v hv=>by have:=h (3+j) v (by match j,hv with | 0,hv=>exact hv | 1,hv=>exact hv | 2,hv=>exact hv);rwa [mF] at this) ?_
 refine tk 3 _ rfl hh ?_
 refine fE eU 4 12 w.1.size 9 d.e.cells rfl rfl hh (λz h j v hv=>by have:=h (9+j) v (by match j,hv with | 0,hv=>exact hv | 1,hv=>exact hv | 2,hv=>exact hv | 3,hv=>exact hv | 4,hv=>exact hv | 5,hv=>exact hv | 6,hv=>exact hv);rwa [mF] at this) ?_
 refine dy 2 rfl λK l=>?_;go_simp;have az:=cV Ba Gd;refine(Ju (h2.below<|cV J az)<|h3.below<|cV J az).mono ?_;rintro r w2 ⟨q1,c1,q2,c2,rfl,a',aA,ad⟩;have G2:=cV az ad;refine l.out _ _ (hS _ G2) λ_=>?_;clear l K h2 h3;refine tk 6 _ rfl (hS _ G2) ?_;refine dy 5 rfl λK l=>?_;go_simp;refine(Mr x d.e _ (h6.below<|cV J G2) s1).mono ?_;rintro r w3 ⟨E,rfl,hE,af⟩;have G3:=cV G2 af;refine l.out _ _ (hS _ G3) λ_=>?_;clear l K h6;have a7:Below wa.1.size wa w3:=(cV Gd ad).trans<|af.mono<|kJ Gd.size ad.size;have aB:=(a7.block _ a6).trans hG;have q:∀z:World,(∀b,b≠a.1.size->z.1[b]?=w3.1[b]?)->z.rangeAt w.1.size 0 d.cells:=λz C j u hu=>(ml<|C w.1.size aK).trans<|hS _ G3 j u hu;refine dy 7 rfl λK l=>?_;rw[kU<|by kernel_rfl];refine xD pe 15 11 a.1.size 3 [.bool d.s.g,.slice q1 d.an c1,.slice q2 d.cn c2] aB rfl (by simp[Value.oneCell']) λz1 k1=>l.out _ _ (q _ k1.2.1) λ_=>?_;clear l K;refine tk 8 _ rfl (q _ k1.2.1) ?_;refine dy 9 rfl λK l=>?_;rw[kU<|by kernel_rfl];refine xD eU 16 14 a.1.size 9 E.cells k1.1 rfl (Aj E) λz2 k2=>?_;have k2:=k1.trans k2;refine l.out _ _ (q _ k2.2.1) λ_=>?_;clear l K k1;refine tk 10 _ rfl (q _ k2.2.1) ?_;refine dy 11 rfl λK l=>?_;rw[kU<|by kernel_rfl];refine Jt Mu 17 _ a.1.size 16 0 0 none k2.1 λz3 k3=>?_;have k3:=k2.trans k3;refine l.out _ _ (q _ k3.2.1) λ_=>?_;clear l K k2;refine tk 12 _ rfl (q _ k3.2.1) ?_;refine dy 13 rfl λK l=>?_;rw[kU<|by kernel_rfl];refine Jt Mw 18 _ a.1.size 19 0 0 none k3.1 λz4 k4=>?_;have k4:=k3.trans k4;refine l.out _ _ (q _ k4.2.1) λ_=>?_;clear l K k3;refine tk 14 _ rfl (q _ k4.2.1) ?_;refine dy 15 rfl λK l=>?_;rw[kU<|by kernel_rfl];refine Jt Mx 19 _ a.1.size 20 0 0 none k4.1 λwc Q=>?_;have Q:=k4.trans Q;refine l.out _ _ (q _ Q.2.1) λ_=>?_;clear l K k4;refine kV (by kernel_rfl) ?_ _;have Gc:=Q.2.2.2 _ _ G3<|kF _;have aI:w3.1.size=wc.1.size:=Q.2.2.1.symm;have aN:=af.size;have aO:a.1.size<wa.drew.1.size:=a6
 have HG:Hid (wc.1[a.1.size]?=some (.cells (d.ls q1 c1 q2 c2 E none 0 0 none 0 0).cells.toArray 42 (0,0))/\HdA wc (cH a.1.size wc a.1.size<|.slice none 0 0) d nu de x q1 c1 q2 c2 E):=bC ⟨Q.1,
  a'.keep (λb m=>(Q.2.1 b<|by have:=m.1;omega).trans<|af.block b m.2) (λb m=>⟨by have:=m.1;omega,by have:=m.2;omega,by have:=m.1;omega,by simp[Value.ownBlock]⟩),
  aA.keep (λb m=>(Q.2.1 b<|by have:=m.1;omega).trans<|af.block b m.2) (λb m=>⟨by have:=m.1;omega,by have:=m.2;omega,by have:=m.1;omega,by simp[Value.ownBlock]⟩),
  hE.keep (λb m=>Q.2.1 b<|by have:=m.1;have:=ad.size;omega) (λb m=>⟨by have:=m.1;have:=ad.size;omega,by have:=m.2;omega,by have:=m.1;have:=ad.size;omega,by simp[Value.ownBlock]⟩)⟩
 have aL:wc.cell? ⟨w.1.size,16,none⟩=some (.slice d.poq d.pon d.poc):=hS _ Gc 16 _ rfl;clear q Q aB a7 hG Ba a6 a' aA hE ad af G2 G3 az aI aN aO;go_wp2_with fail
 go_loopw [23] (λi wr=>∃(k:Nat) (B:Option Addr) (c3:Nat),k<=d.pon/\i=.int .i64 k/\∃L:List Va,F1 a wr a.1.size d nu de x ps q1 c1 q2 c2 E k B c3 L) (λi _=>d.pon - (intOf i).toNat)
 case atStart=>exact⟨0,none,0,kL _,rfl,[],rfl,HG.out.1,mH _ _ _ _,by simp[Value.ownBlock],λi x h=>by simp at h,HG.out.2,Gc⟩
 case round=>
  obtain⟨k,B,c3,hk,rfl,L,HL⟩:=hrel;clear HG Gc aL;by_cases ag:k<d.pon
  .have am:(k:Int)<(d.pon:Int):=(by omega);obtain⟨b,o,hq,ao,aq⟩:=HP.out.resolve_left (by omega);have t:=HL.2.2.2.2.2.2;have hx:=bC<|bU (bU (Q0<|aq k ag) J ao) t<|kw ao J.size;have V:=bC<|aE.out k ag;clear aq;generalize xs k=Y at*;rw[hq]
   go_wp2_with (first
    | (with_reducible refine cW (op:=⟨some 26,_,_,_,_,_⟩) Ms 25 b (o+k*4) Y.cells hx.out rfl ?_)
    | (with_reducible refine si (op:=⟨none,_,_,_,_,_⟩) Ms 5 26 Y.cells rfl (mh<|xG Y) ?_))
   obtain⟨P,I,O,q,aa,Z,-⟩:=HL;have an:=(kG.1 I).1;have s1:=t.size;have Bn:Below wr.1.size wr (wr.alloc<|.cells Y.cells.toArray 93):=fH _ _;have a5:=og<|kR wr<|.cells Y.cells.toArray 93;have ay:wr.1.size<(wr.alloc<|.cells Y.cells.toArray 93).1.size:=(by simp);have cG:(wr.alloc<|.cells Y.cells.toArray 93).cell? ⟨a.1.size,16,none⟩=some (.slice B k c3):=(by rw[pj _ _ _ an,pG _ _ _ _ _ _ I];rfl);generalize wr.alloc (.cells Y.cells.toArray 93)=A at*;have Bd:Below A.1.size A A.drew:=(kE _ _).drew;have ac:∀z,Below A.1.size A z->z.rangeAt wr.1.size 0 Y.cells:=λz C=>bU a5 C ay;refine kN (S:=λz=>z.rangeAt wr.1.size 0 Y.cells) (by kernel_rfl) (ac _ Bd) λhh=>?_;refine tk 0 _ rfl hh ?_;refine tk 2 _ rfl hh ?_;refine jQ BS 3 29 wr.1.size 0 _ rfl hh (λz h=>h 0 _ rfl) ?_;refine tk 4 _ rfl hh ?_;refine fE pe 5 31 wr.1.size 1 [.bool Y.g,.slice Y.aq Y.an Y.ac,.slice Y.cq Y.cn Y.cc] rfl rfl hh (λz h=>iE (o:=0) h [.string Y.m] [] rfl) ?_;refine Ee (fuel:=3) Jv [6,7,8] 1 27 a.1.size 16 4 (.slice B k c3) (by show _<A.1.size;omega) cG rfl (λz C=>ac z<|cV Bd C) ?_ (l1:=#[true,true,true,true,true,true,true,true,true,false,false,false]);refine it rfl λU z C K l=>?_;have Bz:=cV Bd C;have ab:=cV Bn Bz;have Wz:=J.trans<|(t.trans<|ab.mono s1).mono J.size;simp only[cE,pz];go_simp;refine(Ju (V.out.2.2.1.below Wz)<|V.out.2.2.2.1.below Wz).mono ?_;rintro r w5 ⟨r1,t1,r2,t2,rfl,a0,aG,ae⟩;refine l.out _ _ ae ?_;clear l K;have B5:=cV ab ae;refine it rfl λU z3 av K l=>?_;rw[kU<|by kernel_rfl];refine bd 93 _ (Va.mk Y.m Y.g r1 Y.an t1 r2 Y.cn t2).cells<|l.out _ _ (kE _ _) ?_;clear l K;refine it rfl λU M aw K l=>?_;rw[kU<|by kernel_rfl];refine C8 Fu (.tmp 34) (Va.mk Y.m Y.g r1 Y.an t1 r2 Y.cn t2).cells rfl (l.out _ _ (fH _ _) ?_);clear l K;have cA:=kR M<|.cells (Va.mk Y.m Y.g r1 Y.an t1 r2 Y.cn t2).cells.toArray 93;have B6:=(cV av aw).trans<|(fH M<|.cells (Va.mk Y.m Y.g r1 Y.an t1 r2 Y.cn t2).cells.toArray 93).mono<|kJ av.size aw.size;have cC:M.1.size<(M.alloc<|.cells (Va.mk Y.m Y.g r1 Y.an t1 r2 Y.cn t2).cells.toArray 93).1.size:=(by simp);intro U z7 ax e0;have e0:=e0 (by simp);have N:=cV B6 ax;have aj:Below wr.1.size wr z7:=cV B5 N;have ak:Below A.1.size A z7:=Bz.trans<|(cV ae N).mono Bz.size;have r5:∀kk,(Value.slice B k c3).ownBlock=some kk->kk<wr.1.size:=λkk e=>(O.lt kk e).2;refine Ef Fu Mu 9 10 11 28 35 a.1.size 16 k M.1.size (y:=(Va.mk Y.m Y.g r1 Y.an t1 r2 Y.cn t2).cells) rfl rfl rfl t (kF _) I rfl O q aj (by omega) (λz kz=>kz.range ⟨s1,kw ay ak.size,by omega,λe=>by have:=r5 _ e;omega⟩<|ac _ ak) ((ax.block _ cC).trans cA) rfl (xG _) (by exact(show _=U 1 by kernel_rfl).trans e0) ?_;intro g c w8 m1 m2 m3 m4 R T;refine kV (by kernel_rfl) ?_ _;obtain⟨f1,f2⟩:=BP (w0:=a.1.size) (G:=a.1.size) (v:=.slice B k c3) aj;have f3:=BQ (w0:=a.1.size) (y:=z7) an s1 r5 ab.size N.size
   have HR:F1 a w8 a.1.size d nu de x ps q1 c1 q2 c2 E (k+1) (some ⟨g,0,none⟩) c (L++[⟨Y.m,Y.g,r1,Y.an,t1,r2,Y.cn,t2⟩]):=
    ⟨by simp[P],m1,by rw[mj,mQ];exact m2,m3,C' P (λi x h=>((aa i x h).keep f1 f2).keep R T)<|PtA.keep R T ⟨V.out.1,V.out.2.1,a0.keep (λb m=>N.block b m.2) f3,aG.keep (λb m=>N.block b m.2) f3,V.out.2.2.2.2⟩,(Z.keep f1 f2).keep R T,m4⟩
   clear m1 m2 m3 m4 R T f1 f2 f3;simp only[cE,pz,bY];go_wp2_with fail;go_roundw
   case rel=>exact⟨k+1,some ⟨g,0,none⟩,c,by omega,by go_num,L++[⟨Y.m,Y.g,r1,Y.an,t1,r2,Y.cn,t2⟩],HR⟩
   case measure=>simp[intOf];omega
  obtain rfl:k=d.pon:=(by omega);have aH:¬(d.pon:Int)<(d.pon:Int):=(by omega);obtain⟨P,I,O,q,aa,Z,t⟩:=HL;have wk:∀b,cH a.1.size wr a.1.size (.slice B d.pon c3) b->cH a.1.size wr a.1.size (.slice none 0 0) b:=λb m=>⟨m.1,m.2.1,m.2.2.1,by simp[Value.ownBlock]⟩
  have a9:Hid (PtsA wr (cH a.1.size wr a.1.size<|.slice none 0 0) B d.pon ps):=bC ⟨by omega,(Da (f:=Va.cells) (λ_=>rfl) O P).imp id λ⟨g,e1,g1,g2,g3,g4⟩=>⟨g,0,e1,⟨g1,g2,λe=>q<|e ▸ g3,by simp[Value.ownBlock]⟩,λi=>L.getD i ⟨⟨#[]⟩,false,none,0,0,none,0,0⟩,λi hi=>by
   have ar:L[i]?=some (L.getD i ⟨⟨#[]⟩,false,none,0,0,none,0,0⟩):=(by simp[List.getD,show i<L.length by omega]);have H:=g4 i _ ar
   exact⟨⟨H 0 _ rfl,H 1 _ rfl,H 2 _ rfl,H 3 _ rfl⟩,(aa i _ ar).keep (Keeps.refl _ _) wk⟩⟩⟩
  have HG:=bC<|And.intro I<|Z.keep (Keeps.refl _ _) wk;have Gc:=t;have aM:wr.cell? ⟨w.1.size,19,none⟩=some (.slice d.arq d.arn d.arc):=hS _ t 19 _ rfl;clear I O q aa Z wk P t HP;go_wp2_with fail
  go_loopw [42] (λi wr=>∃(k:Nat) (F:Option Addr) (c4:Nat),k<=d.arn/\i=.int .i64 k/\∃L:List Bi,F2 a wr a.1.size d nu de x ps bs q1 c1 q2 c2 E B c3 k F c4 L) (λi _=>d.arn - (intOf i).toNat)
  case atStart=>exact⟨0,none,0,kL _,rfl,[],rfl,HG.out.1,mH _ _ _ _,by simp[Value.ownBlock],λi x h=>by simp at h,HG.out.2,a9.out,Gc⟩
  case round=>
   obtain⟨k,F,c4,hk,rfl,L,HL⟩:=hrel;clear HG Gc aM a9;by_cases ag:k<d.arn
   .have am:(k:Int)<(d.arn:Int):=(by omega);obtain⟨b,o,hq,ao,aq⟩:=HB.out.resolve_left (by omega);have t:=HL.2.2.2.2.2.2.2;have hx:=bC<|bU (bU (Q5<|aq k ag) J ao) t<|kw ao J.size;have V:=bC<|aD.out k ag;clear aq;generalize ys k=Y at*;rw[hq]
    go_wp2_with (first
     | (with_reducible refine cW (op:=⟨some 45,_,_,_,_,_⟩) Mt 44 b (o+k*8) Y.cells hx.out rfl ?_)
     | (with_reducible refine si (op:=⟨none,_,_,_,_,_⟩) Mt 7 45 Y.cells rfl (mh<|xH Y) ?_))
    obtain⟨P,I,O,q,aa,Z,a4,-⟩:=HL;have an:=(kG.1 I).1;have s1:=t.size;have Bn:Below wr.1.size wr (wr.alloc<|.cells Y.cells.toArray 96):=fH _ _;have a5:=og<|kR wr<|.cells Y.cells.toArray 96;have ay:wr.1.size<(wr.alloc<|.cells Y.cells.toArray 96).1.size:=(by simp);have cG:(wr.alloc<|.cells Y.cells.toArray 96).cell? ⟨a.1.size,19,none⟩=some (.slice F k c4):=(by rw[pj _ _ _ an,pG _ _ _ _ _ _ I];rfl);generalize wr.alloc (.cells Y.cells.toArray 96)=A at*;have Bd:Below A.1.size A A.drew:=(kE _ _).drew;have ac:∀z,Below A.1.size A z->z.rangeAt wr.1.size 0 Y.cells:=λz C=>bU a5 C ay;refine kN (S:=λz=>z.rangeAt wr.1.size 0 Y.cells) (by kernel_rfl) (ac _ Bd) λhh=>?_;refine tk 0 _ rfl hh ?_;refine tk 2 _ rfl hh ?_;refine jQ BS 3 48 wr.1.size 0 _ rfl hh (λz h=>h 0 _ rfl) ?_;refine tk 4 _ rfl hh ?_;refine fE eU 5 50 wr.1.size 1 Y.nd.cells rfl rfl hh (λz h=>iE (o:=0) h [.string Y.m] [] rfl) ?_;refine Ee (fuel:=3) Jw [6,7,8] 1 46 a.1.size 19 4 (.slice F k c4) (by show _<A.1.size;omega) cG rfl (λz C=>ac z<|cV Bd C) ?_ (l1:=#[true,true,true,true,true,true,true,true,true,false,false,false]);refine it rfl λU z C K l=>?_;have Bz:=cV Bd C;have ab:=cV Bn Bz;have Wz:=J.trans<|(t.trans<|ab.mono s1).mono J.size;simp only[cE,pz];go_simp;refine(Mr (bs k).x Y.nd _ (V.out.2.below Wz)<|S4.out k ag).mono ?_;rintro r w5 ⟨W,rfl,a0,ae⟩;refine l.out _ _ ae ?_;clear l K;have B5:=cV ab ae;refine it rfl λU z3 av K l=>?_;rw[kU<|by kernel_rfl];refine bd 96 _ (mp Y.m W).cells<|l.out _ _ (kE _ _) ?_;clear l K;refine it rfl λU M aw K l=>?_;rw[kU<|by kernel_rfl];refine C8 Fv (.tmp 53) (mp Y.m W).cells rfl (l.out _ _ (fH _ _) ?_);clear l K;have cA:=kR M<|.cells (mp Y.m W).cells.toArray 96;have B6:=(cV av aw).trans<|(fH M<|.cells (mp Y.m W).cells.toArray 96).mono<|kJ av.size aw.size;have cC:M.1.size<(M.alloc<|.cells (mp Y.m W).cells.toArray 96).1.size:=(by simp);intro U z7 ax e0;have e0:=e0 (by simp);have N:=cV B6 ax;have aj:Below wr.1.size wr z7:=cV B5 N;have ak:Below A.1.size A z7:=Bz.trans<|(cV ae N).mono Bz.size;have r5:∀kk,(Value.slice F k c4).ownBlock=some kk->kk<wr.1.size:=λkk e=>(O.lt kk e).2;refine Ef Fv Mw 9 10 11 47 54 a.1.size 19 k M.1.size (y:=(mp Y.m W).cells) rfl rfl rfl t (kF _) I rfl O q aj (by omega) (λz kz=>kz.range ⟨s1,kw ay ak.size,by omega,λe=>by have:=r5 _ e;omega⟩<|ac _ ak) ((ax.block _ cC).trans cA) rfl (xH _) (by exact(show _=U 1 by kernel_rfl).trans e0) ?_;intro g c w8 m1 m2 m3 m4 R T;refine kV (by kernel_rfl) ?_ _;obtain⟨f1,f2⟩:=BP (w0:=a.1.size) (G:=a.1.size) (v:=.slice F k c4) aj;have f3:=BQ (w0:=a.1.size) (y:=z7) an s1 r5 ab.size N.size
    have HR:F2 a w8 a.1.size d nu de x ps bs q1 c1 q2 c2 E B c3 (k+1) (some ⟨g,0,none⟩) c (L++[mp Y.m W]):=
     ⟨by simp[P],m1,by rw[mj,mQ];exact m2,m3,C' P (λi x h=>((aa i x h).keep f1 f2).keep R T)<|BdA.keep R T ⟨V.out.1,a0.keep (λb m=>N.block b m.2) f3⟩,(Z.keep f1 f2).keep R T,(a4.keep f1 f2).keep R T,m4⟩
    clear m1 m2 m3 m4 R T f1 f2 f3;simp only[cE,pz,bY];go_wp2_with fail;go_roundw
    case rel=>exact⟨k+1,some ⟨g,0,none⟩,c,by omega,by go_num,L++[mp Y.m W],HR⟩
    case measure=>simp[intOf];omega
   obtain rfl:k=d.arn:=(by omega);have aH:¬(d.arn:Int)<(d.arn:Int):=(by omega);obtain⟨P,I,O,q,aa,Z,a4,t⟩:=HL;have s1:=t.size;have ai:=al.out;have R3:=bC<|og I;have T3:=bC<|(t.block (w.1.size+1)<|by omega).trans aJ;have al:=bC ai;clear ai
   go_wp2_with (first
    | (with_reducible refine cW (op:=⟨some 58,_,_,_,_,_⟩) jh 3 a.1.size 0 (d.ls q1 c1 q2 c2 E B d.pon c3 F d.arn c4).cells R3.out rfl ?_)
    | (with_reducible refine Am (op:=⟨none,_,_,_,_,_⟩) jh 2 58 (w.1.size+1) (d.ls q1 c1 q2 c2 E B d.pon c3 F d.arn c4).cells T3.out rfl rfl (GO _) ?_))
   refine xF jh (p:=2) (nh _ _ _ _ _ _ T3.out) rfl ?_;have ai:=al.out;have kp:Keeps (cH a.1.size wr a.1.size<|.slice F d.arn c4) wr (wr.setRow (w.1.size+1) (d.ls q1 c1 q2 c2 E B d.pon c3 F d.arn c4).cells.toArray):=λb m=>mf _ _ _ _ (by have:=m.1;omega);have fr:∀b,cH a.1.size wr a.1.size (.slice F d.arn c4) b->bP w (wr.setRow (w.1.size+1) (d.ls q1 c1 q2 c2 E B d.pon c3 F d.arn c4).cells.toArray) b:=λb m=>⟨by have:=m.1;omega,by have:=m.2.1;simpa using this⟩;obtain⟨a1,a2,a3⟩:=Z.keep kp fr;refine⟨d.ls q1 c1 q2 c2 E B d.pon c3 F d.arn c4,rfl,⟨⟨rfl,rfl,rfl,rfl⟩,a1,a2,a8.out.1,a8.out.2,a3,a4.keep kp fr,⟨by show d.arn<=_;omega,(Da (f:=Bi.cells) (λ_=>rfl) O P).imp id λ⟨g,e1,g1,g2,g3,g4⟩=>⟨g,0,e1,⟨by omega,by simpa using g2⟩,λi=>L.getD i<|mp ⟨#[]⟩ uL,λi hi=>?_⟩⟩,kL _,.inl rfl⟩,oh (cV J t) (by omega) _⟩;have ar:L[i]?=some (L.getD i<|mp ⟨#[]⟩ uL):=(by simp[List.getD,show i<L.length by omega]);have H:(wr.setRow (w.1.size+1) (d.ls q1 c1 q2 c2 E B d.pon c3 F d.arn c4).cells.toArray).rangeAt g (0+i*8) (L.getD i<|mp ⟨#[]⟩ uL).cells:=λj u hu=>(ml<|mf _ _ _ _<|by show g≠_;omega).trans<|g4 i _ ar j u hu;exact⟨⟨H 0 _ rfl,H 1 _ rfl,H 2 _ rfl,H 3 _ rfl,H 4 _ rfl,H 5 _ rfl,H 6 _ rfl,H 7 _ rfl⟩,(aa i _ ar).keep kp fr⟩
