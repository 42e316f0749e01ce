import Derived.Deep.CutBlock
import Derived.Outline
import Derived.Laws.CopyOwn
import Derived.Test.YthcfmhgihcjloaaGreatDoorPk14
namespace Go.Proofs.YthcfmhgihcjloaaGreatDoor
open Go Go.RowKit Tryz
set_option maxRecDepth 100000
set_option maxHeartbeats 16000000
variable {g m cap s Lq:Nat} {w:World} {v u:Value} {xs us vs q ys u0:List Int} {Q G R:Int}
def SlN (g:Nat) (w:World) (v:Value) (xs:List Int):Prop:=
 cB xs/\xs.length<=549755813888/\∃q cap,v=.slice q xs.length cap/\xs.length<=cap/\(xs=[]\/∃b o,q=some ⟨b,o,none⟩/\b<w.1.size/\b≠g/\∀i,i<xs.length->w.cell? ⟨b,o+i,none⟩=some (.int .u32<|xs.getD i 0))
theorem SlN.sl (h:SlN g w v xs):Sl w v xs:=by obtain⟨h1,h2,q,cap,h3,h4,h5⟩:=h;refine⟨h1,h2,q,cap,h3,h4,h5.imp id ?_⟩;rintro⟨b,o,e,d,_,a⟩;exact⟨b,o,e,d,a⟩
theorem Sl.ne (h:Sl w v xs) {w':World} {g:Nat} (a:Below w.1.size w w') (j:w.1.size<=g):SlN g w' v xs:=by obtain⟨h1,h2,q,cap,h3,h4,h5⟩:=h;refine⟨h1,h2,q,cap,h3,h4,h5.imp id ?_⟩;rintro⟨b,o,e,d,f⟩;exact⟨b,o,e,kw d a.size,by omega,λi hi=>fg a d<|f i hi⟩
theorem SlN.sav {w':World} (h:SlN g w v xs) (f:Sav g w w'):SlN g w' v xs:=by obtain⟨h1,h2,q,cap,h3,h4,h5⟩:=h;refine⟨h1,h2,q,cap,h3,h4,h5.imp id ?_⟩;rintro⟨b,o,e,a,d,j⟩;exact⟨b,o,e,kw a f.size,d,λi hi=>(f.cell a d).trans<|j i hi⟩
theorem B8 {U L b:Int} (e:0<=U/\U<=4294967295) (d:0<=L/\L<=4294967295) (a:b=0\/b=1):
  ((U - L) % 18446744073709551616 - b) % 18446744073709551616 % 4294967296=(U - L - b) % 4294967296/\((U - L) % 18446744073709551616 - b) % 18446744073709551616 / 9223372036854775808=(if U - L - b<0 then 1 else 0):=by
 rcases a with rfl | rfl
 .refine⟨by omega,?_⟩;split<;>omega
 refine⟨by omega,?_⟩;split<;>omega
structure DgF (us vs:List Int) (m:Nat) (Q:Int):Prop where
 du:cB us
 dv:cB vs
 hu:us.length=m+3
 hv:vs.length=m+2
 ht:0<vs.getD (m+1) 0
 hq:val us<val vs*4294967296
 q:val us / val vs=Q
theorem DgF.facts (h:DgF us vs m Q):0<val vs/\0<=Q/\Q<=4294967295/\val us % val vs=val us - Q*val vs/\0<=val us % val vs/\val us % val vs<val vs:=by have a:=G8 h.dv h.hv h.ht;have u0:=ep h.du;have h1:0<=val us / val vs:=mt u0 (by omega);have h2:val us / val vs<4294967296:=lU a (by have:=h.hq;rwa [kI] at this);have h3:=l9 (val us)<|val vs;have h4:=nt (val us) (by omega:val vs≠0);have h5:=mg (val us) a;rw[h.q] at h1 h2 h3;rw[kI] at h3;exact⟨a,h1,by omega,by omega,h4,h5⟩
theorem Gs.downF {V:Int} (h:Gs us vs m G R) (f:DgF us vs m Q) (a:vs.getD (m+1) 0=V) (b:4294967296<=G\/R*4294967296+us.getD m 0<G*vs.getD m 0):Gs us vs m (G - 1) (R+V)/\1<=G:=by
 have:=h.down f.du f.dv f.hu f.hv f.ht f.hq b
 rwa [a] at this
theorem Gs.goodF (h:Gs us vs m G R) (f:DgF us vs m Q) (h1:G<4294967296) (h2:G*vs.getD m 0<=R*4294967296+us.getD m 0):Q<=G/\G<=Q+1:=by have h3:=h.good f.du f.dv f.hu f.hv f.ht h1 h2;have h4:=h.ge;rw[f.q] at h3 h4;exact⟨h4,h3⟩
theorem Gs.bigF (h:Gs us vs m G R) (f:DgF us vs m Q) (a:4294967296<=R):G<4294967296/\Q<=G/\G<=Q+1:=by have h1:=h.big f.du f.dv f.hu f.hv f.ht f.hq a;exact⟨h1.1,h.goodF f h1.1 h1.2⟩
theorem RS {j:Nat} {A C:List Int} (hA:A.length=j) (hu:us.length=m+3) (hv:vs.length=m+2) (ap:BlkP w g (A++us++C)) (du:cB us) (ar:SlN g w v vs)
  (ht:0<vs.getD (m+1) 0) (hq:val us<val vs*4294967296) (_aF:m+3<=cap) (hm:m+3<=274877906944) (_hj:j<=549755813888):
  cN 288 #[.slice (some ⟨g,j,none⟩) (m+3) cap,v] w λe w'=>∃ay,e=.returned (.int .u32<|val us / val vs)/\ay.length=m+3/\cB ay/\val ay=val us % val vs/\BlkP w' g (A++ay++C)/\Sav g w w':=by
 obtain⟨Q,hQ⟩:∃Q,val us / val vs=Q:=⟨_,rfl⟩;rw[hQ];have hF:Hid (DgF us vs m Q):=⟨du,ar.1,hu,hv,ht,hq,hQ⟩;have ah:Hid (Gs us vs m ((us.getD (m+2) 0*4294967296+us.getD (m+1) 0) / vs.getD (m+1) 0)<|(us.getD (m+2) 0*4294967296+us.getD (m+1) 0) % vs.getD (m+1) 0):=Gs.zero du ar.1 hu hv ht;have a7:=du<|m+2;have aN:=du<|m+1;have aM:=du m;have bh:=ar.1<|m+1;have aO:=ar.1 m;have bl:=ap.lt
 have cell:∀i,i<m+3->w.cell? ⟨g,j+i,none⟩=some (.int .u32<|us.getD i 0):=by
  intro i hi;have:=ap.cell (j:=A.length+i)<|by simp;omega
  rwa [BU<|by omega,hA] at this
 obtain⟨_,_,q2,br,rfl,bi,hx⟩:=ar
 rcases hx with hx | ⟨b,o,rfl,hb,aR,ax⟩
 .simp[hx] at hv
 have aH:=cell (m+2) (by omega);have aG:=cell (m+1) (by omega);have W:=cell m (by omega);have aa:=ax (m+1) (by omega);have Z:=ax m (by omega);have bV:Hid (∀i,i<m+2->w.cell? ⟨b,o+i,none⟩=some (.int .u32<|vs.getD i 0)):=λi hi=>ax i (by omega);have dY:Hid (BlkP w g<|A++us++C):=ap;have af:Hid (A.length=j):=hA;rw[hv] at bi ⊢;have eV:Hid (vs.getD (m+1) 0=vs.getD (m+1) 0):=rfl;obtain⟨V,hV⟩:∃V,Hid (vs.getD (m+1) 0=V):=⟨_,rfl⟩;obtain⟨V2,a9⟩:∃V2,Hid (vs.getD m 0=V2):=⟨_,rfl⟩;obtain⟨n,gH⟩:∃n,Hid (us.getD (m+2) 0=n):=⟨_,rfl⟩;obtain⟨U1,jT⟩:∃U1,Hid (us.getD (m+1) 0=U1):=⟨_,rfl⟩;obtain⟨O,gI⟩:∃O,Hid (us.getD m 0=O):=⟨_,rfl⟩;rw[hV.out] at aa bh ah ht;rw[a9.out] at Z aO;rw[gH.out] at aH a7 ah;rw[jT.out] at aG aN ah;rw[gI.out] at W aM;have aZ:=(uP a7 aN).1;obtain⟨T,hT⟩:∃T,n*4294967296+U1=T:=⟨_,rfl⟩;rw[hT] at aZ ah;have a6:0<=T:=by omega
 have bg:T<=18446744073709551615:=by omega
 clear hT du hu hv ax ap hA cell hq hQ eV;go_enter func288,ntmps288;go_wp2
 go_quiet (fail)
 have a2:(w.drewN nq).cell? ⟨b,o+(m+1),none⟩=some (.int .u32 V):=aa;have a1:(w.drewN nq).cell? ⟨b,o+m,none⟩=some (.int .u32 V2):=Z;have a0:(w.drewN nq).cell? ⟨g,j+m,none⟩=some (.int .u32 O):=W;have a3:Below w.1.size w (w.drewN nq):=ee (kE _ _) _;generalize w.drewN nq=wz at a2 a1 a0 a3 ⊢;clear aa Z W aG aH;go_wp2
 go_quiet (fail)
 have aa:(wz.drewN nq).cell? ⟨b,o+(m+1),none⟩=some (.int .u32 V):=a2;have Z:(wz.drewN nq).cell? ⟨b,o+m,none⟩=some (.int .u32 V2):=a1;have W:(wz.drewN nq).cell? ⟨g,j+m,none⟩=some (.int .u32 O):=a0;have aj:Below w.1.size w (wz.drewN nq):=ee a3 _;generalize wz.drewN nq=wy at aa Z W aj ⊢;clear a2 a1 a0 a3;have iz:0<=T / V:=mt a6 (by omega);have jU:T / V<=T:=pI _ a6;have iC:0<=T % V:=nt _ (by omega);have jV:T % V<V:=mg _ (by omega);go_upto_block 0 with fail
 go_cut [7] from 50 to 85 (λv7 wx=>∃G:Int,v7=.int .u64 G/\0<=G/\G<=4294967295/\Q<=G/\G<=Q+1/\Below w.1.size w wx)
 case first=>
  go_wp2_with fail
  go_loopw [7,8] (λt7 t8 wr=>∃G R:Int,t7=.int .u64 G/\t8=.int .u64 R/\Hid (Gs us vs m G R)/\0<=G/\G<=18446744073709551615/\0<=R/\R<=4294967295/\Below wy.1.size wy wr) (λt7 _ _=>(intOf t7).toNat)
  case atStart=>exact⟨T / V,T % V,rfl,rfl,ah,iz,by omega,iC,by omega,kE _ _⟩
  case round=>
   obtain⟨G,R,rfl,rfl,hg,ag,au,al,an,K⟩:=hrel;have b5:=K.size;have aQ:b<wy.1.size:=kw hb aj.size;have bk:g<wy.1.size:=kw bl aj.size;have c1:wr.cell? ⟨b,o+(m+1),none⟩=some (.int .u32 V):=fg K aQ aa;have c0:wr.cell? ⟨b,o+m,none⟩=some (.int .u32 V2):=fg K aQ Z;have cu:wr.cell? ⟨g,j+m,none⟩=some (.int .u32 O):=fg K bk W;have J:Below w.1.size w wr:=cV aj K;clear aa Z W;by_cases iw:4294967296<=G
   .have hd:=hg.out.downF hF.out hV.out<|.inl iw;have aq:Hid (Gs us vs m (G - 1)<|R+V):=hd.1;have bc:=hd.2;have jW:(G / 4294967296 != 0)=true:=(by simp;omega);clear hd;go_wp2
    go_quiet (fail)
    have az:(wr.drewN nq).cell? ⟨b,o+(m+1),none⟩=some (.int .u32 V):=c1;have bm:Below wy.1.size wy (wr.drewN nq):=ee K _;have ad:Below w.1.size w (wr.drewN nq):=ee J _;generalize wr.drewN nq=wx at az bm ad ⊢;clear c1 c0 cu K J;by_cases hR:4294967296<=R+V
    .have hbf:=aq.out.bigF hF.out hR;have a':1<=(R+V) / 4294967296:=(by omega);go_wp2;go_meet
     case rel=>exact⟨G - 1,by go_num,by omega,by omega,hbf.2.1,hbf.2.2,ad⟩
    have a':(R+V) / 4294967296=0:=(by omega);go_wp2;go_roundw
    case rel=>exact⟨G - 1,R+V,by go_num,by go_num,aq,by omega,by omega,by omega,by omega,bm⟩
    case measure=>simp[intOf];omega
   have jX:=(uP ⟨al,an⟩ aM).1;have bq:=BK (a:=G) (b:=V2) ⟨ag,by omega⟩ aO;obtain⟨P,hP⟩:∃P,G*V2=P:=⟨_,rfl⟩;obtain⟨S,y⟩:∃S,R*4294967296+O=S:=⟨_,rfl⟩;have b0:0<=S/\S<=18446744073709551615:=(by omega);rw[y] at jX;rw[hP] at bq;have jW:(G / 4294967296 != 0)=false:=(by simp;omega);by_cases gJ:S<P
   .have hd:=hg.out.downF hF.out hV.out (.inr<|by rw[a9.out,gI.out,hP,y];exact gJ);have aq:Hid (Gs us vs m (G - 1)<|R+V):=hd.1;have bc:=hd.2;have jY:P > S:=gJ;have bf:Hid (R*4294967296+O=S):=y;clear hd y;go_wp2
    go_quiet (fail)
    have az:(wr.drewN nq).cell? ⟨b,o+(m+1),none⟩=some (.int .u32 V):=c1;have bm:Below wy.1.size wy (wr.drewN nq):=ee K _;have ad:Below w.1.size w (wr.drewN nq):=ee J _;generalize wr.drewN nq=wx at az bm ad ⊢;clear c1 c0 cu K J;by_cases hR:4294967296<=R+V
    .have hbf:=aq.out.bigF hF.out hR;have a':1<=(R+V) / 4294967296:=(by omega);go_wp2;go_meet
     case rel=>exact⟨G - 1,by go_num,by omega,by omega,hbf.2.1,hbf.2.2,ad⟩
    have a':(R+V) / 4294967296=0:=(by omega);go_wp2;go_roundw
    case rel=>first | exact⟨by omega,by omega,by omega⟩ | exact⟨G - 1,R+V,by go_num,by go_num,aq,by omega,by omega,by omega,by omega,bm⟩
    case measure=>simp[intOf];omega
   have aY:=hg.out.goodF hF.out (by omega) (by rw[a9.out,gI.out,hP,y];omega);have jY:¬P > S:=gJ;have bf:Hid (R*4294967296+O=S):=y;clear y;go_wp2
   go_quiet (fail)
   have ad:Below w.1.size w (wr.drewN nq):=ee J _;generalize wr.drewN nq=wx at ad ⊢;clear c1 c0 cu K J;go_wp2;go_meet
   case rel=>exact⟨G,rfl,ag,by omega,aY.1,aY.2,ad⟩
 case rest=>
  obtain⟨G,rfl,ag,au,bw,bx,J⟩:=hcut;have aL:Sav g w wc:=Sav.of J;have aK:BlkP wc g (A++us++C):=dY.out.below J;clear J aj aa Z W ah aZ iz jU iC jV a6 bg;go_wp2
  go_loopw [9,10,88] (λt9 aB aE wr=>∃(i:Nat) (l:List Int) (c f:Int),i<=m+2/\aE=.int .i64 i/\t9=.int .u64 f/\aB=.int .u64 c/\Hid (Mb us vs G i l c f)/\BlkP wr g (A++l++C)/\Sav g w wr) (λ_ _ aE _=>m+2 - (intOf aE).toNat)
  case atStart=>exact⟨0,us,0,0,kL _,rfl,rfl,rfl,Mb.zero hF.out.du,aK,aL⟩
  case round=>
   clear aL aK;obtain⟨i,l,c,f,hi,rfl,rfl,rfl,D,H,M⟩:=hrel;have aT:=D.out.c0;have aP:=D.out.b0;have aX:=H.frozen<|j+i
   have aw:wr.cell? ⟨g,j+i,none⟩=some (.int .u32<|us.getD i 0):=by
    have h1:=H.cell (j:=A.length+i)<|by have:=D.out.len;have:=hF.out.hu;simp;omega
    rwa [BU<|by have:=D.out.len;have:=hF.out.hu;omega,af.out,D.out.rest i<|kF _] at h1
   by_cases bp:i<m+2
   .have am:(i:Int)<(m:Int)+2:=(by omega);have cy:=bV.out i bp;have aI:wr.cell? ⟨b,o+i,none⟩=some (.int .u32<|vs.getD i 0):=(M.cell hb aR).trans cy;have I:=λS T y hT=>D.out.step (S:=S) (T:=T) hF.out.du hF.out.dv ⟨ag,au⟩ (by have:=hF.out.hu;omega) y hT;have av:=hF.out.dv i;have a8:=hF.out.du i
    have B:Hid (∀d,(A++l++C).set (j+i) d=A++l.set i d++C):=λd=>by
     have:=Ej A l C i d<|by have:=D.out.len;have:=hF.out.hu;omega
     rwa [af.out] at this
    obtain⟨Y,hY⟩:∃Y,Hid (vs.getD i 0=Y):=⟨_,rfl⟩;obtain⟨U,hU⟩:∃U,Hid (us.getD i 0=U):=⟨_,rfl⟩;rw[hY.out] at aI av I;rw[hU.out] at aw a8 I;have aW:=MR ⟨ag,au⟩ av aT;have be:=BK ⟨ag,au⟩ av;obtain⟨GY,jZ⟩:∃GY,G*Y=GY:=⟨_,rfl⟩;rw[jZ] at aW I be;obtain⟨S,y⟩:∃S,GY+c=S:=⟨_,rfl⟩;rw[y] at aW I;have dB:=B8 a8 (by omega:0<=S % 4294967296/\S % 4294967296<=4294967295) aP;obtain⟨L,hL⟩:∃L,S % 4294967296=L:=⟨_,rfl⟩;have bz:0<=L/\L<=4294967295:=(by omega);have cL:=I S (U - S % 4294967296 - f) rfl rfl;rw[hL] at dB cL;obtain⟨t,ab⟩:∃t,(U - L) % 18446744073709551616=t:=⟨_,rfl⟩;rw[ab] at dB;obtain⟨F,ac⟩:∃F,(t - f) % 18446744073709551616=F:=⟨_,rfl⟩;rw[ac] at dB;have j3:IntKind.u64.wrap (U - L)=t:=(by rw[nL];exact ab);have j4:IntKind.u64.wrap (t - f)=F:=(by rw[nL];exact ac);obtain⟨s1,s2⟩:=dB;obtain⟨h,N⟩:∃h,(U - L - f) % 4294967296=h:=⟨_,rfl⟩
    obtain⟨Bb,aJ⟩:∃Bb:Int,(if U - L - f<0 then 1 else 0)=Bb:=⟨_,rfl⟩
    rw[N] at s1 cL;rw[aJ] at s2 cL;have gK:Hid (Mb us vs G (i+1) (l.set i h) (S / 4294967296) Bb):=cL;have b2:0<=S / 4294967296/\S / 4294967296<=4294967295:=(by omega);have j5:0<=t/\t<=18446744073709551615:=(by omega);have j6:0<=F/\F<=18446744073709551615:=(by omega);have bs:0<=h/\h<=4294967295:=(by omega);have b6:=bC N;clear I cL N aJ cy ab ac;go_wp2;go_roundw
    case rel=>have k:=H.set (j+i) h;rw[B.out] at k;exact⟨i+1,_,_,_,by omega,by go_num,rfl,rfl,gK,k,M.setCell _ _⟩
    case measure=>simp[intOf];omega
   obtain rfl:i=m+2:=(by omega);rw[gH.out] at aw;have bj:=hF.out.facts;obtain⟨vp,q0,q1,hR,al,an⟩:=bj;obtain⟨l1,l2,l3⟩:=D.out.last hF.out.du hF.out.hu hF.out.hv (T:=n - c - f) (by rw[gH.out]);have l4:=oW l2;have l5:=ep l2;rw[l1] at l4
   have B:Hid ((A++l++C).set (j+(m+2)) ((n - c - f) % 4294967296)=A++l.set (m+2) ((n - c - f) % 4294967296)++C):=by
    have:=Ej A l C (m+2) ((n - c - f) % 4294967296)<|by have:=D.out.len;have:=hF.out.hu;omega
    rwa [af.out] at this
   have dB:=B8 a7 aT aP;obtain⟨t,ab⟩:∃t,(n - c) % 18446744073709551616=t:=⟨_,rfl⟩;rw[ab] at dB;obtain⟨F,ac⟩:∃F,(t - f) % 18446744073709551616=F:=⟨_,rfl⟩;rw[ac] at dB;have j3:IntKind.u64.wrap (n - c)=t:=(by rw[nL];exact ab);have j4:IntKind.u64.wrap (t - f)=F:=(by rw[nL];exact ac);obtain⟨s1,s2⟩:=dB;have j5:0<=t/\t<=18446744073709551615:=(by omega);have j6:0<=F/\F<=18446744073709551615:=(by omega);by_cases fu:n - c - f<0
   .rw[kU fu] at s2 l3
    have a4:G=Q+1:=by
     rcases (by omega:G=Q+1\/G=Q) with ae | ae
     .exact ae
     exfalso;rw[ae] at l3;omega
    subst a4;rw[kW,nS] at l3;have a5:Hid (val (l.set (m+2)<|(n - c - f) % 4294967296)+val vs=val us % val vs+4294967296^(m+2+1)):=(by show _=_;omega);have ai:=bC l2;have iD:Hid (0<=val us % val vs/\val us % val vs<val vs):=⟨al,an⟩;obtain⟨h,N⟩:∃h,(n - c - f) % 4294967296=h:=⟨_,rfl⟩;have bb:0<=h/\h<=4294967295:=(by omega);rw[N] at s1 l1 ai a5 B;have b4:Hid (l.length=m+3/\C.length=C.length):=⟨by have:=D.out.len;have:=hF.out.hu;omega,rfl⟩;have k:=H.set (j+(m+2)) h;rw[B.out] at k;have ba:=M.setCell (j+(m+2))<|.int .u32 h;clear l2 l3 l4 l5 hR al an ab ac N D vp;obtain⟨r,aU⟩:∃r,Hid (l.set (m+2) h=r):=⟨_,rfl⟩;rw[aU.out] at l1 ai a5 k;have aA:Hid (r.length=m+3):=l1;clear aU l1 B;go_wp2
    go_loopw [10,141] (λaB aC wr=>∃(i:Nat) (x:List Int) (c2:Int),i<=m+2/\aC=.int .i64 i/\aB=.int .u64 c2/\Hid (Ab r vs i x c2)/\BlkP wr g (A++x++C)/\Sav g w wr) (λ_ aC _=>m+2 - (intOf aC).toNat)
    case atStart=>exact⟨0,r,0,kL _,rfl,rfl,Ab.zero ai.out,k,ba⟩
    case round=>
     clear k ba H M aX aw;obtain⟨i,x,c2,hi,rfl,rfl,ao,H,M⟩:=hrel;have b3:=ao.out.c01;have aX:=H.frozen<|j+i;have eM:x.length=m+3:=by have:=ao.out.len;have:=aA.out;omega
     have aw:wr.cell? ⟨g,j+i,none⟩=some (.int .u32<|r.getD i 0):=by
      have h1:=H.cell (j:=A.length+i)<|by simp;omega
      rwa [BU<|by omega,af.out,ao.out.rest i<|kF _] at h1
     have a8:=ai.out i;by_cases gv:i<m+2
     .have am:(i:Int)<(m:Int)+2:=(by omega);have cy:=bV.out i gv;have aI:wr.cell? ⟨b,o+i,none⟩=some (.int .u32<|vs.getD i 0):=(M.cell hb aR).trans cy;have av:=hF.out.dv i;have I:=ao.out.step ai.out hF.out.dv (by have:=aA.out;omega) rfl
      have B:Hid (∀d,(A++x++C).set (j+i) d=A++x.set i d++C):=λd=>by
       have:=Ej A x C i d<|by omega
       rwa [af.out] at this
      generalize vs.getD i 0=Y at*;generalize r.getD i 0=U at*;obtain⟨S,y⟩:∃S,U+Y+c2=S:=⟨_,rfl⟩;rw[y] at I;have b1:0<=S/\S<=8589934591:=(by omega);have aD:Hid (Ab r vs (i+1) (x.set i<|S % 4294967296)<|S / 4294967296):=I;clear I cy eM;go_wp2;go_roundw
      case rel=>have k:=H.set (j+i)<|S % 4294967296;rw[B.out] at k;exact⟨i+1,_,_,by omega,by go_num,rfl,aD,k,M.setCell _ _⟩
      case measure=>simp[intOf];omega
     obtain rfl:i=m+2:=(by omega);obtain⟨e1,e2,e3⟩:=ao.out.last ai.out hF.out.dv aA.out hF.out.hv a5.out iD.out.1 iD.out.2
     have B:Hid ((A++x++C).set (j+(m+2)) ((r.getD (m+2) 0+c2) % 4294967296)=A++x.set (m+2) ((r.getD (m+2) 0+c2) % 4294967296)++C):=by
      have:=Ej A x C (m+2) ((r.getD (m+2) 0+c2) % 4294967296)<|by omega
      rwa [af.out] at this
     have z:Hid ((x.set (m+2)<|(r.getD (m+2) 0+c2) % 4294967296).length=m+3/\cB (x.set (m+2)<|(r.getD (m+2) 0+c2) % 4294967296)/\val (x.set (m+2)<|(r.getD (m+2) 0+c2) % 4294967296)=val us % val vs):=⟨e1,e2,e3⟩;have k:=H.set (j+(m+2))<|(r.getD (m+2) 0+c2) % 4294967296;rw[B.out] at k;clear e1 e2 e3 B eM;generalize r.getD (m+2) 0=X at*;obtain⟨E,hE⟩:∃E,(X+c2) % 4294967296=E:=⟨_,rfl⟩;have bv:IntKind.u32.wrap (X+c2)=E:=(by rw[sK];exact hE);have bu:0<=E/\E<=4294967295:=(by omega);rw[hE] at z k;clear hE;go_wp2;go_ret;exact⟨x.set (m+2) E,by go_num,z.out.1,z.out.2.1,z.out.2.2,k,M.setCell _ _⟩
   rw[kZ fu] at s2 l3
   have a4:G=Q:=by
    rcases (by omega:G=Q+1\/G=Q) with ae | ae
    .exfalso;rw[ae,kW,nS] at l3;omega
    exact ae
   subst a4;have z:Hid ((l.set (m+2)<|(n - c - f) % 4294967296).length=m+3/\cB (l.set (m+2)<|(n - c - f) % 4294967296)/\val (l.set (m+2)<|(n - c - f) % 4294967296)=val us % val vs):=⟨l1,l2,by rw[l3,hR];omega⟩;have k:=H.set (j+(m+2))<|(n - c - f) % 4294967296;rw[B.out] at k;obtain⟨h,N⟩:∃h,(n - c - f) % 4294967296=h:=⟨_,rfl⟩;have bb:0<=h/\h<=4294967295:=(by omega);rw[N] at s1 z k;clear l1 l2 l3 l4 l5 hR al an ab ac N D vp B;go_wp2;go_ret
   first
    | exact⟨l.set (m+2) h,by go_num,z.out.1,z.out.2.1,z.out.2.2,k,M.setCell _ _⟩
    | exact⟨by go_num,l.set (m+2) h,z.out.1,z.out.2.1,z.out.2.2,by rw[<-mJ];exact k,M.setCell _ _⟩
theorem Sl.news {q:Option Addr} {n:Nat} (h:Sl w (.slice q n cap) ys) (k:0<ys.length):∃f,q=some f/\∀j v,(ys.map<|Value.int .u32)[j]?=some v->w.cell? (f.add j)=some v:=by
 obtain⟨_,_,q',cap',e,_,l⟩:=h;cases e
 rcases l with rfl | ⟨b,o,rfl,_,i⟩
 .simp at k
 refine⟨_,rfl,λj u a=>?_⟩
 have d:j<ys.length:=by
  rcases kS j ys.length with h | h
  .exact h
  simp[lP h] at a
 have h:=i j d;simp only[mI,k8 d,qW,mc] at a;rw[show ys.getD j 0=ys[j] by simp[d],a] at h;by_cases h0:j=0
 .subst h0;simpa [Addr.add] using h
 simpa [Addr.add,h0] using h
theorem Blk.p {os:List Int} (h:Blk w g os):BlkP w g os:=by unfold Blk at h;exact⟨_,h,λj a=>by simp[gC,a]⟩
theorem RT (zs:List Int) (n:Nat) (_h:zs.length<=n):splice ((List.replicate n (0:Int)).map<|Value.int .u32) 0 (zs.map<|Value.int .u32)=(zs++List.replicate (n - zs.length) 0).map (Value.int .u32):=by unfold splice;rw[lN];simp
theorem M4 (zs:List Int) (k:Nat):val (zs++List.replicate k 0)=val zs:=by
 rw[zB]
 have hv:∀n:Nat,val (List.replicate n 0)=0:=by
  intro n
  induction n with
  | zero=>rfl
  | succ n a=>simp[nV,val,a]
 rw[hv,nY,mR]
theorem AD {zs:List Int} (h:cB zs) (k:Nat):cB (zs++List.replicate k 0):=JH h λj=>by
 have:(List.replicate k (0:Int)).getD j 0=0:=by simp only[ll,nK];split<;>rfl
 rw[this];omega
structure DivG (xs ys vs u0:List Int) (s m Lq:Nat):Prop where
 vl:vs.length=m+2
 ul:u0.length=Lq+(m+2)
 dv:cB vs
 du:cB u0
 vv:val vs=val ys*2^s
 vz:val u0=val xs*2^s
 ht:0<vs.getD (m+1) 0
 top:val (u0.drop Lq)<val vs
 vy:0<val ys
theorem DivG.vpos (h:DivG xs ys vs u0 s m Lq):0<val vs:=G8 h.dv h.vl h.ht
theorem RU {Y:Int} (h0:1<=Y) (h1:Y<=4294967295):∃s:Nat,(32 - (Lib.bitLen Y.toNat:Int))=s/\s<=31/\Y*2^s<4294967296:=by
 obtain⟨s1,s2,a⟩:=MS Y.toNat (by omega) (by omega);have b:=MT Y (by omega) h1;generalize Lib.bitLen Y.toNat=L at*;refine⟨32 - L,by omega,by omega,?_⟩;have e:(2:Int)^L*2^(32 - L)=4294967296:=by rw[<-mw,show L+(32 - L)=32 by omega];rfl
 have h2:Y<(2:Int)^L:=by rw[show ((2:Int)^L)=((2^L:Nat):Int) by simp];omega
 rw[<-e];exact pU h2<|i7 _
theorem RV {zs:List Int} (l:cB xs) (a:cB ys) (b:bD ys) (i:ys.length=m+2) (o:ys.getD (m+1) 0*2^s<4294967296) (F:s<=31) (D:xs.length+1=Lq+(m+2))
  (dv:cB vs) (cv:bD vs) (vv:val vs=val ys*2^s) (dz:cB zs) (vz:val zs=val xs*2^s) (H:zs.length<=xs.length+1):
  DivG xs ys vs (zs++List.replicate (xs.length+1 - zs.length) 0) s m Lq:=by
 have f:=i7 s;have t:=MO a b (k:=m+1) i;have E:=su<|m+1;have vy:0<val ys:=by omega
 have e1:=zG (vs:=ys) (m:=m+1) i;have j:=oW<|ms a<|m+1;have I:=ep<|ms a<|m+1;rw[lD,lR<|by omega] at j
 have z:val vs<4294967296^(m+2):=by
  rw[vv,e1,kW,lH _<|m+1];have h1:(ys.getD (m+1) 0*2^s+2^s)*4294967296^(m+1)<=4294967296*4294967296^(m+1):=by refine kO ?_ (by omega);obtain⟨d,r⟩:∃d,32=s+d:=⟨32 - s,by omega⟩;have n:(4294967296:Int)=2^d*2^s:=(by rw[<-mw,Nat.add_comm,<-r];rfl);have h2:ys.getD (m+1) 0*2^s<2^d*2^s:=(by rw[<-n];exact o);have h3:=sB h2 (by omega);have h4:=kO (by omega:ys.getD (m+1) 0+1<=2^d) (by omega:(0:Int)<=2^s);rw[kW,nS] at h4;omega
  have h5:val (ys.take<|m+1)*2^s<4294967296^(m+1)*2^s:=pU j f;rw[kW] at h1;have h6:ys.getD (m+1) 0*4294967296^(m+1)*2^s=ys.getD (m+1) 0*2^s*4294967296^(m+1):=by rw[kH,kI<|4294967296^(m+1),<-kH]
  rw[h6];rw[kI<|2^s] at h1;omega
 have x:val ys<=val vs:=by rw[vv];have:=lr (by omega:(1:Int)<=2^s) (by omega:0<=val ys);omega
 have l1:=MP dv cv z;have l2:=FK a dv b x;have vl:vs.length=m+2:=by omega
 have c1:=cv (m+1) vl;have d1:=dv<|m+1;have y:(zs++List.replicate (xs.length+1 - zs.length) 0).length=Lq+(m+2):=by simp;omega
 have e:=AD dz<|xs.length+1 - zs.length;refine⟨vl,y,dv,e,vv,by rw[M4,vz],by omega,?_,vy⟩;rw[M0 e Lq<|by omega,M4,vz];have h:=oW l;have A:xs.length=Lq+(m+1):=by omega
 rw[A,mw] at h;have h7:val xs*2^s<4294967296^Lq*(4294967296^(m+1)*2^s):=by rw[<-kH];exact pU h f
 rw[kI<|4294967296^Lq] at h7;have B:=lU (su Lq) h7;have C:4294967296^(m+1)*2^s<=val vs:=by rw[vv];exact kO t<|by omega
 omega
theorem RW {j wr:World} {gu:Nat} {k:Nat} (h:DivG xs ys vs u0 s m Lq) (J:k<Lq) (a:Dvb u0 vs (k+1) us q) (C:SlN gu j v vs) (i:BlkP wr gu us) (A:Sav gu j wr)
  (l:m+3<=cap) (z:m+3<=274877906944) (I:Lq<=549755813888):
  ∃d:Int,(0<=d/\d<=4294967295)/\cN 288 #[.slice (some ⟨gu,k,none⟩) (m+3) cap,v] wr λe w'=>e=.returned (.int .u32 d)/\∃f,BlkP w' gu f/\Dvb u0 vs k f (q.set k d)/\Sav gu wr w':=by
 have N:=h.ul;have hv:=h.vl;have L:=a.qlen;have M:=a.len;have H:=h.vpos;obtain⟨_,_,h3⟩:=a.window (by omega) h.dv;have D:us=us.take k++(us.drop k).take (vs.length+1)++us.drop (k+(vs.length+1)):=by rw[mJ,<-rY,lS,lS]
 have F:((us.drop k).take<|vs.length+1).length=m+3:=by rw[lD,nN];omega
 have b:=ms (Av a.dig k)<|vs.length+1;have w0:=ep b;rw[D] at i;have r:=RS (cap:=cap) (by rw[lD,lR<|by omega]:(us.take k).length=k) F hv i b (C.sav A) h.ht h3 l z (by omega);have n:=λW t b o=>a.step (W:=W) (by omega) h.dv (by omega) t b o;refine⟨val ((us.drop k).take<|vs.length+1) / val vs,⟨mt w0<|by omega,?_⟩,r.mono ?_⟩
 .have:=lU (by omega:0<val vs) (by rwa [kI] at h3);omega
 rintro e w' ⟨f,rfl,K,y,E,x,B⟩;exact⟨rfl,_,x,n f (by omega) y E,B⟩
theorem RX (h:DivG xs ys vs u0 s m Lq) (a:Dvb u0 vs 0 us q):val q=val xs / val ys/\val us=val xs % val ys*2^s:=by
 have ht:=a.top;have b:=a.eq;rw[qI] at ht;have h0:=ep a.dig;have h2:=i7 s;have hv:=h.vpos;have e1:val q=val u0 / val vs:=by rw[<-b,pK _ _<|by omega,mY h0 ht,qY]
 have e2:val us=val u0 % val vs:=by rw[<-b,nl,pm h0 ht]
 rw[h.vv,h.vz] at e1 e2;rw[rZ _ _ h2] at e1;rw[kI<|val xs,kI<|val ys,sR _ _ h2,kI] at e2;exact⟨e1,e2⟩
theorem Blk.sl32 (h:BlkP w g q) (dq:cB q) (a:q.length<=549755813888):Sl w (.slice (some ⟨g,0,none⟩) q.length q.length) q:=
 ⟨dq,a,_,_,rfl,kF _,.inr ⟨g,0,rfl,h.lt,λi hi=>by simpa using h.cell hi⟩⟩
theorem yl (a:Sl w v xs) (b:Sl w u ys) (l:bD xs) (n:bD ys) (f:val xs<val ys):
  cN 219 #[v,u] w λe w'=>∃h i,e=.returned (.tuple #[h,i])/\Sl w' h []/\Sl w' i xs/\Below w.1.size w w':=by
 have j:=JM a b l n;obtain⟨q,cap,rfl⟩:=a.form;obtain⟨q2,t,rfl⟩:=b.form;have r:=bC a;have k:Hid (val xs<val ys):=f;clear a b f;go_enter func219,ntmps219
 go_wp2_with (go_at_call 141;refine j.mono ?_;rintro e z ⟨c,rfl,o,x,d⟩
              have y:c<0:=o.2 k.out)
 go_ret2;exact⟨_,_,rfl,Sl.nil _,r.out.below d,d⟩
theorem RY (a:Sl w v xs) (j:Sl w u ys) (E:bD xs) (n:bD ys) (f:val ys<=val xs) (h1:ys.length=1) (Z:xs.length<=274877906944):
  cN 219 #[v,u] w λe w'=>∃B C k rs,e=.returned (.tuple #[B,C])/\Sl w' B k/\bD k/\val k=val xs / val ys/\Sl w' C rs/\bD rs/\val rs=val xs % val ys/\Below w.1.size w w':=by
 have l:=JM a j E n;obtain⟨Y,rfl⟩:=sW.1 h1;have F:val [Y]=Y:=by simp[val]
 rw[F] at f l ⊢;have L:=j.1 0;have H:=n 0 rfl;simp only[nz] at L H;have A:xs≠[]:=by rintro rfl;simp[val] at f;omega
 obtain⟨q,cap,rfl⟩:=a.form;obtain⟨_,_,q2,aa,rfl,bL,V⟩:=j
 rcases V with h | ⟨b,o,rfl,I,y⟩
 .cases h
 have c0:w.cell? ⟨b,o,none⟩=some (.int .u32 Y):=by simpa using y 0 (by simp)
 have U:=bC a;have D:Hid (Y<=val xs):=f;have W:Hid (xs≠[]):=A;have x0:=ep a.1;have i:=nt (val xs) (by omega:Y≠0);have M:=mg (val xs) (by omega:0<Y);obtain⟨X,t⟩:∃X,Hid (val xs=X):=⟨_,rfl⟩;rw[t.out] at i M ⊢;clear a f A y x0;go_enter func219,ntmps219
 go_wp2_with (first
  | (go_at_call 141;refine l.mono ?_;rintro e w1 ⟨c,rfl,K,ab,d⟩
     have ac:¬c<0:=λh=>(by have:=K.1 h;have:=D.out;omega);have c1:w1.cell? ⟨b,o,none⟩=some (.int .u32 Y):=fg d I c0;have z:=RR (U.out.below d) W.out Z Y (by omega)<|by omega
     rw[t.out] at z)
  | (go_at_call 285;refine z.mono ?_;rintro e w2 ⟨r,zs,rfl,N,P,S,J⟩
     have T:=JL w2 (X % Y) i<|by omega)
  | (go_at_call 187;refine T.mono ?_;rintro e w3 ⟨r3,rfl,O,x⟩))
 go_ret2;obtain⟨s1,s2,s3,s4⟩:=JK i (by omega:X % Y<=18446744073709551615);exact⟨r,r3,zs,dO<|X % Y,rfl,N.below x,P,S,O,s2,s3,d.trans<|(cV J x).mono d.size⟩
theorem RZ (D:Sl w v xs) (r:Sl w u ys) (cx:bD xs) (A:bD ys) (ad:val ys<=val xs) {m:Nat} (h1:ys.length=m+2) (lx:xs.length<=274877906000):
  cN 219 #[v,u] w λe w'=>∃E r2 f rs,e=.returned (.tuple #[E,r2])/\Sl w' E f/\bD f/\val f=val xs / val ys/\Sl w' r2 rs/\bD rs/\val rs=val xs % val ys/\Below w.1.size w w':=by
 obtain⟨i0,hi,af,M,ag⟩:=mE (show(prog.info? 120).map (λi=>(i.zero,i.size,i.bytes))=some (some<|.int .u32 0,1,4) by kernel_rfl);have S:=JM D r cx A;have aA:=FK r.1 D.1 A ad;have a4:=A (m+1) h1;have J:=r.1<|m+1;obtain⟨Lq,aj⟩:∃Lq,xs.length+1=Lq+(m+2):=⟨xs.length+1 - (m+2),by omega⟩;have aF:1<=Lq:=by omega
 obtain⟨q,cap,rfl⟩:=D.form;obtain⟨_,_,q2,ax,rfl,bL,a'⟩:=id r
 rcases a' with h | ⟨b,o,rfl,hb,hc⟩
 .simp[h] at h1
 have c0:=hc (m+1) (by omega);have a3:Hid (ys.getD (m+1) 0=ys.getD (m+1) 0):=rfl;obtain⟨Y,hY⟩:∃Y,Hid (ys.getD (m+1) 0=Y):=⟨_,rfl⟩;rw[hY.out] at c0 a4 J;obtain⟨s,es,hs,av⟩:=RU (Y:=Y) (by omega) J.2;have U:=λz=>RF Y z J.1 J.2;rw[es] at U;have ar:=bC D;have au:Hid (Sl w (.slice (some ⟨b,o,none⟩) (m+2) ax) ys):=by rw[h1] at r;exact r
 have cf:Hid (val ys<=val xs):=ad;have a0:Hid (bD ys):=A;have hh:Hid (ys.length=m+2/\xs.length+1=Lq+(m+2)/\Y*2^s<4294967296):=⟨h1,aj,av⟩;rw[h1] at S bL ⊢;have e5:(xs.length:Int) - ((m:Int)+2)+1=(Lq:Int):=by omega
 have aO:m+2<=xs.length:=by omega
 clear D r ad hc A h1 av es a3 aA aj;go_enter func219,ntmps219
 go_wp2_with (first
  | (go_at_call 141;refine S.mono ?_;rintro e w1 ⟨c,rfl,a6,aH,K⟩
     have aI:¬c<0:=λh=>(by have:=a6.1 h;have:=cf.out;omega);have c1:w1.cell? ⟨b,o+(m+1),none⟩=some (.int .u32 Y):=fg K hb c0
     have hV:=MZ (au.out.below K) (by have:=hh.out.1;omega) s hs)
  | (go_at_call 286;refine(U _).mono ?_;rintro e P ⟨rfl,rfl⟩)
  | (go_at_call 287;with_reducible refine hV.mono ?_;rintro e a ⟨rv,vs,rfl,sv,cv,vv,lv,am⟩
     have F:Below w.1.size w a:=cV K am
     obtain⟨qv,az,rfl⟩:=sv.form)
  | (at_make;refine nM _ rfl _ _ 28 rfl a.1.size 120 i0 (.int .u32 0) 1 underlying28 hi af M _ _ _ _ (xs.length+1) rfl rfl (by omega) (by omega) (by rw[ag];omega) (by unfold maxLen;omega) (kF _) ?_;intro P y x
     have ab:Below a.1.size a P:=(kE _ _).grown x (kF _) (λ_ h=>by cases h);have V:Blk P a.1.size (List.replicate (xs.length+1) 0):=zz (by simpa [Value.cells] using y);have iG:Below w.1.size w P:=cV F ab;have hU:=MZ (ar.out.below iG) (by omega) s hs
     clear y x)
  | (go_at_call 287;with_reducible refine hU.mono ?_;rintro e wu ⟨ru,zs,rfl,O,cu,vu,N,ac⟩
     have ai:wu.1[a.1.size]?=some (.cells ((List.replicate (xs.length+1) (0:Int)).map<|Value.int .u32).toArray 120 (0,0)):=(ac.block _<|by have:=V.p.lt;exact this).trans V;have iH:Below a.1.size a wu:=cV ab ac
     obtain⟨qu,ay,rfl⟩:=O.form)
  | (refine wpList_copy_splice rfl (.tmp 47) (.tmp 50) 28 145 rfl 120 underlying28 (by rw[hi];exact mn some M) (some ⟨a.1.size,0,none⟩) qu (xs.length+1) (xs.length+1) zs.length ay rfl rfl a.1.size 0 ((List.replicate (xs.length+1) (0:Int)).map<|Value.int .u32) 120 ai (zs.map<|Value.int .u32) (by rw[mM];exact(lR N).symm) (λhp=>⟨rfl,O.news<|by simpa using hp⟩) (by simp;omega) (mG .u32 zs) a.1.size a iH (kF _) ?_;intro j Z aa)
  | (at_make;refine nM _ rfl _ _ 28 rfl j.1.size 120 i0 (.int .u32 0) 1 underlying28 hi af M _ _ _ _ Lq rfl rfl (by omega) (by omega) (by rw[ag];omega) (by unfold maxLen;omega) (kF _) ?_;intro t y x))
 have l:Hid (DivG xs ys vs (zs++List.replicate (xs.length+1 - zs.length) 0) s m Lq):=RV ar.out.1 au.out.1 a0.out hh.out.1 (by rw[hY.out];exact hh.out.2.2) hs hh.out.2.1 sv.1 cv vv O.1 vu N;have ae:=l.out.vl;have fO:Below w.1.size w j:=cV F aa;have aM:a.1.size<j.1.size:=by have:=Z.out;exact(kG.1 this).1
 have ak:BlkP j a.1.size (zs++List.replicate (xs.length+1 - zs.length) 0):=by refine Blk.p ?_;have:=Z.out;rw[RT zs _ N] at this;exact this
 have T:Below j.1.size j t:=(kE _ _).grown x (kF _) (λ_ h=>by cases h);have B:BlkP t a.1.size (zs++List.replicate (xs.length+1 - zs.length) 0):=ak.below T;have I:Blk t j.1.size (List.replicate Lq 0):=zz (by simpa [Value.cells] using y);have C:Sav a.1.size j t:=Sav.of T
 have aD:Hid (SlN a.1.size j (.slice qv (m+2) az) vs):=by
  have:=sv.ne aa<|kF _
  rwa [ae] at this
 have X:Hid (w.1.size<=a.1.size/\Below w.1.size w j):=⟨F.size,fO⟩;rw[ae];clear y x am ac O sv vv vu cv cu hV hU lv N ak T Z aa iH ab iG V ai fO ae hi af M ag F c0 c1 U S K;obtain⟨u0,a9⟩:∃u0,Hid (zs++List.replicate (xs.length+1 - zs.length) 0=u0):=⟨zs++List.replicate (xs.length+1 - zs.length) 0,by exact rfl⟩;rw[a9.out] at l B;have j7:Hid (u0.length=xs.length+1):=by have:=l.out.ul;have:=hh.out.2.1;show u0.length=xs.length+1;omega
 have ap:Hid (Dvb u0 vs Lq u0<|List.replicate Lq 0):=Dvb.zero (by have:=l.out.vl;have:=l.out.ul;omega) l.out.du l.out.top;generalize a.1.size=gu at*
 go_loopw [12] (λah wz=>∃(k:Nat) (us f:List Int),k<=Lq/\ah=.int .i64 ((k:Int) - 1)/\Hid (Dvb u0 vs k us f)/\BlkP wz gu us/\Blk wz j.1.size f/\Sav gu j wz) (λah _=>(intOf ah+1).toNat)
 case atStart=>exact⟨Lq,_,_,kF _,by go_num,ap,B,I,C⟩
 case round=>
  clear I B C ap;obtain⟨k,us,f,hk,rfl,n,hP,H,hS⟩:=hrel
  match k,hk,n with
  | 0,hk,n=>
   obtain⟨dq,du⟩:=RX l.out n.out;have L:f.length=Lq:=(by have h1:=n.out.qlen;have h2:=l.out.vl;have h3:=l.out.ul;omega);have aq:us.length=xs.length+1:=(by have h1:=n.out.len;have h3:=j7.out;omega);obtain⟨E,an,aw⟩:=FM (Blk.sl32 H.p n.out.qdig<|by omega);obtain⟨r2,ao,aC⟩:=FM (Blk.sl32 hP n.out.dig<|by omega);rw[L] at an;rw[aq] at ao;have a8:(bE us).length<=274877906944:=(by rw[ed];have:=fp us us.length;omega);have a7:=JS aC a8 s (by omega);have a5:Below w.1.size w wr:=X.out.2.trans<|hS.below X.out.1 X.out.2.size;have a1:Hid (val f=val xs / val ys):=dq;have a2:=bC du;have aB:Hid (Sl wr E<|bE f):=aw;clear dq du aw L aq
   go_wp2_with (first
    | (go_at_call 165;with_reducible refine an.mono ?_;rintro e w5 ⟨rfl,rfl⟩)
    | (go_at_call 165;with_reducible refine ao.mono ?_;rintro e w6 ⟨rfl,rfl⟩)
    | (go_at_call 215;with_reducible refine a7.mono ?_;rintro e w7 ⟨r3,rs,rfl,h5,h6,h7,_,h8⟩))
   go_ret2;refine⟨E,r3,bE f,rs,rfl,aB.out.below h8,jH _,by rw[ji];exact a1.out,h5,h6,?_,cV a5 h8⟩;rw[h7,ji,a2.out,Int.mul_ediv_cancel _<|by have:=i7 s;omega]
  | k+1,hk,n=>
   have e1:((k+1:Nat):Int) - 1=(k:Int):=(by omega);rw[e1];clear e1;have e2:k+(m+2)+1 - k=m+3:=(by omega);obtain⟨d,fP,dj⟩:=RW (cap:=xs.length+1 - k) l.out (by omega) n.out aD.out hP hS (by omega) (by omega) (by omega);obtain⟨aJ,aK⟩:=fP;have aN:(k:Int)+((m:Int)+2)+1<=(xs.length:Int)+1:=by omega
   go_wp2_with (go_at_call 288;with_reducible refine dj.mono ?_;rintro e t ⟨rfl,aE,B,fQ,C⟩
                have I:=H.p;have W:Blk t j.1.size f:=(by unfold Blk at H ⊢;rw[C.block _ (by have:=I.lt;exact this)<|by omega];exact H);have L:f.length=Lq:=(by have h1:=n.out.qlen;have h2:=l.out.vl;have h3:=l.out.ul;omega);have c2:t.cell? ⟨j.1.size,k,none⟩=some (.int .u32<|f.getD k 0):=W.cell (by omega);have aL:=W.frozen k;generalize f.getD k 0=OK at c2
                clear L)
   go_roundw
   case rel=>exact⟨k,aE,f.set k d,by omega,by go_num,fQ,B.setOther (by simp;omega) _,W.set _ _,(hS.trans C).setFresh (by simp) _⟩
   case measure=>simp[intOf]
theorem JT (b:Sl w v xs) (j:Sl w u ys) (a:bD xs) (h:bD ys) (t:ys≠[]) (r:xs.length<=274877906000):
  cN 219 #[v,u] w λe w'=>∃d f k rs,e=.returned (.tuple #[d,f])/\Sl w' d k/\bD k/\val k=val xs / val ys/\Sl w' f rs/\bD rs/\val rs=val xs % val ys/\Below w.1.size w w':=by
 have l:=ep b.1;by_cases i:val xs<val ys
 .refine(yl b j a h i).mono ?_;rintro e w' ⟨d,f,rfl,h1,h2,n⟩;exact⟨d,f,[],xs,rfl,h1,zH,by rw[mY l i];rfl,h2,a,by rw[pm l i],n⟩
 have x:=lG.2 t;by_cases h1:ys.length=1
 .exact RY b j a h (by omega) h1 (by omega)
 obtain⟨m,o⟩:∃m,ys.length=m+2:=⟨ys.length - 2,by omega⟩;exact RZ b j a h (by omega) o r
def valAtb (w:World) (v:Value):Nat:=
 match v with
 | .slice (some a) n _=>(val ((List.range n).map λi=>match w.cell? ⟨a.block,a.off+i,none⟩ with | some (.int _ x)=>x | _=>0)).toNat
 | _=>0
theorem Sl.valAtb (h:Sl w v xs):valAtb w v=(val xs).toNat:=by
 obtain⟨_,_,q,cap,rfl,_,d⟩:=h
 rcases d with rfl | ⟨b,o,rfl,_,a⟩
 .cases q<;>simp[Go.Proofs.YthcfmhgihcjloaaGreatDoor.valAtb,val]
 unfold Go.Proofs.YthcfmhgihcjloaaGreatDoor.valAtb;simp only[];congr 2;apply rp;intro i;by_cases hi:i<xs.length
 .rw[mI,rW hi];simp only[qW];rw[a i hi];simp[hi]
 simp[hi]
theorem ym (y:Sl w v xs) (A:Sl w u ys) (j:bD xs) (l:bD ys) (D:xs.length<=274877906000) (E:ys.length<=274877906000):
  cN 217 #[v,u] w λe w'=>∃r d,e=.returned r/\Sl w' r d/\bD d/\val d=cJ (val xs) (val ys)/\d.length<=274877906000/\Below w.1.size w w':=by
 have z:Hid (Sl w v xs):=y;have B:Hid (Sl w u ys):=A;obtain⟨G,o⟩:∃G,Hid (cJ (val xs) (val ys)=G):=⟨_,rfl⟩;rw[o.out];have k:Hid (bD xs):=j;have n:Hid (bD ys):=l;clear y A j l;go_enter func217,ntmps217;go_wp2
 go_loopw [0,1,5,6] (λF i I J wr=>∃(sa b:List Int),Hid (Sl wr F sa/\Sl wr i b/\bD sa/\bD b/\cJ (val sa) (val b)=G)/\sa.length<=274877906000/\b.length<=274877906000/\Below w.1.size w wr) (λF i I J wr=>valAtb wr i)
 case atStart=>exact⟨xs,ys,⟨z.out,B.out,k.out,n.out,o.out⟩,D,E,kE _ _⟩
 case round=>
  clear z B k n D E;obtain⟨sa,b,a,C,lb,x⟩:=hrel;obtain⟨q2,L,rfl⟩:=a.out.2.1.form;obtain⟨q1,K,rfl⟩:=a.out.1.form;by_cases f:b=[]
  .subst f;go_wp2;go_ret;have h:=a.out;have a0:=ep h.1.1;refine⟨_,sa,rfl,h.1,h.2.2.1,?_,C,x⟩;rw[<-h.2.2.2.2];exact(MI a0).symm
  have M:0<b.length:=lG.2 f;have H:=JT a.out.1 a.out.2.1 a.out.2.2.1 a.out.2.2.2.1 f C;go_wp2_with (go_at_call 219;with_reducible refine H.mono ?_;rintro e V ⟨T,U,S,rs,rfl,h1,h2,h3,h4,h5,h6,t⟩);have a0:=ep a.out.1.1;have b0:=Af a.out.2.1.1 a.out.2.2.2.1 f;have O:=mg (val sa) b0;have N:=nt (val sa) (by omega:val b≠0);have P:=FK h4.1 a.out.2.1.1 h5 (by omega);go_roundw
  case rel=>refine⟨b,rs,⟨a.out.2.1.below t,h4,a.out.2.2.2.1,h5,?_⟩,lb,by omega,cV x t⟩;rw[h6,MH a0 b0];exact a.out.2.2.2.2
  case measure=>rw[h4.valAtb,a.out.2.1.valAtb,h6];omega
def FAt (w:World) (v:Value) (g:Bool) (n d:Int):Prop:=
 ∃a b ns ds,v=.agg #[.bool g,a,b]/\Sl w a ns/\bD ns/\val ns=n/\Sl w b ds/\bD ds/\val ds=d/\ns.length<=274877906000/\ds.length<=274877906000
theorem FAt.below {w':World} {g:Bool} {n d:Int} (h:FAt w v g n d) (e:Below w.1.size w w'):FAt w' v g n d:=by obtain⟨a,b,j,f,h1,h2,h3,h4,h5,h6,h7,i⟩:=h;exact⟨a,b,j,f,h1,h2.below e,h3,h4,h5.below e,h6,h7,i⟩
