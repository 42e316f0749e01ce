import Derived.Shelf.Small.Bits
import Derived.Laws.Bits64b
import Derived.Shelf.Spec.TrailingZeros
import Derived.Test.YthcfmhgihcjloaaGreatDoorPk13
namespace Go.Proofs.YthcfmhgihcjloaaGreatDoor
open Go Go.RowKit Go.Shelf Tryz
set_option maxRecDepth 100000
set_option maxHeartbeats 16000000
variable {w:World} {v:Value} {xs:List Int} {x:Int} {s b o cap:Nat}
theorem MS:∀(x:Nat),x≠0->x<2^64->2^(Lib.bitLen x - 1)<=x/\x<2^Lib.bitLen x/\1<=Lib.bitLen x:=by
 intro x
 induction x using Nat.strongRecOn with
 | ind x ih=>
  intro h0 h;rw[Lib.bitLen_half x h0 h];by_cases h1:x=1
  .subst h1;decide
  obtain⟨a,b,c⟩:=ih (x / 2) (by omega) (by omega) (by omega);obtain⟨d,e⟩:∃d,Lib.bitLen (x / 2)=d+1:=⟨Lib.bitLen (x / 2) - 1,by omega⟩;rw[e] at a b ⊢;rw[pT] at a;rw[show 1+(d+1) - 1=d+1 by omega,show 1+(d+1)=d+1+1 by omega];simp only[Nat.pow_succ] at b ⊢;omega
def pq:Go.Shelf.Ren:=⟨λ| 128=>229 | n=>n,λ| 51=>120 | 3=>3 | 4=>4 | 46=>154 | 5=>5 | 9=>9 | n=>n,λ| n=>n⟩
theorem Ax:Go.Proofs.Lays.n128 prog pq:={
 mixed:=by kernel_rfl
 f128:=func229.trans<|mn some<|by kernel_rfl
 t3:=underlying3
 a3:=isAgg3
 z3:=sizeOf3
 v3:=zeroValue3
 t4:=underlying4
 a4:=isAgg4
 z4:=sizeOf4
 v4:=zeroValue4
 t5:=underlying5
 a5:=isAgg5
 z5:=sizeOf5
 v5:=zeroValue5
 t9:=underlying9
 a9:=isAgg9
 z9:=sizeOf9
 v9:=zeroValue9
 t46:=underlying154
 a46:=isAgg154
 z46:=sizeOf154
 v46:=zeroValue154
 t51:=underlying120
 a51:=isAgg120
 z51:=sizeOf120
 v51:=zeroValue120 }
def pu:Go.Shelf.Ren:=⟨λ| 133=>286 | 128=>229 | n=>n,λ| 51=>120 | 3=>3 | 4=>4 | 46=>154 | 5=>5 | 9=>9 | n=>n,λ| n=>n⟩
theorem Ay:Go.Proofs.Lays.n133 prog pu:={
 mixed:=by kernel_rfl
 f128:=func229.trans<|mn some<|by kernel_rfl
 f133:=func286.trans<|mn some<|by kernel_rfl
 t3:=underlying3
 a3:=isAgg3
 z3:=sizeOf3
 v3:=zeroValue3
 t4:=underlying4
 a4:=isAgg4
 z4:=sizeOf4
 v4:=zeroValue4
 t5:=underlying5
 a5:=isAgg5
 z5:=sizeOf5
 v5:=zeroValue5
 t9:=underlying9
 a9:=isAgg9
 z9:=sizeOf9
 v9:=zeroValue9
 t46:=underlying154
 a46:=isAgg154
 z46:=sizeOf154
 v46:=zeroValue154
 t51:=underlying120
 a51:=isAgg120
 z51:=sizeOf120
 v51:=zeroValue120 }
theorem yf (x:Int) (w:World) (h0:0<=x) (h1:x<=4294967295):
 cN 229 #[.int .u32 x] w λe w'=>e=.returned (.int .i64<|Lib.bitLen x.toNat)/\w'=w:=Any.bits_Len32 Ax x w h0 h1
theorem MT (x:Int) (h0:0<=x) (h1:x<=4294967295):Lib.bitLen x.toNat<=32:=Lib.bitLen_le x.toNat 32 (by omega)<|by omega
theorem RF (x:Int) (w:World) (h0:0<=x) (h1:x<=4294967295):
 cN 286 #[.int .u32 x] w λe w'=>e=.returned (.int .i64<|32 - (Lib.bitLen x.toNat:Int))/\w'=w:=Any.bits_LeadingZeros32 Ay x w h0 h1
structure Tb (w:World):Prop where
 lt:0<w.1.size
 at_:∀j,j<32->w.cell? ⟨0,j,none⟩=some (.int .u8<|Lib.deBruijn32tab.getD j 0)
theorem Tb.below {w':World} (h:Tb w) (a:Below w.1.size w w'):Tb w':=
 ⟨kw h.lt a.size,λj d=>fg a h.lt<|h.at_ j d⟩
theorem RG (x k wq:Nat) (w:World) (f:((x:Int)==0)=false)
  (key:bits BinOp.and IntKind.u32 (x:Int) (-(x:Int) % 4294967296)*125613361 % 4294967296 / 134217728=(wq:Int))
  (hi:wq<32) (d:k<32) (a:w.cell? ⟨0,wq,none⟩=some (.int .u8 k)):
  cN 284 #[.int .u32 x] w λe w'=>e=.returned (.int .i64 k)/\w'=w:=by
 go_enter func284,ntmps284;go_wp2_with (simp only[key]);go_ret;exact⟨rfl,rfl⟩
theorem Az (x:Int) (w:World) (h0:0<x) (h1:x<=4294967295) (h:Tb w):
  cN 284 #[.int .u32 x] w λe w'=>∃t:Nat,e=.returned (.int .i64 t)/\TwosIs x t/\t<=31/\w'=w:=by
 obtain⟨n,rfl⟩:=lZ (by omega:0<=x);have a:n≠0:=by omega
 obtain⟨g,f⟩:=Lib.lowest_bit 32 n a (by omega);obtain⟨hi,k⟩:=Lib.deBruijn32_at _ f;have d:=h.at_ _ hi;rw[k] at d;obtain⟨m,j,_⟩:=Lib.ctzFrom_spec 32 n (by omega) (by omega);refine(RG n _ _ w (by simp;omega) (tz32_key n _ (by omega) a g) hi f d).mono ?_;rintro e w' ⟨rfl,rfl⟩;refine⟨_,rfl,⟨m,?_⟩,by omega,rfl⟩;have i:Lib.ctz 32 n=Lib.ctzFrom 32 n:=by simp[Lib.ctz,a]
 rw[i]
 conv=>lhs;rw[j]
 simp
end Go.Proofs.YthcfmhgihcjloaaGreatDoor
namespace Go.Proofs.YthcfmhgihcjloaaGreatDoor
open Go Go.RowKit Tryz
set_option maxRecDepth 100000
variable {w:World} {v:Value} {xs:List Int} {x:Int} {s b o cap:Nat}
def lenOf (v:Value):Nat:=match v with | .slice _ n _=>n | _=>0
theorem RH (b o len cap:Nat) (xs:List Int) (w:World) (h:∀i,i<len->w.cell? ⟨b,o+i,none⟩=some (.int .u32<|xs.getD i 0)) (m:len<=cap) (n:len<=1099511627776):
  cN 165 #[.slice (some ⟨b,o,none⟩) len cap] w λe w'=>e=.returned (.slice (some ⟨b,o,none⟩) (bK xs len) cap)/\w'=w:=by
 go_enter func165,ntmps165;go_wp2
 go_loop [0] (λl=>∃k:Nat,k<=len/\l=.slice (some ⟨b,o,none⟩) k cap/\bK xs k=bK xs len) (λl=>lenOf l)
 case atStart=>exact⟨len,kF _,rfl,rfl⟩
 case round=>
  obtain⟨k,f,rfl,ht⟩:=hrel;have a:Hid (bK xs k=bK xs len):=ht;clear ht
  match k,f,a with
  | 0,f,a=>go_wp2;go_ret;have h0:bK xs len=0:=a.out.symm;refine⟨?_,rfl⟩;simp[h0]
  | k+1,f,a=>
   have j:w.cell? ⟨b,o+k,none⟩=some (.int .u32<|xs.getD k 0):=h k (by omega);generalize g:xs.getD k 0=X at j;go_wp2
   .go_round
    case rel=>have d:(X==0)=true:=(by assumption);have h0:X=0:=(by simpa using d);refine⟨k,by omega,by go_num,?_⟩;rw[<-a.out];simp only[bK,g,h0,if_true]
    case measure=>simp[lenOf]
   go_ret;have d:(X==0)=false:=(by assumption);have h0:¬X=0:=(by simpa using d);refine⟨?_,rfl⟩;rw[<-a.out];simp only[bK,g,kZ h0];rfl
theorem RI (q:Option Addr) (cap:Nat) (w:World):cN 165 #[.slice q 0 cap] w λe w'=>e=.returned (.slice q 0 cap)/\w'=w:=by go_enter func165,ntmps165;go_wp2;refine my ?_;go_wp2;go_ret;exact⟨rfl,rfl⟩
theorem Et (h:Sl w v xs):∃u,Sl w u (bE xs)/\∀a,Below w.1.size w a->cN 165 #[v] a λe w'=>e=.returned u/\w'=a:=by
 obtain⟨h1,h2,q,cap,rfl,h4,h5⟩:=h;have j:=fp xs xs.length
 rcases h5 with rfl | ⟨b,o,rfl,f,d⟩
 .exact⟨.slice q 0 cap,⟨h1,by simp[bE],q,cap,rfl,by simp[bE],.inl rfl⟩,λa _=>RI q cap a⟩
 refine⟨.slice (some ⟨b,o,none⟩) (bK xs xs.length) cap,⟨C0 h1,by rw[ed];omega,_,cap,by rw[ed],by rw[ed];omega,.inr ⟨b,o,rfl,f,λi hi=>?_⟩⟩,
  λa g=>RH b o xs.length cap xs a (λi hi=>fg g f<|d i hi) h4<|by omega⟩
 rw[zD xs i hi];exact d i<|by rw[ed] at hi;omega
theorem Sl.form (h:Sl w v xs):∃q cap,v=.slice q xs.length cap:=by obtain⟨_,_,q,cap,rfl,_⟩:=h;exact⟨q,cap,rfl⟩
theorem Sl.nil (w:World):Sl w (.slice none 0 0) []:=⟨λj=>by simp[List.getD],by simp,none,0,rfl,kF _,.inl rfl⟩
theorem zH:bD []:=λm a=>by simp at a
theorem Eu (q:Option Addr) (n cap:Nat) (w:World):cN 166 #[.slice q n cap] w λe w'=>e=.returned (.bool<|decide (n=0))/\w'=w:=by
 go_enter func166,ntmps166;go_wp2;go_ret;refine⟨?_,rfl⟩;congr 2;by_cases h:n=0
 .subst h;rfl
 simp[h]
def dO (x:Int):List Int:=bE [x % 4294967296,x / 4294967296]
theorem JK (h0:0<=x) (h1:x<=18446744073709551615):cB (dO x)/\bD (dO x)/\val (dO x)=x/\(dO x).length<=2:=by
 have a:cB [x % 4294967296,x / 4294967296]:=λj=>by
  match j with
  | 0=>simp;omega
  | 1=>simp;omega
  | j+2=>simp
 refine⟨C0 a,jH _,?_,?_⟩
 .unfold dO;rw[ji];simp[val];omega
 unfold dO;rw[ed];exact fp _ _
theorem JL (w:World) (x:Int) (h0:0<=x) (h1:x<=18446744073709551615):
  cN 187 #[.int .u64 x] w λe w'=>∃r,e=.returned r/\Sl w' r (dO x)/\Below w.1.size w w':=by
 have f:cB [x % 4294967296,x / 4294967296]:=λj=>by
  match j with
  | 0=>simp;omega
  | 1=>simp;omega
  | j+2=>simp
 have g:Sl (w.alloc<|.cells #[.int .u32<|x % 4294967296,.int .u32<|x / 4294967296] 120) (.slice (some ⟨w.1.size,0,none⟩) 2 2) [x % 4294967296,x / 4294967296]:=by
  refine⟨f,by simp,_,2,rfl,by simp,.inr ⟨w.1.size,0,rfl,by show w.1.size<(w.1.push _).size;simp,λi hi=>?_⟩⟩
  match i,hi with
  | 0,_=>show World.cell? _ _=_;simp
  | 1,_=>show World.cell? _ _=_;simp
 obtain⟨u,hu,a⟩:=Et g;have d:=a _<|kE _ _;go_enter func187,ntmps187;go_wp2_with (go_at_call 165;refine d.mono ?_;rintro e h ⟨rfl,rfl⟩);go_ret;exact⟨u,rfl,hu,cU w _⟩
set_option maxHeartbeats 16000000
theorem MU (q q':Option Addr) (cap cap':Nat) (w:World):cN 141 #[.slice q 0 cap,.slice q' 0 cap'] w λe w'=>e=.returned (.int .i64 0)/\w'=w:=by go_enter func141,ntmps141;go_wp2;refine my ?_;go_wp2;go_ret;exact⟨rfl,rfl⟩
theorem RJ (b o cap d l F:Nat) (xs ys:List Int) (w:World) (g:xs.length=ys.length) (r:cB xs) (u:cB ys) (N:xs.length<=1099511627776)
  (I:∀i,i<xs.length->w.cell? ⟨b,o+i,none⟩=some (.int .u32<|xs.getD i 0)) (J:∀i,i<ys.length->w.cell? ⟨d,l+i,none⟩=some (.int .u32<|ys.getD i 0)) (G:b<w.1.size) (H:d<w.1.size):
  cN 141 #[.slice (some ⟨b,o,none⟩) xs.length cap,.slice (some ⟨d,l,none⟩) xs.length F] w λe w'=>∃c:Int,e=.returned (.int .i64 c)/\(c<0↔val xs<val ys)/\(c=0↔xs=ys)/\Below w.1.size w w':=by
 have t:Hid (cB xs):=r;have y:Hid (cB ys):=u;clear r u;go_enter func141,ntmps141;go_wp2
 go_loopw [5] (λi wr=>∃k:Nat,k<=xs.length/\i=.int .i64 ((k:Int) - 1)/\(∀j,k<=j->j<xs.length->xs.getD j 0=ys.getD j 0)/\Below w.1.size w wr) (λi _=>(intOf i+1).toNat)
 case atStart=>exact⟨xs.length,kF _,by simp[g],λj h1 h2=>by omega,kE _ _⟩
 case round=>
  obtain⟨k,n,rfl,C,f⟩:=hrel;have a:=bC C;clear C
  match k,n,a with
  | 0,n,a=>go_wp2;go_ret;have e:=Fe g λj K=>a.out j (kL _) K;exact⟨0,rfl,by simp[e],by simp[e],f⟩
  | k+1,n,a=>
   have e1:((k+1:Nat):Int) - 1=(k:Int):=(by omega);rw[e1];have c1:wr.cell? ⟨b,o+k,none⟩=some (.int .u32<|xs.getD k 0):=fg f G (I k<|by omega);have c2:wr.cell? ⟨d,l+k,none⟩=some (.int .u32<|ys.getD k 0):=fg f H (J k<|by omega);generalize A:xs.getD k 0=X at c1;generalize B:ys.getD k 0=Y at c2;have M:(k:Int)<(xs.length:Int):=(by omega);go_wp2
   go_quiet (fail)
   have m:Below w.1.size w (wr.drewN nq):=ee f _;have D:(wr.drewN nq).cell? ⟨b,o+k,none⟩=some (.int .u32 X):=c1;have E:(wr.drewN nq).cell? ⟨d,l+k,none⟩=some (.int .u32 Y):=c2;generalize wr.drewN nq=L at m D E ⊢;clear c1 c2;go_wp2
   .go_ret;have q:X<Y:=(by assumption);have e:=Ae (xs:=xs) (ys:=ys) (j:=k) (by omega);exact⟨-1,rfl,⟨λ_=>G7 g t.out y.out (by omega) (by rw[A,B];exact q) a.out,λ_=>by decide⟩,by simp[e],m⟩
   go_quiet (fail)
   have z:Below w.1.size w (L.drewN nq):=ee m _;go_wp2
   .go_ret;have q:X > Y:=(by assumption);have e:=Ae (xs:=xs) (ys:=ys) (j:=k) (by omega);have hv:=G7 g.symm y.out t.out (k:=k) (by omega) (by rw[A,B];exact q) λj h1 h2=>(a.out j h1<|by omega).symm;exact⟨1,rfl,⟨λh=>absurd h<|by decide,λh=>by omega⟩,by simp[e],z⟩
   go_roundw
   case rel=>
    refine⟨k,by omega,by go_num,λj h1 h2=>?_,z⟩
    rcases kS k j with h | h
    .exact a.out j h h2
    have:j=k:=(by omega);subst this;omega
   case measure=>simp[intOf]
theorem MV (q q':Option Addr) (m n cap cap':Nat) (w:World) (h:m<n):cN 141 #[.slice q m cap,.slice q' n cap'] w λe w'=>e=.returned (.int .i64<|-1)/\w'=w:=by
 have a:¬(m:Int)=(n:Int):=by omega
 have h2:(m:Int)<(n:Int):=by omega
 clear h;go_enter func141,ntmps141;go_wp2;go_ret;exact⟨rfl,rfl⟩
theorem MW (q q':Option Addr) (m n cap cap':Nat) (w:World) (h:n<m):cN 141 #[.slice q m cap,.slice q' n cap'] w λe w'=>e=.returned (.int .i64 1)/\w'=w:=by
 have a:¬(m:Int)=(n:Int):=by omega
 have h2:¬(m:Int)<(n:Int):=by omega
 clear h;go_enter func141,ntmps141;go_wp2;go_ret;exact⟨rfl,rfl⟩
theorem JM {u:Value} {ys:List Int} (t:Sl w v xs) (y:Sl w u ys) (k:bD xs) (l:bD ys):
  cN 141 #[v,u] w λe w'=>∃c:Int,e=.returned (.int .i64 c)/\(c<0↔val xs<val ys)/\(c=0↔xs=ys)/\Below w.1.size w w':=by
 obtain⟨f,B,q,cap,rfl,C,z⟩:=t;obtain⟨g,D,q',cap',rfl,E,A⟩:=y
 rcases qE xs.length ys.length with a | a | a
 .refine(MV q q' xs.length ys.length cap cap' w a).mono ?_;rintro e w' ⟨rfl,rfl⟩;exact⟨-1,rfl,⟨λ_=>FJ f g l a,λ_=>by decide⟩,⟨λh=>absurd h<|by decide,λh=>by rw[h] at a;omega⟩,kE _ _⟩
 .by_cases hx0:xs=[]
  .subst hx0;have d:ys=[]:=kM a.symm;subst d;refine(MU q q' cap cap' w).mono ?_;rintro e w' ⟨rfl,rfl⟩;exact⟨0,rfl,by simp,by simp,kE _ _⟩
  have d:ys≠[]:=λh=>hx0<|kM<|by rw[a,h];rfl
  rcases z with h | ⟨b,o,rfl,r,m⟩
  .exact absurd h hx0
  rcases A with h | ⟨j,o',rfl,i,n⟩
  .exact absurd h d
  rw[<-a];exact RJ b o cap j o' cap' xs ys w a f g (by omega) m n r i
 refine(MW q q' xs.length ys.length cap cap' w a).mono ?_;rintro e w' ⟨rfl,rfl⟩;have:=FJ g f k a;exact⟨1,rfl,⟨λh=>absurd h<|by decide,λh=>by omega⟩,⟨λh=>absurd h<|by decide,λh=>by rw[h] at a;omega⟩,kE _ _⟩
theorem yg (h:Sl w v xs):bF w 218 #[v] (.bool<|decide (xs=[1])):=by
 obtain⟨h1,h2,q,cap,rfl,h4,h5⟩:=h;by_cases d:xs.length=1
 .obtain⟨x,rfl⟩:=sW.1 d
  rcases h5 with h | ⟨b,o,rfl,g,a⟩
  .cases h
  have c0:w.cell? ⟨b,o,none⟩=some (.int .u32 x):=(by simpa using a 0 (by simp));clear a h1;go_enter func218,ntmps218;go_wp2
  all_goals
   go_ret;refine⟨?_,kE _ _⟩;simp_all
   try rfl
 have i:((xs.length:Int)==1)=false:=by simp;omega
 have f:¬xs=[1]:=λe=>d (by rw[e];rfl);clear h5;go_enter func218,ntmps218;go_wp2;go_ret;exact⟨by simp[f],kE _ _⟩
theorem RK (h:Sl w v xs) (i:bD xs) (g:xs≠[]) (u:xs.length<=274877906944):
  cN 216 #[v] w λe w'=>∃n:Nat,e=.returned (.int .i64<|n+1)/\2^n<=val xs/\val xs<2^(n+1)/\n<=8796093022208/\w'=w:=by
 obtain⟨h1,h2,q,cap,rfl,h4,h5⟩:=h;obtain⟨m,a⟩:∃m,xs.length=m+1:=⟨xs.length - 1,by have:=lG.2 g;omega⟩
 rcases h5 with h | ⟨b,o,rfl,B,j⟩
 .exact absurd h g
 have c0:=j m (by omega);have d:=h1 m;have A:=i m a;have hv:=zG a;have z:=ep<|ms h1 m;have k:=oW<|ms h1 m;rw[lD,lR<|by omega] at k;generalize xs.getD m 0=X at*;have r:=yf X w d.1 d.2;obtain⟨s1,s2,y⟩:=MS X.toNat (by omega) (by omega);have C:=MT X d.1 d.2;generalize Lib.bitLen X.toNat=L at*;obtain⟨l,rfl⟩:∃l,L=l+1:=⟨L - 1,by omega⟩;have e1:(2:Int)^l<=X:=by rw[show ((2:Int)^l)=((2^l:Nat):Int) by simp];rw[pT] at s1;omega
 have e2:X+1<=(2:Int)^(l+1):=by rw[show ((2:Int)^(l+1))=((2^(l+1):Nat):Int) by simp];omega
 have f:(4294967296:Int)^m=2^(32*m):=by rw[sp];rfl
 have t:=su m;have f1:2^(32*m+l)<=val xs:=by rw[mw,<-f,hv,kI];have:=kO e1 (by omega:(0:Int)<=4294967296^m);omega
 have f2:val xs<2^(32*m+l+1):=by rw[pW,mw,<-f,hv];have:=lr e2 (by omega:(0:Int)<=4294967296^m);rw[lT,qC,kI _ X] at this;omega
 rw[a];rw[a] at h4 u;have hF:Hid (2^(32*m+l)<=val xs/\val xs<2^(32*m+l+1)):=⟨f1,f2⟩;clear f1 f2 hv j h1 h2 i g z k e1 e2 f t s1 s2 y A a;go_enter func216,ntmps216;go_wp2_with (go_at_call 229;refine r.mono ?_;rintro e D ⟨rfl,rfl⟩);go_ret;exact⟨32*m+l,by go_num,hF.out.1,hF.out.2,by omega,rfl⟩
theorem JN:∀k,k<=xs.length->(∀j,j<k->xs.getD j 0=0)->val xs=4294967296^k*val (xs.drop k)
 | 0,_,_=>by simp
 | k+1,hk,h=>by rw[JN k (by omega) λj a=>h j<|by omega,Es xs k<|by omega,h k<|by omega,lH,kH];simp
theorem RL (h:Sl w v xs) (a:0<val xs) (O:xs.length<=274877906944) (D:Tb w):
  cN 214 #[v] w λe w'=>∃t:Nat,e=.returned (.int .i64 t)/\TwosIs (val xs) t/\t<=8796093022208/\w'=w:=by
 obtain⟨h1,h2,q,cap,rfl,h4,h5⟩:=h
 rcases h5 with h | ⟨b,o,rfl,M,r⟩
 .subst h;simp[val] at a
 have z:Hid (0<val xs):=a;have g:Hid (cB xs):=h1;have F:=bC r;clear a h1 r;go_enter func214,ntmps214;go_wp2
 go_loop [7] (λi=>∃k:Nat,k<=xs.length/\i=.int .i64 k/\∀j,j<k->xs.getD j 0=0) (λi=>xs.length - (intOf i).toNat)
 case atStart=>exact⟨0,kL _,rfl,λj H=>by omega⟩
 case round=>
  obtain⟨k,K,rfl,y⟩:=hrel;have f:Hid (∀j,j<k->xs.getD j 0=0):=y;clear y;by_cases u:k<xs.length
  .have c0:=F.out k u;have A:=g.out k;have L:(k:Int)<(xs.length:Int):=(by omega);generalize l:xs.getD k 0=X at*;have n:Hid (xs.getD k 0=X):=l;clear l;by_cases h0:X=0
   .subst h0;go_wp2;go_round
    case rel=>
     refine⟨k+1,by omega,by go_num,λj H=>?_⟩
     rcases kS j k with h | h
     .exact f.out j h
     have:j=k:=(by omega);subst this;exact n.out
    case measure=>simp[intOf];omega
   have J:=Az X w (by omega) A.2 D;go_wp2_with (go_at_call 284;refine J.mono ?_;rintro e P ⟨t,rfl,ht,N,rfl⟩);go_ret;refine⟨32*k+t,by go_num,?_,by omega,rfl⟩;obtain⟨m,I⟩:=ht;have hv:=JN k (by omega) f.out;rw[Es xs k u,n.out] at hv;have C:(4294967296:Int)^k=2^(32*k):=(by rw[sp];rfl);obtain⟨d,G⟩:∃d,32=t+(d+1):=⟨31 - t,by omega⟩;have B:(4294967296:Int)=2^t*(2^d*2):=(by rw[<-lH,<-mw,<-G];rfl);obtain⟨V,E⟩:=lZ<|ep<|Av g.out<|k+1;refine⟨m+2^d*V,?_⟩;rw[hv,E,I,mw,<-C,kH];congr 1;rw[B,kH<|2^t,<-lT];congr 1;rw[kH,Int.natCast_add,Int.natCast_mul,lT,Int.mul_left_comm];simp;omega
  exfalso;have:k=xs.length:=(by omega);subst this;have hv:=JN xs.length (kF _) f.out;rw[sL] at hv;have:=z.out;simp[val] at hv;omega
theorem yh (a b:Nat) (d:a<4294967296) (e:b<4294967296):Go.bits .or .u32 (a:Int) (b:Int)=((a ||| b:Nat):Int):=by
 have f:a ||| b<2^32:=Nat.or_lt_two_pow (by omega)<|by omega
 have h1:(BitVec.ofInt 32 (a:Int)).toNat=a:=by rw[qL,rb];exact rJ<|by omega
 have h2:(BitVec.ofInt 32 (b:Int)).toNat=b:=by rw[qL,rb];exact rJ<|by omega
 show IntKind.u32.wrap ((BitVec.ofInt 32 (a:Int) ||| BitVec.ofInt 32 (b:Int)).toNat:Int)=_
 rw[sV,h1,h2,sK];omega
theorem MX (a b:Nat) (d:a<18446744073709551616) (e:b<18446744073709551616):Go.bits .or .u64 (a:Int) (b:Int)=((a ||| b:Nat):Int):=by
 have f:a ||| b<2^64:=Nat.or_lt_two_pow (by omega)<|by omega
 have h1:(BitVec.ofInt 64 (a:Int)).toNat=a:=by rw[qL,rb];exact rJ<|by omega
 have h2:(BitVec.ofInt 64 (b:Int)).toNat=b:=by rw[qL,rb];exact rJ<|by omega
 show IntKind.u64.wrap ((BitVec.ofInt 64 (a:Int) ||| BitVec.ofInt 64 (b:Int)).toNat:Int)=_
 rw[sV,h1,h2,nL];omega
theorem uP {y:Int} (a:0<=x/\x<=4294967295) (d:0<=y/\y<=4294967295):Go.bits .or .u64 (x*4294967296) y=x*4294967296+y/\Go.bits .or .u64 y (x*4294967296)=y+x*4294967296:=by
 obtain⟨X,rfl⟩:=lZ a.1;obtain⟨Y,rfl⟩:=lZ d.1;have e:(X:Int)*4294967296=((2^32*X:Nat):Int):=by omega
 have h:=qK (i:=32) (b:=Y) (by omega) X;rw[e,MX _ _ (by omega)<|by omega,MX _ _ (by omega)<|by omega,Nat.or_comm Y,<-h];omega
theorem FL {c:Int} (n:0<=x/\x<=4294967295) (t:s<=31) (e:0<=c/\c<2^s):
  Go.bits .or .u32 c (x*2^s % 4294967296)=(x*2^s+c) % 4294967296/\x*2^s / 4294967296=(x*2^s+c) / 4294967296/\0<=x*2^s / 4294967296/\x*2^s / 4294967296<2^s:=by
 obtain⟨X,rfl⟩:=lZ n.1;obtain⟨C,rfl⟩:=lZ e.1;obtain⟨d,g⟩:∃d,32=s+d:=⟨32 - s,by omega⟩;have l:0<2^s:=Nat.pow_pos (by decide);have m:0<2^d:=Nat.pow_pos (by decide);have a:4294967296=2^s*2^d:=by rw[<-Nat.pow_add,<-g]
 have f:C<2^s:=by have:=e.2;rw[show ((2:Int)^s)=((2^s:Nat):Int) by simp] at this;omega
 have q:X<2^s*2^d:=by omega
 rw[show ((2:Int)^s)=((2^s:Nat):Int) by simp,show(X:Int)*((2^s:Nat):Int)=((2^s*X:Nat):Int) by rw[Int.natCast_mul,kI]];have m1:2^s*X % 4294967296=2^s*(X % 2^d):=by rw[a,Nat.mul_mod_mul_left]
 have q1:2^s*X / 4294967296=X / 2^d:=by rw[a,Nat.mul_div_mul_left _ _ l]
 have k:=Nat.mod_lt X m;have r:2^s*(X % 2^d)+2^s<=4294967296:=by rw[a,<-Nat.mul_succ];exact Nat.mul_le_mul_left _ k
 have hq:X / 2^d<2^s:=Nat.div_lt_of_lt_mul (by rwa [Nat.mul_comm]);have h:=qK (i:=s) f<|X % 2^d;have j:=Nat.div_add_mod (2^s*X) 4294967296;rw[m1,q1] at j;have s1:(2^s*X+C) % 4294967296=2^s*(X % 2^d)+C:=by omega
 have s2:(2^s*X+C) / 4294967296=X / 2^d:=by omega
 refine⟨?_,?_,?_,?_⟩
 .rw[show ((2^s*X:Nat):Int) % 4294967296=((2^s*X % 4294967296:Nat):Int) by omega,show(((2^s*X:Nat):Int)+(C:Int)) % 4294967296=(((2^s*X+C) % 4294967296:Nat):Int) by omega,m1,s1];rw[yh _ _ (by omega)<|by omega,Nat.or_comm,<-h]
 .rw[show ((2^s*X:Nat):Int) / 4294967296=((2^s*X / 4294967296:Nat):Int) by omega,show(((2^s*X:Nat):Int)+(C:Int)) / 4294967296=(((2^s*X+C) / 4294967296:Nat):Int) by omega,q1,s2]
 .omega
 rw[show ((2^s*X:Nat):Int) / 4294967296=((2^s*X / 4294967296:Nat):Int) by omega,q1];omega
theorem AA (out:List Int) (c x y:Int) (m:Nat):((out++c::List.replicate (m+1) 0).set out.length x).set (out.length+1) y=(out++[x])++y::List.replicate m 0:=by
 induction out with
 | nil=>simp[nV]
 | cons a l d=>simpa using d
theorem yi (out:List Int) (c:Int) (m:Nat):(out++c::List.replicate (m+1) 0).getD out.length 0=c:=by simp[List.getD]
theorem JO (a:s<=31):(2:Int)^s<=2147483648:=by have:2^s<=2^31:=pL (by decide) a;rw[show ((2:Int)^s)=((2^s:Nat):Int) by simp];omega
theorem yj (d:s<=31) (a:0<=x/\x<=4294967295):0<=x*2^s/\x*2^s<=9223372034707292160:=by have e:=i7 s;have h1:=JO d;have h2:=sY a.2 h1 (by omega) (by omega);exact⟨nj a.1<|by omega,by omega⟩
theorem JR {g:Nat} {os:List Int} (a:Blk w g os) (d:cB os) (e:os.length<=549755813888):Sl w (.slice (some ⟨g,0,none⟩) os.length os.length) os:=by refine⟨d,e,some ⟨g,0,none⟩,os.length,rfl,kF _,.inr ⟨g,0,rfl,?_,λi hi=>by simpa using a.cell hi⟩⟩;unfold Blk at a;exact(kG.1 a).1
theorem FM (h:Sl w v xs):∃r,(cN 165 #[v] w λe w'=>e=.returned r/\w'=w)/\Sl w r (bE xs):=by obtain⟨u,h1,h2⟩:=Et h;exact⟨u,h2 w<|kE _ _,h1⟩
theorem MY (q:Option Addr) (cap:Nat) (s:Int) (w:World):cN 287 #[.slice q 0 cap,.int .i64 s] w λe w'=>e=.returned (.slice none 0 0)/\w'=w:=by go_enter func287,ntmps287;go_wp2;go_ret;exact⟨rfl,rfl⟩
theorem RM (s:Nat) (y:s<=31) (ai:((xs.length:Int)==0)=false) (H:cB xs) (lx:xs.length<=274877906944) (hb:b<w.1.size)
  (K:∀i,i<xs.length->w.cell? ⟨b,o+i,none⟩=some (.int .u32<|xs.getD i 0)):
  cN 287 #[.slice (some ⟨b,o,none⟩) xs.length cap,.int .i64 s] w λe w'=>∃r out a,e=.returned r/\Shb xs s xs.length out a/\Sl w' r (bE<|out++[a])/\Below w.1.size w w':=by
 obtain⟨i0,hi,O,Q,R⟩:=mE (show(prog.info? 120).map (λi=>(i.zero,i.size,i.bytes))=some (some<|.int .u32 0,1,4) by kernel_rfl);have hq:(s:Int).tdiv 32=0:=by rw[nk<|by omega];omega
 have N:(s:Int).tmod 32=s:=by rw[nR<|by omega];omega
 have Y:=bC K;have I:Hid (cB xs):=H;clear K H;go_enter func287,ntmps287;go_wp2_with (at_make;refine nM _ rfl _ _ 28 rfl w.1.size 120 i0 (.int .u32 0) 1 underlying28 hi O Q _ _ _ _ (xs.length+1) rfl rfl (by omega) (by omega) (by rw[R];omega) (by unfold maxLen;omega) (kF _) ?_);intro V E B;have F:Blk V w.1.size (List.replicate (xs.length+1) 0):=zz E;have G:Below w.1.size w V:=(kE _ _).grown B (kF _) (λ_ h=>by cases h);clear E B hi O Q R;go_wp2
 go_loopw [27] (λi wr=>∃(k:Nat) (out:List Int) (a:Int),k<=xs.length/\i=.int .i64 k/\Hid (Shb xs s k out a)/\Blk wr w.1.size (out++a::List.replicate (xs.length - k) 0)/\Below w.1.size w wr) (λi _=>xs.length - (intOf i).toNat)
 case atStart=>exact⟨0,[],0,kL _,rfl,Shb.zero xs s,by simpa [nV] using F,G⟩
 case round=>
  clear F G;obtain⟨k,out,a,hk,rfl,g,d,u⟩:=hrel;have l:=g.out.len;have L:=g.out.c;have Z:=JO y;by_cases ab:k<xs.length
  .have am:(k:Int)<(xs.length:Int):=(by omega);obtain⟨m,hm⟩:∃m,xs.length - k=m+1:=⟨xs.length - k - 1,by omega⟩;rw[hm] at d;have cc:wr.cell? ⟨b,o+k,none⟩=some (.int .u32<|xs.getD k 0):=fg u hb<|Y.out k ab;have c2:=d.cell (j:=k) (by simp;omega);rw[<-l,yi,l] at c2;have c3:=d.cell (j:=k+1) (by simp;omega);have ag:=d.frozen k;have ah:=d.frozen<|k+1;generalize (out++a::List.replicate (m+1) 0).getD (k+1) 0=Z3 at c3;have z:=I.out k;obtain⟨X,J⟩:∃X,Hid (xs.getD k 0=X):=⟨_,rfl⟩;rw[J.out] at cc z;have M:=FL z y L;have ac:=yj y z;have f:=g.out.step I.out (S:=X*2^s+a) (by rw[J.out]);obtain⟨P,hP⟩:∃P,X*2^s=P:=⟨_,rfl⟩;rw[hP] at M f ac;obtain⟨o1,T,o3,U⟩:=M;rw[<-T] at f;obtain⟨D,t⟩:∃D,(P+a) % 4294967296=D:=⟨_,rfl⟩;rw[t] at o1 f;obtain⟨C,hC⟩:∃C,P / 4294967296=C:=⟨_,rfl⟩;rw[hC] at o3 U f;have n:=AA out a D C m;rw[l] at n;have q:=(d.set k D).set (k+1) C;rw[n] at q;have aa:Hid (Blk ((wr.setCell ⟨w.1.size,k,none⟩<|.int .u32 D).setCell ⟨w.1.size,k+1,none⟩<|.int .u32 C) w.1.size (out++[D]++C::List.replicate m 0)):=q;have W:Hid (Shb xs s (k+1) (out++[D]) C):=f;have ae:C<=2147483647:=(by omega);have af:Hid ((P+a) % 4294967296=D):=t;clear n q f T t U L Z;go_wp2;go_roundw
   case rel=>refine⟨k+1,out++[D],C,by omega,by go_num,W,?_,(u.setCell (kF _) _).setCell (kF _) _⟩;rw[show xs.length - (k+1)=m by omega];exact aa.out
   case measure=>simp[intOf];omega
  obtain rfl:k=xs.length:=(by omega);rw[tB,List.replicate_zero] at d;have hd:cB (out++[a]):=JF g.out.dig (by omega);have ad:=JR d hd (by simp;omega);obtain⟨r,A,N⟩:=FM ad;rw[show (out++[a]).length=xs.length+1 by simp[l]] at A;go_wp2_with (go_at_call 165;refine A.mono ?_;rintro e w9 ⟨rfl,rfl⟩);go_ret;exact⟨r,out,a,rfl,g.out,N,u⟩
theorem Shb.done {out:List Int} {a:Int} (h:Shb xs s xs.length out a):val (bE<|out++[a])=val xs*2^s:=by have:=h.eq;rw[lQ] at this;rw[ji,JG,h.len,this]
theorem MZ (n:Sl w v xs) (u:xs.length<=274877906944) (s:Nat) (m:s<=31):
  cN 287 #[v,.int .i64 s] w λe w'=>∃r zs,e=.returned r/\Sl w' r zs/\bD zs/\val zs=val xs*2^s/\zs.length<=xs.length+1/\Below w.1.size w w':=by
 obtain⟨f,_,q,cap,rfl,y,t⟩:=n
 rcases t with rfl | ⟨b,o,rfl,g,j⟩
 .refine(MY q cap s w).mono ?_;rintro e w' ⟨rfl,rfl⟩;exact⟨_,[],rfl,Sl.nil _,zH,by simp[val],by simp,kE _ _⟩
 by_cases h0:xs=[]
 .subst h0;refine(MY _ cap s w).mono ?_;rintro e w' ⟨rfl,rfl⟩;exact⟨_,[],rfl,Sl.nil _,zH,by simp[val],by simp,kE _ _⟩
 have k:((xs.length:Int)==0)=false:=(by have:xs.length≠0:=λh=>h0<|kM h;simp;omega);refine(RM s m k f u g j).mono ?_;rintro e w' ⟨r,out,a,rfl,d,l,i⟩;refine⟨r,bE<|out++[a],rfl,l,jH _,d.done,?_,i⟩;rw[ed];have:=fp (out++[a]) (out++[a]).length;have h2:=d.len;simp at this;simp;omega
theorem AC (out:List Int) (x:Int) (m:Nat):(out++List.replicate (m+1) 0).set out.length x=(out++[x])++List.replicate m 0:=by
 induction out with
 | nil=>simp[nV]
 | cons a l d=>simpa using d
theorem M0 (a:cB xs) (k:Nat) (d:k<=xs.length):val (xs.drop k)=val xs / 4294967296^k:=by
 have h:val xs=val (xs.take k)+4294967296^k*val (xs.drop k):=by
  conv=>lhs;rw[<-lS k xs]
  rw[zB,lD,lR d]
 have h0:=ep<|ms a k;have h1:=oW<|ms a k;rw[lD,lR d] at h1;have e:=su k;rw[h,pK _ _<|by omega,mY h0 h1,qY]
theorem RN (k i:Nat):(xs.drop k).getD i 0=xs.getD (k+i) 0:=by simp[List.getD]
theorem RO {q:Option Addr} {n:Nat} (a r:Nat) (g:r<=31) (i:n<=a) (j:a<=274877906944) (_f:n<=274877906944):
  cN 215 #[.slice q n cap,.int .i64<|32*a+r] w λe w'=>e=.returned (.slice none 0 0)/\w'=w:=by
 have hq:(32*(a:Int)+r).tdiv 32=a:=by rw[nk<|by omega];omega
 have h:(32*(a:Int)+r).tmod 32=r:=by rw[nR<|by omega];omega
 have d:(n:Int)<=(a:Int):=by omega
 go_enter func215,ntmps215;go_wp2;go_ret;exact⟨rfl,rfl⟩
theorem RP (a r:Nat) (n:r<=31) (hw:a<xs.length) (_aF:xs.length<=cap) (K:cB xs) (lx:xs.length<=274877906944) (Q:b<w.1.size)
  (R:∀i,i<xs.length->w.cell? ⟨b,o+i,none⟩=some (.int .u32<|xs.getD i 0)):
  cN 215 #[.slice (some ⟨b,o,none⟩) xs.length cap,.int .i64<|32*a+r] w λe w'=>∃u out,e=.returned u/\Srb (xs.drop a) r (xs.drop a).length out/\Sl w' u (bE out)/\Below w.1.size w w':=by
 obtain⟨i0,hi,U,V,W⟩:=mE (show(prog.info? 120).map (λi=>(i.zero,i.size,i.bytes))=some (some<|.int .u32 0,1,4) by kernel_rfl);have hq:(32*(a:Int)+r).tdiv 32=a:=by rw[nk<|by omega];omega
 have aq:(32*(a:Int)+r).tmod 32=r:=by rw[nR<|by omega];omega
 have au:(a:Int)<(xs.length:Int):=by omega
 have an:¬(xs.length:Int)<=(a:Int):=by omega
 obtain⟨L,M⟩:∃L,xs.length=a+L:=⟨xs.length - a,by omega⟩;have N:Hid (xs.length=a+L):=M;have ar:(xs.length:Int) - (a:Int)=(L:Int):=by omega
 have T:Hid ((xs.drop a).length=L):=by show(xs.drop a).length=L;rw[nN];omega
 have B:Hid (cB<|xs.drop a):=Av K a;have J:Hid (∀i,i<L->w.cell? ⟨b,o+(a+i),none⟩=some (.int .u32<|(xs.drop a).getD i 0)):=by intro i hi;rw[RN];exact R (a+i)<|by omega
 clear R K M;rw[T.out];generalize xs.drop a=ys at*;go_enter func215,ntmps215;go_wp2_with (at_make;refine nM _ rfl _ _ 28 rfl w.1.size 120 i0 (.int .u32 0) 1 underlying28 hi U V _ _ _ _ L rfl rfl (by omega) (by omega) (by rw[W];omega) (by unfold maxLen;omega) (kF _) ?_);intro Z F E;have G:Blk Z w.1.size (List.replicate L 0):=zz F;have H:Below w.1.size w Z:=(kE _ _).grown E (kF _) (λ_ h=>by cases h);clear F E hi U V W;go_wp2
 go_loopw [26] (λi wr=>∃(k:Nat) (out:List Int),k<=L/\i=.int .i64 k/\Hid (Srb ys r k out)/\Blk wr w.1.size (out++List.replicate (L - k) 0)/\Below w.1.size w wr) (λi _=>L - (intOf i).toNat)
 case atStart=>exact⟨0,[],kL _,rfl,Srb.zero ys r,by simpa using G,H⟩
 case round=>
  clear G H;obtain⟨k,out,hk,rfl,q,g,l⟩:=hrel;have A:=q.out.len;by_cases aa:k<L
  .have am:(k:Int)<(L:Int):=(by omega);obtain⟨m,hm⟩:∃m,L - k=m+1:=⟨L - k - 1,by omega⟩;rw[hm] at g;have ag:=N.out;have ai:(a:Int)+(k:Int)<(xs.length:Int):=(by omega);have cc:wr.cell? ⟨b,o+(a+k),none⟩=some (.int .u32<|ys.getD k 0):=fg l Q<|J.out k aa;have c2:=g.cell (j:=k) (by simp;omega);have ah:=g.frozen k;generalize (out++List.replicate (m+1) 0).getD k 0=Z3 at c2;have t:=B.out k;have jp:=B.out<|k+1;have f:=q.out.step B.out n;have z:=λd=>AC out d m;rw[A] at z;have I:Hid (∀d,(out++List.replicate (m+1) 0).set k d=(out++[d])++List.replicate m 0):=z;clear z A;have hp:=i7 r;have ao:=JO n;by_cases ij:k+1<L
   .have cc1:wr.cell? ⟨b,o+(a+k+1),none⟩=some (.int .u32<|ys.getD (k+1) 0):=fg l Q<|J.out (k+1) ij;have jq:(a:Int)+(k:Int)+1<(xs.length:Int):=(by omega);generalize ys.getD k 0=X at*;generalize ys.getD (k+1) 0=Y at*;have ac:=(uP jp t).2;unfold uW at f;obtain⟨S,O⟩:∃S,X+Y*4294967296=S:=⟨_,rfl⟩;rw[O] at ac f;have C:0<=S/\S<=18446744073709551615:=(by omega);have ad:0<=S / 2^r:=mt C.1 (by omega);have ae:S / 2^r<=18446744073709551615:=sH (pI _ C.1) C.2;have y:Hid (Srb ys r (k+1)<|out++[S / 2^r % 4294967296]):=f;clear f O;go_wp2;go_roundw
    case rel=>refine⟨k+1,_,by omega,by go_num,y.out,?_,l.setCell (kF _) _⟩;rw[show L - (k+1)=m by omega,<-I.out];exact g.set k _
    case measure=>simp[intOf];omega
   have jq:¬(a:Int)+(k:Int)+1<(xs.length:Int):=(by omega);have P:ys.getD (k+1) 0=0:=(by have:=T.out;simp[List.getD,lP (by omega:ys.length<=k+1)]);rw[P] at f;generalize ys.getD k 0=X at*;unfold uW at f;rw[qg,mR] at f;have ad:0<=X / 2^r:=mt t.1 (by omega);have ae:X / 2^r<=4294967295:=sH (pI _ t.1) t.2;have y:Hid (Srb ys r (k+1)<|out++[X / 2^r % 4294967296]):=f;clear f P;go_wp2;go_roundw
   case rel=>
    have ab:X / 2^r % 4294967296=X / 2^r:=(by omega);refine⟨k+1,_,by omega,by go_num,y.out,?_,l.setCell (kF _) _⟩;rw[show L - (k+1)=m by omega,<-I.out]
    first | exact g.set k _ | (rw[ab];exact g.set k _)
   case measure=>simp[intOf];omega
  obtain rfl:k=L:=(by omega);rw[tB,List.replicate_zero,mU] at g;have ag:=N.out;have af:=JR g q.out.dig (by omega);obtain⟨u,D,n⟩:=FM af;rw[A] at D;go_wp2_with (go_at_call 165;refine D.mono ?_;rintro e w9 ⟨rfl,rfl⟩);go_ret;exact⟨u,out,rfl,q.out,n,l⟩
theorem JS (l:Sl w v xs) (h:xs.length<=274877906944) (t:Nat) (ht:t<=8796093022208):
  cN 215 #[v,.int .i64 t] w λe w'=>∃r zs,e=.returned r/\Sl w' r zs/\bD zs/\val zs=val xs / 2^t/\zs.length<=xs.length/\Below w.1.size w w':=by
 obtain⟨a,_,q,cap,rfl,i,m⟩:=l;have k:(t:Int)=32*((t / 32:Nat):Int)+((t % 32:Nat):Int):=by omega
 have d:(2:Int)^t=4294967296^(t / 32)*2^(t % 32):=by
  conv=>lhs;rw[<-Nat.div_add_mod t 32]
  rw[mw,sp];rfl
 rw[k];by_cases g:t / 32<xs.length
 .rcases m with rfl | ⟨b,o,rfl,hb,hc⟩
  .simp at g
  refine(RP (t / 32) (t % 32) (by omega) g i a h hb hc).mono ?_;rintro e w' ⟨u,out,rfl,f,hu,j⟩;refine⟨u,bE out,rfl,hu,jH _,?_,?_,j⟩
  .rw[ji,f.done (Av a _)<|by omega,M0 a _<|by omega,d,Int.ediv_ediv_of_nonneg<|by have:=su<|t / 32;omega]
  rw[ed];have:=fp out out.length;have h2:=f.len;rw[nN] at h2;omega
 refine(RO (t / 32) (t % 32) (by omega) (by omega) (by omega) h).mono ?_;rintro e w' ⟨rfl,rfl⟩;refine⟨_,[],rfl,Sl.nil _,zH,?_,by simp,kE _ _⟩;have h1:=oW a;have h0:=ep a;have h2:=JI (by omega:xs.length<=t / 32);have n:=i7<|t % 32;have h3:(4294967296:Int)^(t / 32)*1<=4294967296^(t / 32)*2^(t % 32):=lr (by omega) (by have:=su<|t / 32;omega);rw[d,mY h0<|by omega];rfl
theorem RQ (B:Int) (W:1<=B) (Y:B<=4294967295) (z:cB xs) (lx:xs.length<=274877906944) (N:b<w.1.size)
  (D:∀i,i<xs.length->w.cell? ⟨b,o+i,none⟩=some (.int .u32<|xs.getD i 0)):
  cN 285 #[.slice (some ⟨b,o,none⟩) xs.length cap,.int .u32 B] w λe w'=>∃r os rest,e=.returned (.tuple #[r,.int .u32 rest])/\Smb xs B 0 os rest/\Sl w' r (bE os)/\Below w.1.size w w':=by
 obtain⟨T,hi,F,G,H⟩:=mE (show(prog.info? 120).map (λi=>(i.zero,i.size,i.bytes))=some (some<|.int .u32 0,1,4) by kernel_rfl);have K:=bC D;have A:Hid (cB xs):=z;clear D z;go_enter func285,ntmps285;go_wp2_with (at_make;refine nM _ rfl _ _ 28 rfl w.1.size 120 T (.int .u32 0) 1 underlying28 hi F G _ _ _ _ xs.length rfl rfl (by omega) (by omega) (by rw[H];omega) (by unfold maxLen;omega) (kF _) ?_);intro I q n;have t:Blk I w.1.size (List.replicate xs.length 0):=zz q;have y:Below w.1.size w I:=(kE _ _).grown n (kF _) (λ_ h=>by cases h);clear q n hi F G H;go_wp2
 go_loopw [7,8] (λU i wr=>∃(k:Nat) (os:List Int) (r:Int),k<=xs.length/\i=.int .i64 ((k:Int) - 1)/\U=.int .u64 r/\0<=r/\r<B/\Hid (Smb xs B k os r)/\Blk wr w.1.size os/\Below w.1.size w wr) (λ_ i _=>(intOf i+1).toNat)
 case atStart=>exact⟨xs.length,_,0,kF _,rfl,rfl,by omega,by omega,Smb.zero xs<|by omega,t,y⟩
 case round=>
  clear t y;obtain⟨k,os,r,l,rfl,rfl,r0,r1,a,g,j⟩:=hrel
  match k,l,a with
  | 0,l,a=>have d:=a.out.len;obtain⟨u,m,R⟩:=FM (JR g a.out.dig<|by omega);rw[d] at m;clear d;go_wp2_with (go_at_call 165;refine m.mono ?_;rintro e w9 ⟨rfl,rfl⟩);go_ret2;exact⟨_,os,r,rfl,a.out,R,j⟩
  | k+1,l,a=>
   have e1:((k+1:Nat):Int) - 1=(k:Int):=(by omega);rw[e1];have d:=a.out.len;have c1:wr.cell? ⟨b,o+k,none⟩=some (.int .u32<|xs.getD k 0):=fg j N (K.out k<|by omega);have ac:=g.frozen k;have c2:wr.cell? ⟨w.1.size,k,none⟩=some (.int .u32<|os.getD k 0):=g.cell (by rw[d];omega);generalize os.getD k 0=V at c2;have E:=A.out k;have f:=a.out.step (S:=r*4294967296+xs.getD k 0) (by omega) A.out rfl;generalize M:xs.getD k 0=X at c1 E f;have Q:=(uP ⟨r0,by omega⟩ E).1;have ad:(k:Int)<(xs.length:Int):=(by omega);obtain⟨S,C⟩:∃S,r*4294967296+X=S:=⟨_,rfl⟩;rw[C] at Q f;have L:0<=S:=(by omega);have Z:S<=18446744073709551615:=(by omega);have aa:=mt L (by omega:0<=B);have ab:S / B<4294967296:=lU (by omega) (by omega);have O:=nt S (by omega:B≠0);have P:=mg S (by omega:0<B);have J:Hid (Smb xs B k (os.set k<|S / B)<|S % B):=f;clear f d M e1 C;go_wp2;go_roundw
   case rel=>exact⟨k,_,_,by omega,by go_num,rfl,O,P,J,g.set _ _,j.setCell (p:=⟨w.1.size,k,none⟩) (kF _) _⟩
   case measure=>simp[intOf]
theorem RR (u:Sl w v xs) (n:xs≠[]) (z:xs.length<=274877906944) (B:Int) (i:1<=B) (j:B<=4294967295):
  cN 285 #[v,.int .u32 B] w λe w'=>∃r zs,e=.returned (.tuple #[r,.int .u32<|val xs % B])/\Sl w' r zs/\bD zs/\val zs=val xs / B/\Below w.1.size w w':=by
 obtain⟨g,_,q,cap,rfl,A,y⟩:=u
 rcases y with h | ⟨b,o,rfl,k,m⟩
 .exact absurd h n
 refine(RQ B i j g z k m).mono ?_;rintro e w' ⟨r,os,rest,rfl,f,t,l⟩;have d:=f.eq;have a:=f.r0;simp only[qI] at d;have h1:val xs / B=val os:=by rw[d,sM,pK _ _<|by omega,mY a.1 a.2,qY]
 have h2:val xs % B=rest:=by rw[d,sM,nl,pm a.1 a.2]
 exact⟨r,bE os,by rw[h2],t,jH _,by rw[ji,h1],l⟩
