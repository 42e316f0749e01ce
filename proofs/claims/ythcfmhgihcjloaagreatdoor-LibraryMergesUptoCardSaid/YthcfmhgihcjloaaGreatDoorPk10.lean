import Derived.Test.YthcfmhgihcjloaaGreatDoorPk09
namespace Go.Proofs.YthcfmhgihcjloaaGreatDoor
open Go Go.RowKit Tryz
set_option maxRecDepth 100000
set_option maxHeartbeats 16000000
variable {s k cap b o B Lq g gu n:Nat} {xs q ys u0 vs us zs:List Int} {w w2:World} {v u:Value}
def FB (x y:Int) (s:Nat):Int:=(x+y*65536) / 2^s % 65536
theorem Dh {x y:Int} (d:0<=x/\x<=65535) (_e:0<=y/\y<=65535) (a:s<=15):FB x y s*2^s=x - x % 2^s+y % 2^s*65536:=by
 unfold FB
 rcases (by omega:s=0\/s=1\/s=2\/s=3\/s=4\/s=5\/s=6\/s=7\/s=8\/s=9\/s=10\/s=11\/s=12\/s=13\/s=14\/s=15) with rfl | rfl | rfl | rfl | rfl | rfl | rfl | rfl | rfl | rfl | rfl | rfl | rfl | rfl | rfl | rfl<;>omega
structure Sr (xs:List Int) (s k:Nat) (out:List Int):Prop where
 len:out.length=k
 dig:bI out
 eq:bA out*2^s=bA (xs.take k) - xs.getD 0 0 % 2^s+xs.getD k 0 % 2^s*65536^k
theorem Sr.zero (xs:List Int) (s:Nat):Sr xs s 0 []:=⟨rfl,λj=>by simp[List.getD],by simp[bA];exact(Int.add_left_neg _).symm⟩
theorem Sr.step {out:List Int} (h:Sr xs s k out) (a:bI xs) (f:s<=15):Sr xs s (k+1) (out++[FB (xs.getD k 0) (xs.getD (k+1) 0) s]):=by
 have d:=h.eq;have h1:=Dh (a k) (a<|k+1) f;refine⟨by simp[h.len],xJ h.dig<|by unfold FB;omega,?_⟩;rw[xK,oV,h.len,lH,kW,d,kH,kI (65536^k)<|2^s,<-kH,h1,kW,pO];have e:xs.getD (k+1) 0 % 2^s*65536*65536^k=xs.getD (k+1) 0 % 2^s*(65536^k*65536):=by rw[kH,kI 65536]
 omega
theorem Sr.done {out:List Int} (h:Sr xs s xs.length out) (i:bI xs) (l:s<=15):bA out=bA xs / 2^s:=by
 have a:=h.eq;have f:xs.getD xs.length 0=0:=by simp[List.getD]
 rw[lQ,f,Int.zero_emod,qg,mR] at a;have j:=i7 s
 have h2:bA xs % 2^s=xs.getD 0 0 % 2^s:=by
  match xs with
  | []=>rfl
  | x::r=>show(x+65536*bA r) % 2^s=x % 2^s;obtain⟨d,e⟩:∃d,16=s+d:=⟨16 - s,by omega⟩;have:(65536:Int)=2^s*2^d:=(by rw[<-mw,<-e];decide);rw[this,kH,nl]
 rw[<-h2] at a;have h3:=l9 (bA xs)<|2^s;have h4:bA out*2^s=bA xs / 2^s*2^s:=by rw[a,kI<|bA xs / 2^s];omega
 exact sA (by omega) h4
theorem Rk {q:Option Addr} (s:Nat) (a:s<=15):
  cN 127 #[.slice q 0 cap,.int .i64 s] w λe w'=>e=.returned (.slice none 0 0)/\w'=w:=by
 have hq:(s:Int).tdiv 16=0:=by rw[nk<|by omega];omega
 go_enter func127,ntmps127;go_wp2;go_ret;exact⟨rfl,rfl⟩
theorem Rl (s:Nat) (af:s<=15) (ad:0<xs.length) (aF:xs.length<=cap) (N:bI xs) (lx:xs.length<=274877906944) (O:b<w.1.size)
  (P:∀i,i<xs.length->w.cell? ⟨b,o+i,none⟩=some (.int .u32<|xs.getD i 0)):
  cN 127 #[.slice (some ⟨b,o,none⟩) xs.length cap,.int .i64 s] w λe w'=>∃r out,e=.returned r/\Sr xs s xs.length out/\OwR w' w.1.size r (bE out)/\Below w.1.size w w':=by
 obtain⟨I,hi,F,G,H⟩:=mE (show(prog.info? 120).map (λi=>(i.zero,i.size,i.bytes))=some (some<|.int .u32 0,1,4) by kernel_rfl);have hq:(s:Int).tdiv 16=0:=by rw[nk<|by omega];omega
 have Q:(s:Int).tmod 16=s:=by rw[nR<|by omega];omega
 have M:=bC P;have y:Hid (bI xs):=N;have ai:¬(xs=[]):=λh=>by simp[h] at ad
 have ag:¬(s:Int)<0:=by omega
 clear P N;go_enter func127,ntmps127;go_wp2_with (at_make;refine qV _ rfl _ _ 78 rfl w.1.size 120 I (.int .u32 0) 1 underlying78 hi F G .i64 .i64 _ xs.length rfl rfl rfl (by rw[H];omega) (by unfold maxLen;omega) (kF _) ?_;intro w1 L K);have J:Below w.1.size w w1:=(kE _ _).grown K (kF _) λg j=>by cases j
 go_loopw [5,26] (λt5 i wr=>∃(k:Nat) (out:List Int),k<=xs.length/\i=.int .i64 k/\wr.ownsRow w.1.size 120 1 t5 k (out.map<|Value.int .u32)/\Hid (Sr xs s k out)/\Below w.1.size w wr) (λ_ i _=>xs.length - (intOf i).toNat)
 case atStart=>exact⟨0,[],kL _,rfl,L,Sr.zero xs s,J⟩
 case round=>
  clear L K J;obtain⟨k,out,hk,rfl,f,l,d⟩:=hrel;have R:=d.size;by_cases ac:k<xs.length
  .have am:(k:Int)<(xs.length:Int):=(by omega);have cc:wr.cell? ⟨b,o+k,none⟩=some (.int .u32<|xs.getD k 0):=fg d O<|M.out k ac;have S:=y.out k;have T:=y.out<|k+1;have a:=l.out.step y.out af;obtain⟨X,Z⟩:∃X,Hid (xs.getD k 0=X):=⟨_,rfl⟩;obtain⟨Y,A⟩:∃Y,Hid (xs.getD (k+1) 0=Y):=⟨_,rfl⟩;rw[Z.out] at cc S a;rw[A.out] at T a;obtain⟨x0,x1⟩:=S;obtain⟨y0,y1⟩:=T;unfold FB at a;have C:0<=(X+Y*65536) / 2^s:=mt (by omega) (by have:=i7 s;omega);have E:(X+Y*65536) / 2^s<=X+Y*65536:=pI _ (by omega);by_cases ab:k+1<xs.length
   .have W:(k:Int)+1<(xs.length:Int):=(by omega);have c2:wr.cell? ⟨b,o+(k+1),none⟩=some (.int .u32 Y):=(by rw[<-A.out];exact(fg d O<|M.out (k+1) ab));obtain⟨D,z⟩:∃D,(X+Y*65536) / 2^s=D:=⟨_,rfl⟩;rw[z] at a C E;have m:Hid (Sr xs s (k+1)<|out++[D % 65536]):=a;clear a;go_wp2_with (at_builtin;refine lm _ rfl _ _ 78 rfl w.1.size 120 I (.int .u32 0) 1 4 underlying78 hi F G H rfl (by decide) _ _ _ rfl (f.alloc _) ⟨wr.1.size,0,none⟩ 1 1 [.int .u32<|D % 65536] rfl rfl (World.news_of_block<|kR wr<|.cells #[.int .u32<|D % 65536] 120) (mG .u32 [D % 65536]) (by unfold maxLen;omega) (by omega) (by simp;omega) ?_;intro v' w2 x t _);go_roundw
    case rel=>exact⟨k+1,out++[D % 65536],by omega,by go_num,by rw[lN];exact x,m,(d.alloc R _).grown t (by simp;omega) λg j=>(f.lt g j).1⟩
    case measure=>simp[intOf];omega
   have W:¬(k:Int)+1<(xs.length:Int):=(by omega);have aa:Y=0:=(by rw[<-A.out];simp[List.getD,lP (by omega:xs.length<=k+1)]);subst aa;rw[qg,mR] at C E a;obtain⟨D,z⟩:∃D,X / 2^s=D:=⟨_,rfl⟩;rw[z] at a C E;have m:Hid (Sr xs s (k+1)<|out++[D % 65536]):=a;clear a;go_wp2_with (at_builtin;refine lm _ rfl _ _ 78 rfl w.1.size 120 I (.int .u32 0) 1 4 underlying78 hi F G H rfl (by decide) _ _ _ rfl (f.alloc _) ⟨wr.1.size,0,none⟩ 1 1 [.int .u32<|D % 65536] rfl rfl (World.news_of_block<|kR wr<|.cells #[.int .u32<|D % 65536] 120) (mG .u32 [D % 65536]) (by unfold maxLen;omega) (by omega) (by simp;omega) ?_;intro v' w2 x t _);go_roundw
   case rel=>exact⟨k+1,out++[D % 65536],by omega,by go_num,by rw[lN];exact x,m,(d.alloc R _).grown t (by simp;omega) λg j=>(f.lt g j).1⟩
   case measure=>simp[intOf];omega
  obtain rfl:k=xs.length:=(by omega);have V:=l.out.len;have ae:OwR wr w.1.size u5 out:=(by unfold OwR;rw[V];exact f);obtain⟨r,U,Q⟩:=MD ae l.out.dig (by omega);go_wp2_with (go_at_call 109;refine U.mono ?_;rintro e w9 ⟨rfl,rfl⟩);go_ret;exact⟨r,out,rfl,l.out,Q,d⟩
theorem Rm (A:Sl16 w v xs) (D:xs.length<=274877906944) (s:Nat) (d:s<=15):
  cN 127 #[v,.int .i64 s] w λe w'=>∃r zs,e=.returned r/\Sl16 w' r zs/\bD zs/\bA zs=bA xs / 2^s/\Below w.1.size w w':=by
 obtain⟨a,_,q,cap,rfl,i,C⟩:=A;by_cases h0:xs=[]
 .subst h0;refine(Rk s d).mono ?_;rintro e w' ⟨rfl,rfl⟩;exact⟨_,[],rfl,⟨a,by simp,none,0,rfl,kF _,.inl rfl⟩,λm y=>by simp at y,by simp[bA],kE _ _⟩
 rcases C with h | ⟨b,o,rfl,l,x⟩
 .exact absurd h h0
 have j:0<xs.length:=lG.2 h0;refine(Rl s d j i a D l x).mono ?_;rintro e w' ⟨r,out,rfl,f,z,t⟩;have E:=ed out;have F:=fp out out.length;have G:=f.len;exact⟨r,bE out,rfl,z.sl (uK f.dig)<|by omega,jH _,by rw[o4];exact f.done a d,t⟩
theorem GS:∀(xs:List Int) (k:Nat),k<xs.length->bA (xs.drop k)=xs.getD k 0+65536*bA (xs.drop<|k+1)
 | [],k,h=>by simp at h
 | x::l,0,h=>by simp[bA]
 | x::l,k+1,h=>by have:=GS l k (by simpa using h);simpa using this
theorem JA:∀(l:List Int) (i:Nat) (d:Int),(l.set i d).drop (i+1)=l.drop (i+1)
 | [],_,_=>by simp
 | x::l,0,d=>by simp
 | x::l,i+1,d=>by simpa using JA l i d
structure Sm (xs:List Int) (B:Int) (k:Nat) (os:List Int) (r:Int):Prop where
 len:os.length=xs.length
 dig:bI os
 r0:0<=r/\r<B
 eq:bA (xs.drop k)=B*bA (os.drop k)+r
theorem Sm.zero (xs:List Int) {B:Int} (a:0<B):Sm xs B xs.length (List.replicate xs.length 0) 0:=by
 refine⟨by simp,λj=>?_,⟨by decide,a⟩,?_⟩
 .have:(List.replicate xs.length (0:Int)).getD j 0=0:=by simp only[ll,nK];split<;>rfl
  rw[this];omega
 rw[sL,pQ<|by simp];simp[bA]
theorem Sm.step {os:List Int} {B r S:Int} (h:Sm xs B (k+1) os r) (a:k<xs.length) (e:bI xs) (j:S=r*65536+xs.getD k 0):Sm xs B k (os.set k<|S / B) (S % B):=by
 have x:=h.r0;have d:0<B:=by omega
 have y:=e k;have f:0<=S:=by omega
 have l:=mt f (by omega:0<=B);have m:S / B<65536:=lU d (by omega);refine⟨by simp[h.len],Fg h.dig<|by omega,⟨nt _<|by omega,mg _ d⟩,?_⟩;have t:=l9 S B;have i:=h.eq;rw[GS xs k a,GS (os.set k<|S / B) k<|by simp[h.len,a],Dd<|by rw[h.len];exact a,JA,i,lT,lT,<-kH,<-kH,kI 65536 B];omega
theorem Ro (B:Int) (Z:1<=B) (aa:B<=65535) (z:bI xs) (lx:xs.length<=274877906944) (Q:b<w.1.size)
  (C:∀i,i<xs.length->w.cell? ⟨b,o+i,none⟩=some (.int .u32<|xs.getD i 0)):
  cN 124 #[.slice (some ⟨b,o,none⟩) xs.length cap,.int .u32 B] w λe w'=>∃r os rest,e=.returned (.tuple #[r,.int .u32 rest])/\Sm xs B 0 os rest/\Sl16 w' r (bE os)/\Below w.1.size w w':=by
 obtain⟨V,hi,F,G,H⟩:=mE (show(prog.info? 120).map (λi=>(i.zero,i.size,i.bytes))=some (some<|.int .u32 0,1,4) by kernel_rfl);have N:=bC C;have A:Hid (bI xs):=z;clear C z;go_enter func124,ntmps124;go_wp2_with (at_make;refine nM _ rfl _ _ 78 rfl w.1.size 120 V (.int .u32 0) 1 underlying78 hi F G _ _ _ _ xs.length rfl rfl (by omega) (by omega) (by rw[H];omega) (by unfold maxLen;omega) (kF _) ?_);intro I y x;have K:Blk I w.1.size (List.replicate xs.length 0):=zz y;have L:Below w.1.size w I:=(kE _ _).grown x (kF _) (λ_ h=>by cases h);clear y x hi F G H;go_wp2
 go_loopw [7,8] (λW i wr=>∃(k:Nat) (os:List Int) (r:Int),k<=xs.length/\i=.int .i64 ((k:Int) - 1)/\W=.int .u32 r/\0<=r/\r<B/\Hid (Sm xs B k os r)/\Blk wr w.1.size os/\Below w.1.size w wr) (λ_ i _=>(intOf i+1).toNat)
 case atStart=>exact⟨xs.length,_,0,kF _,rfl,rfl,by omega,by omega,Sm.zero xs<|by omega,K,L⟩
 case round=>
  obtain⟨k,os,r,t,rfl,rfl,r0,r1,a,f,m⟩:=hrel
  match k,t,a with
  | 0,t,a=>
   have d:=a.out.len;have M:=C2 w.1.size 0 xs.length xs.length os wr (λi hi=>by simpa using f.cell (by rw[d];exact hi)) (kF _)<|by omega
   have D:Sl16 wr (.slice (some ⟨w.1.size,0,none⟩) (bK os xs.length) xs.length) (bE os):=by
    have h1:=ed os;have h2:=fp os xs.length;rw[d] at h1;refine⟨uK a.out.dig,by omega,some ⟨w.1.size,0,none⟩,xs.length,by rw[h1],by omega,.inr ⟨w.1.size,0,rfl,?_,λi hi=>?_⟩⟩
    .unfold Blk at f;exact(kG.1 f).1
    rw[zD _ _ hi];simpa using f.cell (j:=i) (by rw[d];omega)
   have U:=bC D;clear d D;go_wp2_with (go_at_call 109;refine M.mono ?_;rintro e w9 ⟨rfl,rfl⟩);go_ret2;exact⟨_,os,r,rfl,a.out,U.out,m⟩
  | k+1,t,a=>
   have e1:((k+1:Nat):Int) - 1=(k:Int):=(by omega);rw[e1];have d:=a.out.len;have c1:wr.cell? ⟨b,o+k,none⟩=some (.int .u32<|xs.getD k 0):=fg m Q (N.out k<|by omega);have ad:=f.frozen k;have c2:wr.cell? ⟨w.1.size,k,none⟩=some (.int .u32<|os.getD k 0):=f.cell (by rw[d];omega);generalize os.getD k 0=Y at c2;have E:=A.out k;have l:=a.out.step (S:=r*65536+xs.getD k 0) (by omega) A.out rfl;generalize P:xs.getD k 0=X at c1 E l;obtain⟨x0,x1⟩:=E;have ae:(k:Int)<(xs.length:Int):=(by omega);have O:0<=r*65536+X:=(by omega);have ab:=mt O (by omega:0<=B);have ac:(r*65536+X) / B<65536:=lU (by omega) (by omega);have R:=nt (r*65536+X) (by omega:B≠0);have T:=mg (r*65536+X) (by omega:0<B);have J:Hid (Sm xs B k (os.set k<|(r*65536+X) / B)<|(r*65536+X) % B):=l;clear l d P e1;go_wp2;go_roundw
   case rel=>exact⟨k,_,_,by omega,by go_num,rfl,R,T,J,f.set _ _,m.setCell (p:=⟨w.1.size,k,none⟩) (kF _) _⟩
   case measure=>simp[intOf]
theorem xO (A:Sl16 w v xs) (y:xs≠[]) (D:xs.length<=274877906944) (B:Int) (j:1<=B) (l:B<=65535):
  cN 124 #[v,.int .u32 B] w λe w'=>∃r zs,e=.returned (.tuple #[r,.int .u32<|bA xs % B])/\Sl16 w' r zs/\bD zs/\bA zs=bA xs / B/\Below w.1.size w w':=by
 obtain⟨i,_,q,cap,rfl,E,C⟩:=A
 rcases C with h | ⟨b,o,rfl,m,x⟩
 .exact absurd h y
 refine(Ro B j l i D m x).mono ?_;rintro e w' ⟨r,os,rest,rfl,f,z,t⟩;have d:=f.eq;have a:=f.r0;simp only[qI] at d;have h1:bA xs / B=bA os:=by rw[d,sM,pK _ _<|by omega,mY a.1 a.2,qY]
 have h2:bA xs % B=rest:=by rw[d,sM,nl,pm a.1 a.2]
 exact⟨r,bE os,by rw[h2],z,jH _,by rw[o4,h1],t⟩
theorem Sl16.form (h:Sl16 w v xs):∃q cap,v=.slice q xs.length cap:=by obtain⟨_,_,q,cap,rfl,_⟩:=h;exact⟨q,cap,rfl⟩
theorem MF {a b:List Int} (d:bI a) (e:bI b):bI (a++b):=λj=>by
 by_cases h:j<a.length
 .have:=d j
  rwa [show (a++b).getD j 0=a.getD j 0 by simp[List.getD,lW h]]
 have:=e<|j - a.length
 rwa [show (a++b).getD j 0=b.getD (j - a.length) 0 by simp[List.getD,mz (by omega:a.length<=j)]]
theorem GT {a:Nat} (h:a<=b):(65536:Int)^a<=65536^b:=by
 obtain⟨d,rfl⟩:∃d,b=a+d:=⟨b - a,by omega⟩;rw[mw];have:=lr (by have:=uM d;omega:(1:Int)<=65536^d) (by have:=uM a;omega:(0:Int)<=65536^a)
 rwa [qC] at this
theorem GU {p c v:Int} (d:0<p) (a:0<=c) (hv:p*c<=v) (h:v<p):c=0:=by
 rcases (by omega:c=0\/1<=c) with h1 | h1
 .exact h1
 have:=lr h1 (by omega:0<=p);omega
theorem Di (d:bI xs) (e:bI ys) (a:bD xs) (h:bA xs<=bA ys):xs.length<=ys.length:=by
 rcases kS ys.length xs.length with h1 | h1
 .have:=Jz e d a h1;omega
 exact h1
structure Dv (u0 vs:List Int) (k:Nat) (us q:List Int):Prop where
 len:us.length=u0.length
 dig:bI us
 qlen:q.length+vs.length=u0.length
 qdig:bI q
 qz:∀i,i<k->q.getD i 0=0
 eq:bA us+bA vs*bA q=bA u0
 top:bA (us.drop k)<bA vs
theorem Dv.window (h:Dv u0 vs (k+1) us q) (f:k<q.length) (dv:bI vs):
  bA us=bA (us.take k)+65536^k*bA ((us.drop k).take<|vs.length+1)/\bA (us.drop<|k+(vs.length+1))=0/\bA ((us.drop k).take<|vs.length+1)<bA vs*65536:=by
 have hq:=h.qlen;have i:=h.len;have h1:=GS us k (by omega);have h2:=(h.dig k);have h3:=h.top;have d:us.drop k=(us.drop k).take (vs.length+1)++us.drop (k+(vs.length+1)):=by rw[<-rY];exact(lS _ _).symm
 have e:((us.drop k).take<|vs.length+1).length=vs.length+1:=by rw[lD,nN];omega
 have h4:bA (us.drop k)=bA ((us.drop k).take<|vs.length+1)+65536^(vs.length+1)*bA (us.drop<|k+(vs.length+1)):=by
  conv=>lhs;rw[d]
  rw[BM,e]
 have c0:=gD<|Dc h.dig<|k+(vs.length+1);have w0:=gD<|uV (Dc h.dig k)<|vs.length+1;have hv:=ux dv;have a:bA (us.drop<|k+(vs.length+1))=0:=by refine GU (uM<|vs.length+1) c0 (v:=bA<|us.drop k) (by omega) ?_;rw[lH];omega
 have h5:bA us=bA (us.take k)+65536^k*bA (us.drop k):=by
  conv=>lhs;rw[<-lS k us]
  rw[BM,lD,lR<|by omega]
 rw[a,nY,mR] at h4;exact⟨by rw[h5,h4],a,by omega⟩
theorem Dv.step {W:List Int} (h:Dv u0 vs (k+1) us q) (d:k<q.length) (dv:bI vs) (hv:0<bA vs) (l:W.length=vs.length+1) (j:bI W)
  (a:bA W=bA ((us.drop k).take<|vs.length+1) % bA vs):
  Dv u0 vs k (us.take k++W++us.drop (k+(vs.length+1))) (q.set k<|bA ((us.drop k).take<|vs.length+1) / bA vs):=by
 obtain⟨h1,h2,h3⟩:=h.window d dv;have hq:=h.qlen;have z:=h.len;have w0:=gD<|uV (Dc h.dig k)<|vs.length+1;generalize x:bA ((us.drop k).take<|vs.length+1)=X at*;have m:0<=X / bA vs:=mt w0 (by omega);have y:X / bA vs<65536:=lU hv (by rwa [kI] at h3);have r:=l9 X<|bA vs;have t:=mg X hv;have f:(us.take k).length=k:=by rw[lD,lR<|by omega]
 have e:=GE q k (X / bA vs) d;rw[h.qz k<|by omega,sI] at e;refine⟨?_,MF (MF (uV h.dig k) j)<|Dc h.dig _,by simpa using hq,Fg h.qdig ⟨m,by omega⟩,λi hi=>?_,?_,?_⟩
 .rw[kY,kY,f,l,nN];omega
 .rw[FA<|by omega];exact h.qz i<|by omega
 .have he:=h.eq;rw[mJ,BM,BM,h2,nY,mR,f,a,e,<-he,h1,lT];have e1:65536^k*X=65536^k*(X % bA vs)+bA vs*(X / bA vs*65536^k):=by have:bA vs*(X / bA vs*65536^k)=65536^k*(bA vs*(X / bA vs)):=(by rw[<-kH,kI]);rw[this,<-lT,r]
  omega
 rw[mJ,qD<|by omega,pQ<|by omega,mL,BM,h2,nY,mR,a];exact t
theorem Dv.zero (d:Lq+vs.length=u0.length) (du:bI u0) (ht:bA (u0.drop Lq)<bA vs):Dv u0 vs Lq u0 (List.replicate Lq 0):=by
 have a:∀j,(List.replicate Lq (0:Int)).getD j 0=0:=λj=>by simp only[ll,nK];split<;>rfl
 refine⟨rfl,du,by simpa using d,λj=>by rw[a];omega,λi _=>a i,?_,ht⟩
 have hv:∀n:Nat,bA (List.replicate n 0)=0:=by
  intro n
  induction n with
  | zero=>rfl
  | succ n e=>simp[nV,bA,e]
 rw[hv,nY,mR]
theorem Dv.done (h:Dv u0 vs 0 us q) (hv:0<bA vs) (dv:bI vs) (e:vs.length<=us.length):bA q=bA u0 / bA vs/\bA (us.take vs.length)=bA u0 % bA vs:=by
 have ht:=h.top;have d:=h.eq;rw[qI] at ht;have h0:=gD h.dig
 have a:bA us=bA (us.take vs.length)+65536^vs.length*bA (us.drop vs.length):=by
  conv=>lhs;rw[<-lS vs.length us]
  rw[BM,lD,lR e]
 have f:bA (us.drop vs.length)=0:=by
  refine GU (uM vs.length) (gD<|Dc h.dig _) (v:=bA us) ?_ ?_
  .have:=gD<|uV h.dig vs.length;omega
  have:=ux dv;omega
 rw[f,nY,mR] at a;rw[<-d,<-a];refine⟨?_,?_⟩
 .rw[pK _ _<|by omega,mY h0 ht,qY]
 rw[nl,pm h0 ht]
theorem Rp (d:Sl16 w v xs) (f:Sl16 w u ys) (C:bD xs) (D:bD ys) (r:ys≠[]) (l:bA xs<bA ys):
  cN 88 #[v,u] w λe w'=>∃t x,e=.returned (.tuple #[t,x])/\Sl16 w' t []/\Sl16 w' x xs/\Below w.1.size w w':=by
 have y:=Fz d f C D;obtain⟨q,cap,rfl⟩:=d.form;obtain⟨q2,L,rfl⟩:=f.form;have O:((ys.length:Int)==0)=false:=by have:ys.length≠0:=λh=>r<|kM h;simp;omega
 have J:=d.2.1;have m:=bC d;have z:Hid (bA xs<bA ys):=l;clear d f r l;go_enter func88,ntmps88
 go_wp2_with (first
  | (go_at_call 79;refine y.mono ?_;rintro e a ⟨c,rfl,G,M,i⟩
     have N:c<0:=G.2 z.out
     have I:=(m.out.below i).below<|cU a<|.cells #[] 120)
  | (at_builtin;refine GQ rfl _ _ rfl a.1.size (.slice (some ⟨a.1.size,0,none⟩) 0 0) 0 [] rfl (GR a) xs (.slice q xs.length cap) rfl I (by omega) (by simp) ?_;intro K w2 A E))
 go_ret2;have F:Below a.1.size a w2:=(cU a _).grown E (by simp) (λg H=>by cases H;exact kF _);refine⟨_,K,rfl,⟨λj=>by simp[List.getD],by simp,none,0,rfl,kF _,.inl rfl⟩,?_,cV i F⟩;exact BT (base:=a.1.size) rfl (by simpa using A) m.out.1 J
theorem Rq (f:Sl16 w v xs) (i:Sl16 w u ys) (H:bD xs) (y:bD ys) (d:bA ys<=bA xs) (h1:ys.length=1) (W:xs.length<=274877906944):
  cN 88 #[v,u] w λe w'=>∃j D t rs,e=.returned (.tuple #[j,D])/\Sl16 w' j t/\bD t/\bA t=bA xs / bA ys/\Sl16 w' D rs/\bD rs/\bA rs=bA xs % bA ys/\Below w.1.size w w':=by
 have x:=Fz f i H y;have aa:=y 0 h1;have ab:=i.1 0;have r:bA ys=ys.getD 0 0:=by have:=De (m:=0) h1;rw[this];simp[bA]
 have C:xs≠[]:=by rintro rfl;simp only[bA] at d;omega
 obtain⟨q,cap,rfl⟩:=f.form;obtain⟨_,_,q2,Z,rfl,E,S⟩:=id i
 rcases S with h | ⟨b,o,rfl,I,A⟩
 .simp[h] at h1
 have c0:=A 0 (by omega);rw[r] at d ⊢;have l:=x;rw[r] at l;generalize ys.getD 0 0=B at*;rw[h1] at l E ⊢;have R:=bC f;have G:Hid (B<=bA xs):=d;have F:Hid (xs≠[]):=C;clear f i d C A r x;go_enter func88,ntmps88
 go_wp2_with (first
  | (go_at_call 79;refine l.mono ?_;rintro e Y ⟨c,rfl,K,ac,a⟩
     have ad:¬c<0:=λh=>(by have:=K.1 h;have:=G.out;omega);have c1:Y.cell? ⟨b,o,none⟩=some (.int .u32 B):=fg a I<|by simpa using c0
     have Q:=xO (R.out.below a) F.out W B (by omega)<|by omega)
  | (go_at_call 124;refine Q.mono ?_;rintro e w2 ⟨j,zs,rfl,T,U,V,J⟩
     have L:=nt (bA xs) (by omega:B≠0);have ae:=mg (bA xs) (by omega:0<B)
     have O:=Fy w2 (bA xs % B) L<|by omega)
  | (go_at_call 60;refine O.mono ?_;rintro e w3 ⟨X,os,rfl,M,N,P,af,z⟩))
 go_ret2;exact⟨j,X,zs,os,rfl,T.below z,U,V,M,N,P,a.trans<|(cV J z).mono a.size⟩
theorem Dj {Y:Int} (a:1<=Y) (h:Y*2^s<32768):s<15:=by
 rcases kS s 15 with h1 | h1
 .exact h1
 exfalso;have h2:2^15<=2^s:=pL (by decide) h1;have h3:(32768:Int)<=2^s:=by rw[show ((2:Int)^s)=((2^s:Nat):Int) by simp];omega
 have:=kO a (by omega:(0:Int)<=2^s);omega
theorem Rr {Y:Int} (h0:0<=Y) (h1:Y<=65535) (a:s<=15):0<=Y*2^s/\Y*2^s<=2147450880:=by
 have e:(2:Int)^s<=32768:=by have:2^s<=2^15:=pL (by decide) a;rw[show ((2:Int)^s)=((2^s:Nat):Int) by simp];omega
 have d:=i7 s;have h2:Y*2^s<=65535*2^s:=kO h1 (by omega);exact⟨nj h0<|by omega,by omega⟩
structure DivF (w2:World) (B gu:Nat) (v:Value) (xs ys vs zs:List Int) (s n Lq:Nat):Prop where
 sv:Sl16N gu w2 v vs
 blk:BlkP w2 gu (zs++[0])
 vl:vs.length=n+1
 zl:zs.length=n+Lq
 dv:bI vs
 dz:bI zs
 cv:bD vs
 vv:bA vs=bA ys*2^s
 vz:bA zs=bA xs*2^s
 gu:B<=gu
theorem Aq (a:bA ys<=bA xs) (vy:0<bA ys) (vv:bA vs=bA ys*2^s) (vz:bA zs=bA xs*2^s) (dv:bI vs) (dz:bI zs) (cv:bD vs):
  ∃n Lq,vs.length=n+1/\zs.length=n+Lq/\1<=Lq:=by
 have d:=i7 s;have h1:bA vs<=bA zs:=by rw[vv,vz];exact kO a<|by omega
 have h2:=Di dv dz cv h1;have h3:vs≠[]:=by rintro rfl;have:=pP vy d;simp only[bA] at vv;omega
 have h4:=lG.2 h3;exact⟨vs.length - 1,zs.length - (vs.length - 1),by omega,by omega,by omega⟩
theorem Dl {a r:World} {i h:Value} (j:Below w.1.size w a) (f:Below a.1.size a r) {o:Obj} {row:Option Nat}
  (y:w2.ownsRow a.1.size 120 1 i (zs.length+1) (zs.map (Value.int .u32)++[.int .u32 0])) (x:(r.alloc o).grownBy w2 row) (t:∀g,row=some g->a.1.size<=g) (sv:Sl16 a h vs)
  (F:bA ys<=bA xs) (vy:0<bA ys) (vv:bA vs=bA ys*2^s) (vz:bA zs=bA xs*2^s) (dv:bI vs) (dz:bI zs) (cv:bD vs) (K:vs.length<=ys.length+1) (J:zs.length<=xs.length+1):
  ∃gu e d Lq,i=.slice (some ⟨gu,0,none⟩) (zs.length+1) e/\d+Lq+1<=e/\d+1<=ys.length+1/\d+Lq<=xs.length+1/\1<=Lq/\Below w.1.size w w2/\Hid (DivF w2 w.1.size gu h xs ys vs zs s d Lq):=by
 have A:OwR w2 a.1.size i (zs++[0]):=by unfold OwR;rw[lN,kY];exact y
 obtain⟨gu,e,rfl,m,E,D⟩:=A.blk (by simp);have l:Below a.1.size a w2:=(f.alloc f.size _).grown x (by have:=f.size;simp;omega) t;have I:Sl16N gu w2 h vs:=sv.ne l m;have z:Below w.1.size w w2:=cV j l;obtain⟨d,Lq,G,H,C⟩:=Aq F vy vv vz dv dz cv;rw[kY,pV] at E;exact⟨gu,e,d,Lq,by simp,by omega,by omega,by omega,C,z,I,D,G,H,dv,dz,cv,vv,vz,kJ j.size m⟩
theorem Sav.setFresh {a:World} (h:Sav g w a) {p:Addr} (f:w.1.size<=p.block) (u:Value):Sav g w (a.setCell p u):=
 ⟨h.os,h.tape,h.output,by simpa [World.setCell] using h.size,λk e d=>(mr _ _ _ _<|by omega).trans<|h.block k e d⟩
theorem BlkP.setOther (h:BlkP w g xs) {p:Addr} (d:p.block≠g) (u:Value):BlkP (w.setCell p u) g xs:=by obtain⟨a,h1,h2⟩:=h;exact⟨a,(mr _ _ _ _<|by omega).trans h1,h2⟩
theorem Blk.sav {w':World} {a:Nat} (h:Blk w a q) (e:Sav gu w w') (d:a≠gu):Blk w' a q:=by unfold Blk at h ⊢;rw[e.block a (kG.1 h).1 d];exact h
theorem Blk.sl (h:Blk w g q) (dq:bI q) (a:q.length<=549755813888):Sl16 w (.slice (some ⟨g,0,none⟩) q.length q.length) q:=by refine⟨dq,a,_,_,rfl,kF _,.inr ⟨g,0,rfl,?_,λi hi=>by simpa using h.cell hi⟩⟩;unfold Blk at h;exact(kG.1 h).1
theorem MG (hu:Sl16 w (.slice (some ⟨g,o,none⟩) n cap) us) (j:us.length=n) (m:0<n):∀z,Below w.1.size w z->
  cN 109 #[.slice (some ⟨g,o,none⟩) n cap] z (λe w'=>e=.returned (.slice (some ⟨g,o,none⟩) (bK us n) cap)/\w'=z)/\Sl16 z (.slice (some ⟨g,o,none⟩) (bK us n) cap) (bE us):=by
 subst j;intro z x;obtain⟨d,l,q,cap',e,h,t⟩:=hu.below x;cases e;have r:(bE us).length=bK us us.length:=ed us;have y:=fp us us.length
 rcases t with rfl | ⟨b,o',e,f,a⟩
 .simp at m
 cases e;refine⟨C2 g o us.length cap us z a h<|by omega,uK d,by omega,some ⟨g,o,none⟩,cap,by rw[r],by omega,.inr ⟨g,o,rfl,f,λi hi=>?_⟩⟩;rw[zD _ _ hi];exact a i<|by omega
theorem DivF.vpos (h:DivF w2 B gu v xs ys vs zs s n Lq):0<vs.getD n 0/\65536^n<=bA vs:=by have h1:=h.cv n h.vl;have h2:=h.dv n;have h3:=De h.vl;have h4:=gD<|uV h.dv n;have h5:=kO (by omega:1<=vs.getD n 0) (by have:=uM n;omega:(0:Int)<=65536^n);exact⟨by omega,by omega⟩
theorem xP (h:DivF w2 B gu v xs ys vs zs s n Lq):Dv (zs++[0]) vs Lq (zs++[0]) (List.replicate Lq 0):=by have a:=h.zl;have hv:=h.vl;refine Dv.zero (by simp;omega) (xJ h.dz<|by omega) ?_;have h1:=h.vpos.2;have h2:=ux<|Dc h.dz Lq;rw[nN,a,pT] at h2;rw[qD<|by omega,xK];omega
theorem xQ {wr:World} (h:DivF w2 B gu v xs ys vs zs s n Lq) (L:k<Lq) (a:Dv (zs++[0]) vs (k+1) us q) (j:BlkP wr gu us) (E:Sav gu w2 wr)
  (l:n+2<=cap) (C:n+2<=274877906944) (K:Lq<=549755813888):
  ∃d:Int,(0<=d/\d<=65535)/\cN 126 #[.slice (some ⟨gu,k,none⟩) (n+2) cap,v] wr λe w'=>e=.returned (.int .u32 d)/\∃i,BlkP w' gu i/\Dv (zs++[0]) vs k i (q.set k d)/\Sav gu wr w':=by
 have O:=h.zl;have hv:=h.vl;have D:=a.qlen;have G:=a.len;rw[kY,pV] at D G;have t:=h.vpos;have N:=uM n;obtain⟨_,_,h3⟩:=a.window (by omega) h.dv;have H:us=us.take k++(us.drop k).take (vs.length+1)++us.drop (k+(vs.length+1)):=by rw[mJ,<-rY,lS,lS]
 have J:((us.drop k).take<|vs.length+1).length=n+2:=by rw[lD,nN];omega
 have f:=uV (Dc a.dig k)<|vs.length+1;have w0:=gD f;rw[H] at j;have x:=xN (cap:=cap) (by rw[lD,lR<|by omega]:(us.take k).length=k) J hv j f (h.sv.sav E) t.1 h3 l C (by omega);have m:=λW y f r=>a.step (W:=W) (by omega) h.dv (by omega) y f r;refine⟨bA ((us.drop k).take<|vs.length+1) / bA vs,⟨mt w0<|by omega,?_⟩,x.mono ?_⟩
 .have:=lU (by omega:0<bA vs) (by rwa [kI] at h3);omega
 rintro e w' ⟨i,rfl,M,A,I,z,F⟩;exact⟨rfl,_,z,m i (by omega) A I,F⟩
theorem Dm {wr:World} {i:Nat} (h:DivF w2 B gu v xs ys vs zs s n Lq) (a:Dv (zs++[0]) vs 0 us q) (C:BlkP wr gu us) (hq:Blk wr i q) (I:s<=15)
  (J:n+1<=cap) (N:n+2<=274877906944) (L:Lq<=549755813888) (M:1<=Lq):
  ∃x y,(∀z,Below wr.1.size wr z->cN 109 #[.slice (some ⟨i,0,none⟩) Lq Lq] z (λe w'=>e=.returned x/\w'=z)/\Sl16 z x (bE q))/\bA (bE q)=bA xs / bA ys/\
   (∀z,Below wr.1.size wr z->cN 109 #[.slice (some ⟨gu,0,none⟩) (n+1) cap] z (λe w'=>e=.returned y/\w'=z))/\
   (∀z,Below wr.1.size wr z->cN 127 #[y,.int .i64 s] z λe w'=>∃f rs,e=.returned f/\Sl16 w' f rs/\bD rs/\bA rs=bA xs % bA ys/\Below z.1.size z w'):=by
 have d:=h.zl;have hv:=h.vl;have F:=a.qlen;have H:=a.len;rw[kY,pV] at F H;have K:=h.vpos;have O:=uM n;have h2:=i7 s;obtain⟨e1,e2⟩:=a.done (by omega) h.dv (by omega);rw[xK,qg,mR,h.vv,h.vz] at e1 e2;rw[rZ _ _ h2] at e1;rw[kI<|bA xs,kI<|bA ys,sR _ _ h2] at e2;have t:q.length=Lq:=by omega
 have l:=hq.sl a.qdig (by omega);rw[t] at l;have E:=uV a.dig<|n+1;rw[hv] at e2;have r:(us.take<|n+1).length=n+1:=by rw[lD,lR<|by omega]
 have D:BlkP wr gu ([]++us.take (n+1)++us.drop (n+1)):=by rw[mL,lS];exact C
 have m:=D.sl (cap:=cap) E (by omega) (by omega);rw[r] at m;obtain G:=MG l t (by omega);obtain j:=MG m r (by omega);refine⟨_,_,G,by rw[o4,e1],λz d=>(j z d).1,λz d=>?_⟩;refine(Rm (j z d).2 (by have:=fp (us.take<|n+1) (us.take<|n+1).length;rw[ed];omega) s I).mono ?_;rintro e w' ⟨f,rs,rfl,h5,h6,h7,A⟩;refine⟨f,rs,rfl,h5,h6,?_,A⟩;rw[h7,o4,e2,qZ _<|by omega]
theorem Rs (x:Sl16 w v xs) (j:Sl16 w u ys) (F:bD xs) (r:bD ys) (J:bA ys<=bA xs) {m:Nat} (h1:ys.length=m+2) (lx:xs.length<=274877906000):
  cN 88 #[v,u] w λe w'=>∃C M a rs,e=.returned (.tuple #[C,M])/\Sl16 w' C a/\bD a/\bA a=bA xs / bA ys/\Sl16 w' M rs/\bD rs/\bA rs=bA xs % bA ys/\Below w.1.size w w':=by
 obtain⟨i0,hi,ak,am,an⟩:=mE (show(prog.info? 120).map (λi=>(i.zero,i.size,i.bytes))=some (some<|.int .u32 0,1,4) by kernel_rfl);have T:=Fz x j F r;have aC:=r (m+1) h1;have ae:=j.1<|m+1;have ny:ys≠[]:=by intro h;simp[h] at h1
 have vy:=xl j.1 r ny;have ap:=Di j.1 x.1 r J;obtain⟨q,cap,rfl⟩:=x.form;obtain⟨_,_,q2,ar,rfl,bL,a8⟩:=id j
 rcases a8 with h | ⟨b,o,rfl,hb,hc⟩
 .simp[h] at h1
 have c0:=hc (m+1) (by omega);have Z:=T;generalize ys.getD (m+1) 0=Y at*;have a6:=bC x;have a7:Hid (Sl16 w (.slice (some ⟨b,o,none⟩) (m+2) ar) ys):=by rw[h1] at j;exact j
 have cf:Hid (bA ys<=bA xs):=J;have aA:Hid (0<bA ys):=vy;have av:Hid (bD xs):=F;have aw:Hid (bD ys):=r;have gV:Hid (ys.length<=xs.length/\ys.length=m+2):=⟨ap,h1⟩;rw[h1] at Z bL ⊢;rw[h1] at ap;clear x j J hc T ny vy F r h1;go_enter func88,ntmps88
 go_wp2_with (go_at_call 79;refine Z.mono ?_;rintro e w1 ⟨c,rfl,a1,aD,af⟩
              have aF:¬c<0:=λh=>by have:=a1.1 h;have:=cf.out;omega)
 have S:Below w.1.size w w1:=af
 go_loopw [8] (λO wr=>∃s:Nat,O=.int .i64 s/\s<=15/\Below w.1.size w wr) (λO _=>16 - (intOf O).toNat)
 case atStart=>exact⟨0,rfl,by omega,S⟩
 case round=>
  clear S af;obtain⟨s,rfl,A,z⟩:=hrel;have c1:wr.cell? ⟨b,o+(m+1),none⟩=some (.int .u32 Y):=fg z hb c0;obtain⟨aW,aX⟩:=Rr ae.1 ae.2 A;by_cases a2:Y*2^s<32768
  .have hs2:=Dj (by omega) a2;go_wp2;go_roundw
   case rel=>exact⟨s+1,by go_num,by omega,z⟩
   case measure=>simp[intOf];omega
  have hV:=ME (a7.out.below z) aw.out (by rw[gV.out.2];omega) s A
  go_wp2_with (first
   | (go_at_call 125;with_reducible refine hV.mono ?_;rintro e D ⟨rv,vs,rfl,ov,dv,cv,vv,K,ag⟩
      have X:Below w.1.size w D:=cV z ag;have hU:=ME (a6.out.below X) av.out (by omega) s A;have sv:Sl16 D rv vs:=ov.sl dv<|by rw[gV.out.2] at K;omega
      obtain⟨qv,aB,rfl⟩:=sv.form)
   | (go_at_call 125;with_reducible refine hU.mono ?_;rintro e Q ⟨ru,zs,rfl,ou,du,cu,vu,lu,H⟩
      have L:Q.ownsRow D.1.size 120 1 ru zs.length (zs.map<|Value.int .u32):=ou)
   | (at_builtin;refine lm _ rfl _ _ 78 rfl D.1.size 120 i0 (.int .u32 0) 1 4 underlying78 hi ak am an rfl (by decide) _ _ _ rfl (L.alloc _) ⟨Q.1.size,0,none⟩ 1 1 [.int .u32 0] rfl rfl (World.news_of_block<|kR Q<|.cells #[.int .u32 0] 120) (mG .u32 [0]) (by unfold maxLen;omega) (by omega) (by have:=H.size;simp;omega) ?_;intro v' w2 W V _
      obtain⟨gu,l,f,Lq,rfl,aH,aZ,aY,ax,dH,hF⟩:=Dl X H W V (λg hg=>(L.lt g hg).1) sv cf.out aA.out vv vu dv du cv K lu;have ah:=hF.out.vl;have ao:=hF.out.zl;clear W V ag H ou L sv ov vv vu dv du cv cu hV hU K lu;rw[ah,ao]
      clear ah ao)
   | (at_make;refine nM _ rfl _ _ 78 rfl w2.1.size 120 i0 (.int .u32 0) 1 underlying78 hi ak am _ _ _ _ Lq rfl rfl (by omega) (by omega) (by rw[an];omega) (by unfold maxLen;omega) (kF _) ?_;intro P U E))
  have aa:Blk P w2.1.size (List.replicate Lq 0):=zz (by simpa [Value.cells] using U);have ab:BlkP P gu (zs++[0]):=hF.out.blk.below ((kE _ _).grown E (kF _) λ_ h=>by cases h);have ac:Sav gu w2 P:=Sav.of ((kE _ _).grown E (kF _) λ_ h=>by cases h);clear U E
  go_loopw [13] (λN R=>∃(k:Nat) (us a:List Int),k<=Lq/\N=.int .i64 ((k:Int) - 1)/\Hid (Dv (zs++[0]) vs k us a)/\BlkP R gu us/\Blk R w2.1.size a/\Sav gu w2 R) (λN _=>(intOf N+1).toNat)
  case atStart=>exact⟨Lq,_,_,kF _,by go_num,xP hF.out,ab,aa,ac⟩
  case round=>
   clear aa ab ac;obtain⟨k,us,a,I,rfl,t,hP,hB,y⟩:=hrel;have aT:gu<w2.1.size:=hF.out.blk.lt
   match k,I,t with
   | 0,I,t=>
    have aV:=y.size;have aI:f+1<=l:=(by omega);have aJ:(f:Int)+1<=(l:Int):=(by omega);have aK:f<l:=(by omega);have aL:(f:Int)<(l:Int):=(by omega);have aM:¬(l:Int)<(f:Int)+1:=(by omega);have aN:¬(f:Int)+1<0:=(by omega);have aO:0<=(f:Int)+1:=(by omega);have aP:((f:Int)+1).toNat=f+1:=(by omega);obtain⟨C,M,ai,aq,a4,a5⟩:=Dm (cap:=l) hF.out t.out hP hB A (by omega) (by omega) (by omega) ax;have a':=bC aq;clear aq;have a0:Below w.1.size w wr:=dH.trans<|y.below hF.out.gu dH.size;go_wp2
    go_region_held3 (λ_=>True) (exact trivial)
     (first
       | (go_at_call 109;with_reducible refine(ai _ ?_).1.mono ?_;exact(kE _ _).drew;rintro e w5 ⟨rfl,rfl⟩)
       | (go_at_call 109;with_reducible refine(a4 _ ?_).mono ?_;exact(kE _ _).drew;rintro e w6 ⟨rfl,rfl⟩)
       | (go_at_call 127;with_reducible refine(a5 _ ?_).mono ?_;exact(kE _ _).drew;rintro e w7 ⟨r3,rs,rfl,h5,h6,h7,h8⟩))
    all_goals
     have h9:Below wr.1.size wr w7:=(kE wr.1.size wr).drew.trans h8;go_wp2;go_ret2;exact⟨C,r3,bE a,rs,rfl,(ai _<|kE _ _).2.below h9,jH _,a'.out,h5,h6,h7,cV a0 h9⟩
   | k+1,I,t=>
    have e1:((k+1:Nat):Int) - 1=(k:Int):=(by omega);rw[e1];clear e1;have e2:k+(f+1)+1 - k=f+2:=(by omega);obtain⟨d,fP,dj⟩:=xQ (cap:=l - k) hF.out (by omega) t.out hP y (by omega) (by omega) (by omega);obtain⟨aQ,aR⟩:=fP;have aj:=hF.out.vl;rw[aj] at dj;clear aj
    go_wp2_with (go_at_call 126;with_reducible refine dj.mono ?_;rintro e w4 ⟨rfl,a9,ay,fQ,ad⟩
                 have G:=hB.sav ad (by omega);have a3:a.length=Lq:=(by have h1:=t.out.qlen;have h2:=hF.out.vl;have h3:=hF.out.zl;rw[kY,pV] at h1;omega);have c2:w4.cell? ⟨w2.1.size,k,none⟩=some (.int .u32<|a.getD k 0):=G.cell (by omega);have aS:=G.frozen k;generalize a.getD k 0=OK at c2
                 clear a3)
    go_roundw
    case rel=>exact⟨k,a9,a.set k d,by omega,by go_num,fQ,ay.setOther (by simp;omega) _,G.set _ _,(y.trans ad).setFresh (by simp) _⟩
    case measure=>simp[intOf]
theorem FC (d:Sl16 w v xs) (r:Sl16 w u ys) (a:bD xs) (i:bD ys) (x:ys≠[]) (A:xs.length<=274877906000):
  cN 88 #[v,u] w λe w'=>∃f h t rs,e=.returned (.tuple #[f,h])/\Sl16 w' f t/\bD t/\bA t=bA xs / bA ys/\Sl16 w' h rs/\bD rs/\bA rs=bA xs % bA ys/\Below w.1.size w w':=by
 have y:=gD d.1;by_cases j:bA xs<bA ys
 .refine(Rp d r a i x j).mono ?_;rintro e w' ⟨f,h,rfl,h1,h2,z⟩;exact⟨f,h,[],xs,rfl,h1,λm l=>by simp at l,by rw[mY y j];rfl,h2,a,by rw[pm y j],z⟩
 have C:=lG.2 x;by_cases h1:ys.length=1
 .exact Rq d r a i (by omega) h1 (by omega)
 obtain⟨m,l⟩:∃m,ys.length=m+2:=⟨ys.length - 2,by omega⟩;exact Rs d r a i (by omega) l A
def valAt (w:World) (v:Value):Nat:=
 match v with
 | .slice (some a) n _=>(bA ((List.range n).map λi=>match w.cell? ⟨a.block,a.off+i,none⟩ with | some (.int _ x)=>x | _=>0)).toNat
 | _=>0
theorem Sl16.valAt (h:Sl16 w v xs):valAt w v=(bA xs).toNat:=by
 obtain⟨_,_,q,cap,rfl,_,d⟩:=h
 rcases d with rfl | ⟨b,o,rfl,_,a⟩
 .cases q<;>simp[Go.Proofs.YthcfmhgihcjloaaGreatDoor.valAt,bA]
 unfold Go.Proofs.YthcfmhgihcjloaaGreatDoor.valAt;simp only[];congr 2;apply rp;intro i;by_cases hi:i<xs.length
 .rw[mI,rW hi];simp only[qW];rw[a i hi];simp[hi]
 simp[hi]
def cJ (a b:Int):Int:=(Nat.gcd a.toNat b.toNat:Nat)
theorem MH {a b:Int} (d:0<=a) (e:0<b):cJ b (a % b)=cJ a b:=by unfold cJ;rw[Int.toNat_emod d<|by omega,tA,<-Nat.gcd_rec,tA]
theorem MI {a:Int} (d:0<=a):cJ a 0=a:=by unfold cJ;simp;omega
theorem Rt (C:Sl16 w v xs) (E:Sl16 w u ys) (l:bD xs) (t:bD ys) (I:xs.length<=274877906000) (J:ys.length<=274877906000):
  cN 87 #[v,u] w λe w'=>∃r f,e=.returned r/\Sl16 w' r f/\bD f/\bA f=cJ (bA xs) (bA ys)/\f.length<=274877906000/\Below w.1.size w w':=by
 have D:Hid (Sl16 w v xs):=C;have F:Hid (Sl16 w u ys):=E;obtain⟨G,y⟩:∃G,Hid (cJ (bA xs) (bA ys)=G):=⟨_,rfl⟩;rw[y.out];have m:Hid (bD xs):=l;have x:Hid (bD ys):=t;clear C E l t;go_enter func87,ntmps87;go_wp2
 go_loopw [0,1,5,6] (λK j M N wr=>∃(sa d:List Int),Hid (Sl16 wr K sa/\Sl16 wr j d/\bD sa/\bD d/\cJ (bA sa) (bA d)=G)/\sa.length<=274877906000/\d.length<=274877906000/\Below w.1.size w wr) (λK j M N wr=>valAt wr j)
 case atStart=>exact⟨xs,ys,⟨D.out,F.out,m.out,x.out,y.out⟩,I,J,kE _ _⟩
 case round=>
  clear D F m x I J;obtain⟨sa,d,a,H,lb,A⟩:=hrel;obtain⟨q2,P,rfl⟩:=a.out.2.1.form;obtain⟨q1,O,rfl⟩:=a.out.1.form;by_cases i:d=[]
  .subst i;go_wp2;go_ret;have h:=a.out;have a0:=gD h.1.1;refine⟨_,sa,rfl,h.1,h.2.2.1,?_,H,A⟩;rw[<-h.2.2.2.2];exact(MI a0).symm
  have Q:0<d.length:=lG.2 i;have L:=FC a.out.1 a.out.2.1 a.out.2.2.1 a.out.2.2.2.1 i H;go_wp2_with (go_at_call 88;with_reducible refine L.mono ?_;rintro e w2 ⟨V,W,U,rs,rfl,h1,h2,h3,h4,h5,h6,z⟩);have a0:=gD a.out.1.1;have b0:=xl a.out.2.1.1 a.out.2.2.2.1 i;have S:=mg (bA sa) b0;have R:=nt (bA sa) (by omega:bA d≠0);have T:=Di h4.1 a.out.2.1.1 h5 (by omega);go_roundw
  case rel=>refine⟨d,rs,⟨a.out.2.1.below z,h4,a.out.2.2.2.1,h5,?_⟩,lb,by omega,cV A z⟩;rw[h6,MH a0 b0];exact a.out.2.2.2.2
  case measure=>rw[h4.valAt,a.out.2.1.valAt,h6];omega
