import Derived.Test.YthcfmhgihcjloaaGreatDoorGxF
import Derived.Test.YthcfmhgihcjloaaGreatDoorPk15
namespace Go.Proofs.YthcfmhgihcjloaaGreatDoor
open Go Go.RowKit Tryz
set_option maxRecDepth 100000
set_option maxHeartbeats 16000000
section
variable {w:World} {N t tx ty k m c1 e1:Nat} {v va vb:Value} {xs ns ds nu:List Int} {g:Bool} {n d X Y:Int} {q1 p1:Option Addr}
def FNew (w:World) (N:Nat):Prop:=w.1[N]?=some (.cells zC 147 (0,0))
theorem FNew.made (w:World):FNew (w.alloc<|.cells zC 147) w.1.size:=lK w _
theorem FNew.below {w':World} (h:FNew w N) (a:Below w.1.size w w'):FNew w' N:=by unfold FNew at h ⊢;rw[a.block N (kG.1 h).1];exact h
theorem FNew.c0 (h:FNew w N):w.cell? ⟨N,0,none⟩=some (.bool false):=by unfold FNew at h;simp[World.cell?,h]
end
theorem FNew.c1 {w:World} {N:Nat} (h:FNew w N):w.cell? ⟨N,1,none⟩=some (.slice none 0 0):=by unfold FNew at h;simp[World.cell?,h]
section
variable {w:World} {N t tx ty k m c1 e1:Nat} {v va vb:Value} {xs ns ds nu:List Int} {g:Bool} {n d X Y:Int} {q1 p1:Option Addr}
theorem FNew.c2 (h:FNew w N):w.cell? ⟨N,2,none⟩=some (.slice none 0 0):=by unfold FNew at h;simp[World.cell?,h]
theorem FNew.fr (h:FNew w N) (j:Nat):w.frozen? ⟨N,j,none⟩=false:=by unfold FNew at h;simp[World.frozen?,h]
theorem FNew.no (h:FNew w N) (j:Nat) (x:Int):w.cell? ⟨N,j,none⟩≠some (.int .u32 x):=by
 unfold FNew at h;simp only[World.cell?,h]
 match j with
 | 0=>simp
 | 1=>simp
 | 2=>simp
 | j+3=>simp
theorem Sl.notF (h:Sl w v xs) (i:FNew w N):SlN N w v xs:=by
 obtain⟨h1,h2,q,cap,h3,h4,h5⟩:=h;refine⟨h1,h2,q,cap,h3,h4,?_⟩;by_cases a:xs=[]
 .exact .inl a
 rcases h5 with h5 | ⟨b,o,e,j,f⟩
 .exact absurd h5 a
 refine .inr ⟨b,o,e,j,?_,f⟩;rintro rfl;exact i.no _ _<|f 0<|lG.2 a
theorem yn (h:FNew w N) (a b e:Value):(((w.setCell ⟨N,0,none⟩ a).setCell ⟨N,1,none⟩ b).setCell ⟨N,2,none⟩ e).rangeAt N 0 [a,b,e]/\Sav N w (((w.setCell ⟨N,0,none⟩ a).setCell ⟨N,1,none⟩ b).setCell ⟨N,2,none⟩ e):=by
 refine⟨λj v hv=>?_,((Sav.of<|kE _ _).setCell 0 a |>.setCell 1 b).setCell 2 e⟩
 match j,hv with
 | 0,hv=>simp only[mK,mc] at hv;subst hv;rw[lY _ _ _ _<|by simp,lY _ _ _ _<|by simp,nZ _ _ _ h.c0]
 | 1,hv=>simp only[pl,mK,mc] at hv;subst hv;rw[lY _ _ _ _<|by simp,nZ _ _ _<|by rw[lY _ _ _ _<|by simp];exact h.c1]
 | 2,hv=>simp only[pl,mK,mc] at hv;subst hv;rw[nZ _ _ _<|by rw[lY _ _ _ _<|by simp,lY _ _ _ _<|by simp];exact h.c2]
theorem uQ:∃d,prog.underlying 147=some d/\d.isRow=true:=⟨_,underlying147,rfl⟩
theorem Cb:(prog.info? 147).map (·.size)=some 3:=by kernel_rfl
theorem Cc {f e:World} {a b:Value} (l:w.1.size<=N) (h0:FNew f N) (i:Below w.1.size w f) (h:Below f.1.size f e) (o:Sl e a ns) (j:bD ns) (va:val ns=n) (q:Sl e b ds) (cb:bD ds) (vb:val ds=d) (r:ns.length<=274877906000) (lb:ds.length<=274877906000):
  Hid (FAt (((e.setCell ⟨N,0,none⟩<|.bool g).setCell ⟨N,1,none⟩ a).setCell ⟨N,2,none⟩ b) (.agg #[.bool g,a,b]) g n d/\Below w.1.size w (((e.setCell ⟨N,0,none⟩<|.bool g).setCell ⟨N,1,none⟩ a).setCell ⟨N,2,none⟩ b))/\
  (((e.setCell ⟨N,0,none⟩<|.bool g).setCell ⟨N,1,none⟩ a).setCell ⟨N,2,none⟩ b).rangeAt N 0 [.bool g,a,b]:=by
 have h1:=h0.below h;obtain⟨h2,h3⟩:=yn h1 (.bool g) a b;exact⟨⟨⟨a,b,ns,ds,rfl,((o.notF h1).sav h3).sl,j,va,((q.notF h1).sav h3).sl,cb,vb,r,lb⟩,(cV i h).trans<|h3.below l<|kJ i.size h.size⟩,h2⟩
theorem JU {a b:Nat} (h:a<=b):(2:Int)^a<=2^b:=by obtain⟨d,rfl⟩:∃d,b=a+d:=⟨b - a,by omega⟩;have e:=i7 a;have hq:=i7 d;rw[mw];have h2:(2:Int)^a*1<=2^a*2^d:=lr hq (by omega);omega
theorem TwosIs.some:∀(n:Nat),0<n->∃t,TwosIs (n:Int) t:=by
 intro n
 induction n using Nat.strongRecOn with
 | ind n ih=>
  intro h;by_cases h2:n % 2=1
  .exact⟨0,n / 2,by simp;omega⟩
  obtain⟨t,m,a⟩:=ih (n / 2) (by omega) (by omega);refine⟨t+1,m,?_⟩;rw[lH,Int.mul_right_comm,<-a];omega
theorem TwosIs.ex {x:Int} (h:0<x):∃t,TwosIs x t:=by obtain⟨n,rfl⟩:=lZ (by omega:0<=x);exact TwosIs.some n<|by omega
theorem M5 (h:Sl w v xs) (ht:TwosIs (val xs) t) (f:xs.length<=274877906944) (a:Tb w):
  t<=8796093022208->cN 214 #[v] w λe w'=>e=.returned (.int .i64 t)/\w'=w:=by
 intro _;refine(RL h ht.pos f a).mono ?_;rintro e w' ⟨s,rfl,b,_,rfl⟩;rw[b.unique ht];exact⟨rfl,rfl⟩
theorem TwosIs.le {x:Int} {n:Nat} (h:TwosIs x t) (a:x<2^n):t<n:=by
 obtain⟨m,rfl⟩:=h
 rcases kS t n with h | h
 .exact h
 obtain⟨d,rfl⟩:∃d,t=n+d:=⟨t - n,by omega⟩;have b:=i7 n;have hq:=i7 d;rw[mw,kH] at a;have h1:(1:Int)<=2^d*(2*(m:Int)+1):=pP hq (by omega);have h2:(2:Int)^n*1<=2^n*(2^d*(2*(m:Int)+1)):=lr h1 (by omega);omega
theorem M6 (a:cB xs):val xs<2^(32*xs.length):=by have h:=oW a;rw[sp];exact h
theorem TwosIs.lt (a:cB xs) (h:TwosIs (val xs) t):t<32*xs.length:=h.le<|M6 a
theorem M7 (e:TwosIs X tx) (f:TwosIs Y ty) (h:k=min tx ty):
  X / cJ X Y=X / 2^k / cJ (X / 2^k) (Y / 2^k)/\Y / cJ X Y=Y / 2^k / cJ (X / 2^k) (Y / 2^k)/\0<X / 2^k/\0<Y / 2^k/\TwosIs (X / 2^k) (tx - k)/\TwosIs (Y / 2^k) (ty - k):=by
 have h1:=e.div (k:=k) (by omega);have h2:=f.div (k:=k) (by omega);obtain⟨a,b,c,d⟩:=RE e.pos f.pos h1.1 h2.1;exact⟨a,b,c,d,h1.2,h2.2⟩
theorem AE {n:Nat} (j:TwosIs X tx) (l:TwosIs Y ty) (b:k=min tx ty) (h2:Y / 2^k<2^(n+1)) (a:ty - k=n):
  cJ (X / 2^k) (Y / 2^k)=1:=by
 obtain⟨_,_,c,d,e,f⟩:=M7 j l b;subst a;rw[f.pow h2];refine ye (by omega) ?_
 rcases mX (ty - k) with h | h
 .exact .inl h
 right;have:tx - k=0:=by omega
 rw[this] at e;obtain⟨m,i⟩:=e;exact⟨m,by simpa using i⟩
structure RedT (w:World) (va vb:Value) (ns ds:List Int) (X Y:Int) (t:Nat):Prop where
 sn:Sl w va ns
 sd:Sl w vb ds
 cn:bD ns
 cd:bD ds
 vn:val ns=X
 vd:val ds=Y
 px:0<X
 py:0<Y
 ln:ns.length<=274877906000
 ld:ds.length<=274877906000
 tw:TwosIs Y t
 tb:Tb w
theorem RedT.nn (h:RedT w va vb ns ds X Y t):ns≠[]/\ds≠[]:=by
 have h1:=h.vn;have h2:=h.vd;have h3:=h.px;have h4:=h.py;constructor
 .rintro rfl;simp only[val] at h1;omega
 rintro rfl;simp only[val] at h2;omega
theorem RedT.twos (h:RedT w va vb ns ds X Y t):cN 214 #[vb] w λe w'=>e=.returned (.int .i64 t)/\w'=w:=
 M5 h.sd (by rw[h.vd];exact h.tw) (by have:=h.ld;omega) h.tb (by
  have h1:=h.tw;rw[<-h.vd] at h1;have:=h1.lt h.sd.1;have:=h.ld
  omega)
theorem RedT.bits (h:RedT w va vb ns ds X Y t) {n:Nat} (h1:2^n<=Y) (h2:Y<2^(n+1)):cN 216 #[vb] w λe w'=>e=.returned (.int .i64<|n+1)/\w'=w:=by
 refine(RK h.sd h.cd h.nn.2<|by have:=h.ld;omega).mono ?_;rintro e w' ⟨m,rfl,h3,h4,_,rfl⟩;rw[h.vd] at h3 h4
 have:m=n:=by
  rcases qE m n with hh | hh | hh
  .have:=JU (by omega:m+1<=n);omega
  .exact hh
  have:=JU (by omega:n+1<=m);omega
 subst this;exact⟨rfl,rfl⟩
theorem RedT.bn (h:RedT w va vb ns ds X Y t) {n:Nat} (h1:2^n<=Y):n<=8796093022208:=by
 have h2:=M6 h.sd.1;rw[h.vd] at h2;have h3:=h.ld
 rcases kS n (32*ds.length) with h | h
 .omega
 have:=JU h;omega
theorem AG (h:0<Y):∃n:Nat,2^n<=Y/\Y<2^(n+1):=by
 have key:∀k:Nat,Y<2^k->∃n:Nat,2^n<=Y/\Y<2^(n+1):=by
  intro k
  induction k with
  | zero=>intro h1;simp at h1;omega
  | succ k a=>
   intro h1;by_cases h2:Y<2^k
   .exact a h2
   exact⟨k,by omega,h1⟩
 refine key Y.toNat ?_;have:Y.toNat<2^Y.toNat:=Nat.lt_two_pow_self;have e:((2^Y.toNat:Nat):Int)=(2:Int)^Y.toNat:=by simp
 omega
theorem yo {q q':Option Addr} {n cap cap':Nat}:
  cN 188 (qA g q 0 cap q' n cap') w λe w'=>∃f,e=.returned f/\FAt w' f false 0 1/\Below w.1.size w w':=by
 have B:=λz=>JL z 1 (by omega) (by omega);have u:=λz=>Eu q 0 cap z;have b:=FNew.made w;have j:Below w.1.size w (w.alloc<|.cells zC 147):=cU w _;obtain⟨s,hu,y⟩:=uQ;have i:=JK (x:=1) (by omega) (by omega);go_enter func188,ntmps188
 go_wp2_with (first
  | (go_at_call 166;with_reducible refine(u _).mono ?_;rintro e C ⟨rfl,rfl⟩)
  | (go_at_call 187;with_reducible refine(B _).mono ?_;rintro e C ⟨r,rfl,l,h⟩
     obtain⟨E,D,rfl⟩:=l.form;obtain⟨A,o⟩:=Cc (g:=false) (kF _) b j h (Sl.nil _) zH rfl l i.2.1 i.2.2.1 (by simp) (by have:=i.2.2.2;omega);have a:=b.below h;have c0:=a.c0;have c1:=a.c1;have c2:=a.c2;have fr:=a.fr
     clear h a b j))
 refine lJ (jP rfl _ _ w.1.size _ s rfl o hu y Cb) rfl ?_;exact⟨_,rfl,A.out⟩
theorem yp {q q':Option Addr} {n cap cap':Nat} {ys:List Int} (hm:m≠0) (i:RedT (w.alloc<|.cells zC 147) (.slice q m cap) (.slice q' n cap') xs ys X Y ty) (C:TwosIs X tx) (l:k=min tx ty) (am:min (tx:Int) (ty:Int)=(k:Int)):
  cN 188 (qA g q m cap q' n cap') w λe w'=>∃f,e=.returned f/\FAt w' f g (X / cJ X Y) (Y / cJ X Y)/\Below w.1.size w w':=by
 have fG:∀z,cN 166 #[.slice q m cap] z λe w'=>e=.returned (.bool false)/\w'=z:=λz=>by
  have:=Eu q m cap z
  rwa [kQ hm] at this
 have aC:=FNew.made w;have aa:Below w.1.size w (w.alloc<|.cells zC 147):=cU w _;obtain⟨M,hu,Q⟩:=uQ;have B:Hid (_/\_/\_/\_/\_/\_):=M7 C i.tw l;have al:=i.twos
 have ak:cN 214 #[.slice q m cap] (w.alloc<|.cells zC 147) λe w'=>e=.returned (.int .i64 tx)/\w'=(w.alloc<|.cells zC 147):=
  M5 i.sn (by rw[i.vn];exact C) (by have:=i.ln;omega) i.tb (by
   have h1:=C;rw[<-i.vn] at h1;have:=h1.lt i.sn.1;have:=i.ln
   omega)
 have ai:k<=8796093022208:=by have h1:=i.tw;rw[<-i.vd] at h1;have:=h1.lt i.sd.1;have:=i.ld;omega
 have V:Hid (k=min tx ty/\TwosIs X tx/\TwosIs Y ty):=⟨l,C,i.tw⟩;have r:=bC i;have s:Hid (FNew (w.alloc<|.cells zC 147) w.1.size):=aC;have K:=bC aa;obtain⟨t,ht⟩:∃t,Hid (ty - k=t):=⟨_,rfl⟩;clear i C l aC aa;go_enter func188,ntmps188
 go_upto_if 19 with(first
  | (go_at_call 166;with_reducible refine(fG _).mono ?_;rintro e w1 ⟨rfl,rfl⟩)
  | (go_at_call 214;with_reducible refine ak.mono ?_;rintro e w1 ⟨rfl,rfl⟩)
  | (go_at_call 214;with_reducible refine al.mono ?_;rintro e w1 ⟨rfl,rfl⟩))
 go_cut [1,2] from 19 to 25 λv1 v2 wx=>∃q1 n1 c1 q2 n2 c2 ns ds,v1=.slice q1 n1 c1/\v2=.slice q2 n2 c2/\Hid (RedT wx (.slice q1 n1 c1) (.slice q2 n2 c2) ns ds (X / 2^k) (Y / 2^k) t/\Below (w.alloc<|.cells zC 147).1.size (w.alloc<|.cells zC 147) wx)
 case first=>
  by_cases ag:k=0
  .have L:Hid (RedT (w.alloc<|.cells zC 147) (.slice q m cap) (.slice q' n cap') xs ys (X / 2^k) (Y / 2^k) t/\Below (w.alloc<|.cells zC 147).1.size (w.alloc<|.cells zC 147) (w.alloc<|.cells zC 147)):=(by refine⟨?_,kE _ _⟩;rw[<-ht.out,ag];simpa using r.out);have an:¬0<k:=(by omega);clear ag;go_wp2_with fail;go_meet
   case rel=>exact⟨_,_,_,_,_,_,xs,ys,rfl,rfl,L⟩
  have an:0<k:=(by omega);have ap:=JS r.out.sn (by have:=r.out.ln;omega) k ai;have aq:∀z,Below (w.alloc<|.cells zC 147).1.size (w.alloc<|.cells zC 147) z->_:=λz hz=>JS (r.out.sd.below hz) (by have:=r.out.ld;omega) k ai
  go_wp2_with (first
   | (go_at_call 215;with_reducible refine ap.mono ?_;rintro e w2 ⟨r1,ns,rfl,z1,z2,z3,z4,ab⟩
      obtain⟨qa,ca,rfl⟩:=z1.form)
   | (go_at_call 215;with_reducible refine(aq _ ab).mono ?_;rintro e w3 ⟨r2,ds,rfl,y1,y2,y3,y4,ac⟩
      obtain⟨qb,cb,rfl⟩:=y1.form))
  have W:=B.out;have hh:=r.out;have iP:=cV ab ac
  have L:Hid (RedT w3 (.slice qa ns.length ca) (.slice qb ds.length cb) ns ds (X / 2^k) (Y / 2^k) t/\Below (w.alloc<|.cells zC 147).1.size (w.alloc<|.cells zC 147) w3):=
   ⟨⟨z1.below ac,y1,z2,y2,by rw[z3,hh.vn],by rw[y3,hh.vd],W.2.2.1,W.2.2.2.1,by have:=hh.ln;omega,by have:=hh.ld;omega,by rw[<-ht.out];exact W.2.2.2.2.2,hh.tb.below iP⟩,iP⟩
  go_meet
  case rel=>exact⟨_,_,_,_,_,_,ns,ds,rfl,rfl,L⟩
 case rest=>
  obtain⟨q1,n1,c1,q2,n2,c2,ns,ds,rfl,rfl,a⟩:=hcut;clear ak al r am fG;obtain⟨bn,D,E⟩:=AG a.out.1.py;have ar:=a.out.1.bn D;have aj:=a.out.1.twos;have ad:=a.out.1.bits D E;have au:=a.out.1.sn.form;have av:=a.out.1.sd.form;by_cases I:t=bn
  .have hg1:cJ (X / 2^k) (Y / 2^k)=1:=AE V.out.2.1 V.out.2.2 V.out.1 E<|ht.out.trans I;have ao:((t:Int) != (bn:Int))=false:=(by simp[I]);have e1:X / 2^k=X / cJ X Y:=(by rw[B.out.1,hg1,q7]);have e2:Y / 2^k=Y / cJ X Y:=(by rw[B.out.2.1,hg1,q7]);have u:Hid (X / 2^k=X / cJ X Y/\Y / 2^k=Y / cJ X Y):=⟨e1,e2⟩;clear I hg1 e1 e2 D E
   go_wp2_with (first
    | (go_at_call 214;with_reducible refine aj.mono ?_;rintro e Z ⟨rfl,rfl⟩)
    | (go_at_call 216;with_reducible refine ad.mono ?_;rintro e Z ⟨rfl,rfl⟩
       have hh:=a.out.1;have j:=a.out.2;obtain⟨l,y⟩:=Cc (g:=g) (kF _) s.out K.out j hh.sn hh.cn (hh.vn.trans u.out.1) hh.sd hh.cd (hh.vd.trans u.out.2) hh.ln hh.ld;have h:=s.out.below j;have c0:=h.c0;have c1:=h.c1;have c2:=h.c2;have fr:=h.fr;clear h
       clear hh j))
   refine lJ (jP rfl _ _ w.1.size _ M rfl y hu Q Cb) rfl ?_;exact⟨_,rfl,l.out⟩
  have ao:((t:Int) != (bn:Int))=true:=(by simp;omega);obtain⟨G,A⟩:∃G,cJ (X / 2^k) (Y / 2^k)=G:=⟨_,rfl⟩;have T:=Dn (b:=Y / 2^k) a.out.1.px;have dp:=ym a.out.1.sn a.out.1.sd a.out.1.cn a.out.1.cd a.out.1.ln a.out.1.ld;rw[a.out.1.vn,a.out.1.vd,A] at dp;rw[A] at T;have u:Hid (X / 2^k / G=X / cJ X Y/\Y / 2^k / G=Y / cJ X Y):=⟨by rw[B.out.1,A],by rw[B.out.2.1,A]⟩;have fi:Hid (0<G):=T;clear A T D E I
  go_upto_region 8 with(first
   | (go_at_call 214;with_reducible refine aj.mono ?_;rintro e Z ⟨rfl,rfl⟩)
   | (go_at_call 216;with_reducible refine ad.mono ?_;rintro e Z ⟨rfl,rfl⟩)
   | (go_at_call 217;with_reducible refine dp.mono ?_;rintro e w5 ⟨rg,gs,rfl,S,cg,J,lg,O⟩
      have F:=yg S
      have ng:gs≠[]:=by
       rintro rfl;have:=fi.out;simp only[val] at J
       omega))
  by_cases h1:gs=[1]
  .have vg1:G=1:=(by rw[h1] at J;simpa [val] using J.symm);have e3:Hid (X / 2^k=X / cJ X Y/\Y / 2^k=Y / cJ X Y):=(by have:=u.out;rw[vg1,q7,q7] at this;exact this);rw[lh h1] at F
   go_wp2_with (go_at_call 218;with_reducible refine jR F λw6 x=>?_
                have hh:=a.out.1;have o:=cV O x;have j:=cV a.out.2 o;obtain⟨l,y⟩:=Cc (g:=g) (kF _) s.out K.out j (hh.sn.below o) hh.cn (hh.vn.trans e3.out.1) (hh.sd.below o) hh.cd (hh.vd.trans e3.out.2) hh.ln hh.ld;have h:=s.out.below j;have c0:=h.c0;have c1:=h.c1;have c2:=h.c2;have fr:=h.fr;clear h
                clear hh j o O x)
   refine lJ (jP rfl _ _ w.1.size _ M rfl y hu Q Cb) rfl ?_;exact⟨_,rfl,l.out⟩
  rw[kQ h1] at F
  go_wp2_with (first
   | (go_at_call 218;with_reducible refine jR F λw6 x=>?_
      have o:=cV O x
      have ae:=JT (a.out.1.sn.below o) (S.below x) a.out.1.cn cg ng a.out.1.ln)
   | (go_at_call 219;with_reducible refine ae.mono ?_;rintro e w7 ⟨r1,r2,na,rs,rfl,U,cn,vn,_,_,_,H⟩
      obtain⟨qn,kn,rfl⟩:=U.form
      have af:=JT ((a.out.1.sd.below o).below H) ((S.below x).below H) a.out.1.cd cg ng a.out.1.ld)
   | (go_at_call 219;with_reducible refine af.mono ?_;rintro e w8 ⟨r3,r4,da,aw,rfl,R,cd,vd,_,_,_,P⟩
      rw[J] at vn vd;rw[a.out.1.vn] at vn;rw[a.out.1.vd] at vd;obtain⟨qd,kd,rfl⟩:=R.form;have hh:=a.out.1;have iQ:=cV H P;have iR:=cV o iQ;have j:=cV a.out.2 iR;have l1:na.length<=274877906000:=(by have h0:=pI G (by have:=hh.px;omega:(0:Int)<=X / 2^k);have:=FK U.1 hh.sn.1 cn (by rw[vn,hh.vn];exact h0);have:=hh.ln;omega);have l2:da.length<=274877906000:=(by have h0:=pI G (by have:=hh.py;omega:(0:Int)<=Y / 2^k);have:=FK R.1 hh.sd.1 cd (by rw[vd,hh.vd];exact h0);have:=hh.ld;omega);obtain⟨l,y⟩:=Cc (g:=g) (kF _) s.out K.out j (U.below P) cn (vn.trans u.out.1) R cd (vd.trans u.out.2) l1 l2;have h:=s.out.below j;have c0:=h.c0;have c1:=h.c1;have c2:=h.c2;have fr:=h.fr;clear h
      clear hh j iR iQ H P ae af))
  refine lJ (jP rfl _ _ w.1.size _ M rfl y hu Q Cb) rfl ?_;exact⟨_,rfl,l.out⟩
theorem R0 {a b:Value} {ys:List Int} (i:Sl w a xs) (l:Sl w b ys) (o:bD xs) (r:bD ys) (C:ys≠[]) (A:xs.length<=274877906000) (B:ys.length<=274877906000) (u:Tb w):
  cN 188 #[.bool g,a,b] w λe w'=>∃f,e=.returned f/\FAt w' f (cI g (val xs)<|val ys) (db (val xs)<|val ys) (dg (val xs)<|val ys)/\Below w.1.size w w':=by
 obtain⟨q,cap,rfl⟩:=i.form;obtain⟨q',cap',rfl⟩:=l.form;by_cases j:xs=[]
 .subst j;simpa [cI,db,dg,val] using yo (g:=g) (q:=q) (q':=q') (n:=ys.length) (cap:=cap) (cap':=cap') (w:=w)
 have s:=Af i.1 o j;have vy:=Af l.1 r C;obtain⟨tx,y⟩:=TwosIs.ex s;obtain⟨ty,z⟩:=TwosIs.ex vy;have h:Below w.1.size w (w.alloc<|.cells zC 147):=cU w _;have x:¬(val xs=0\/val ys=0):=by omega
 simp only[cI,db,dg,kZ x];exact yp (k:=min tx ty) (by have:=lG.2 j;omega) ⟨i.below h,l.below h,o,r,rfl,rfl,s,vy,A,B,z,u.below h⟩ y rfl (by omega)
theorem G9 {P:Program} {fn:Func} {p u:Tmp} {ty:TypeId} (h:fn.results=#[.cell p ty,.tmp u]) (tmps:Array Value) (w:World) (b:Nat) (cs:List Value) (d:TypeDesc)
  (f:tmps.getD p undef=.pointer (some ⟨b,0,none⟩)) (a:w.rangeAt b 0 cs) (hu:P.underlying ty=some d) (e:d.isRow=true) (hi:(P.info? ty).map (·.size)=some cs.length):
  (results fn tmps).run P w=.ok (.tuple #[.agg cs.toArray,tmps.getD u undef]) w:=by
 rw[results_cell_tmp h,f];simp[asAddr,rQ w b 0 ty cs d a hu e hi]
def pw (k:Nat):Int:=4294967296^k
theorem G' (a:cB xs) (b:bD xs) (k:Nat):xs.length<=k↔val xs<pw k:=by
 constructor
 .intro h;have h1:=oW a;have h2:=JI h;unfold pw;omega
 intro h;exact MP a b h
def large (n d:Int):Bool:=!(decide (n<pw 256)&&decide (d<pw 256)&&decide (db n (bB d)<pw 64)&&decide (dg n (bB d)<pw 64))
theorem R1 (h:FAt w v g n d):
  bF w 189 #[v] (.bool<|decide (n<pw 64)&&decide (d<pw 64)):=by
 obtain⟨a,b,ns,ds,rfl,h2,h3,rfl,h5,h6,rfl,i,j⟩:=h;have e1:decide (val ns<pw 64)=decide (ns.length<=64):=nX.2 (G' h2.1 h3 64).symm;have e2:decide (val ds<pw 64)=decide (ds.length<=64):=nX.2 (G' h5.1 h6 64).symm;rw[e1,e2];clear e1 e2;obtain⟨q,cap,rfl⟩:=h2.form;obtain⟨q',cap',rfl⟩:=h5.form;clear h2 h3 h5 h6;by_cases h1:ns.length<=64
 .have e:(ns.length:Int)<=64:=by omega
  by_cases h2:ds.length<=64
  .have f:(ds.length:Int)<=64:=(by omega);go_enter func189,ntmps189;go_wp2;go_ret;exact⟨by simp[h1,h2],cU _ _⟩
  have f:¬(ds.length:Int)<=64:=(by omega);go_enter func189,ntmps189;go_wp2;go_ret;exact⟨by simp,cU _ _⟩
 have e:¬(ns.length:Int)<=64:=by omega
 go_enter func189,ntmps189;go_wp2;go_ret;exact⟨by simp,cU _ _⟩
theorem Ha (h:FAt w v g n d):
  bF w 139 #[v] (.int .i64 (if n=0 then 0 else if g then -1 else 1)):=by
 obtain⟨a,b,ns,ds,rfl,h2,h3,rfl,h5,h6,rfl,s,u⟩:=h;obtain⟨q,cap,rfl⟩:=h2.form;obtain⟨q',cap',rfl⟩:=h5.form;have f:=λz=>Eu q ns.length cap z;by_cases h1:ns=[]
 .have hv:val ns=0:=by rw[h1];rfl
  have i:ns.length=0:=by rw[h1];rfl
  rw[i] at f ⊢;rw[hv];clear h2 h5;go_enter func139,ntmps139;go_wp2_with (go_at_call 166;with_reducible refine(f _).mono ?_;rintro e o ⟨rfl,rfl⟩);go_ret;exact⟨rfl,cU _ _⟩
 have r:=Af h2.1 h3 h1;have i:¬ns.length=0:=by have:=lG.2 h1;omega
 have l:∀z,cN 166 #[.slice q ns.length cap] z λe w'=>e=.returned (.bool false)/\w'=z:=λz=>by
  have:=f z
  rwa [kQ i] at this
 have j:¬val ns=0:=by omega
 rw[kZ j];clear h2 h5 f j r
 cases g with
 | false=>go_enter func139,ntmps139;go_wp2_with (go_at_call 166;with_reducible refine(l _).mono ?_;rintro e o ⟨rfl,rfl⟩);go_ret;exact⟨rfl,cU _ _⟩
 | true=>go_enter func139,ntmps139;go_wp2_with (go_at_call 166;with_reducible refine(l _).mono ?_;rintro e o ⟨rfl,rfl⟩);go_ret;exact⟨rfl,cU _ _⟩
theorem FNew.drew {nq:Nat} (h:FNew w N):FNew (w.drewN nq) N:=h
theorem Hb (h:¬n<pw 256\/¬d<pw 256):large n d=true:=by
 unfold large
 rcases h with h | h<;>simp[h]
theorem R2 (h1:n<pw 256) (h2:d<pw 256):(decide (db n (bB d)<pw 64)&&decide (dg n (bB d)<pw 64))=!large n d:=by unfold large;simp[h1,h2]
theorem FN {de:List Int} (h1:Sl w (.slice q1 nu.length c1) nu) (h2:Sl w (.slice p1 de.length e1) de) (ln:nu.length<=274877906000) (ld:de.length<=274877906000) (hT:Tb w):
  cN 167 #[.agg<|qA g q1 nu.length c1 p1 de.length e1] w λe w'=>∃f g' n' d',e=.returned (.tuple #[f,.bool<|!large (val nu) (val de)])/\FAt w' f g' n' d'/\(large (val nu) (val de)=false->g'=cI g (val nu) (bB<|val de)/\n'=db (val nu) (bB<|val de)/\d'=dg (val nu) (bB<|val de))/\Below w.1.size w w':=by
 obtain⟨u1,s1,k1⟩:=Et h1;obtain⟨u2,s2,k2⟩:=Et h2;obtain⟨qa,ca,rfl⟩:=s1.form;obtain⟨qb,cb,rfl⟩:=s2.form;have v1:val (bE nu)=val nu:=ji nu;have v2:val (bE de)=val de:=ji de;have cn:=jH nu;have cd:=jH de;have l1:(bE nu).length<=274877906000:=by have:=fp nu nu.length;rw[ed];omega
 have l2:(bE de).length<=274877906000:=by have:=fp de de.length;rw[ed];omega
 have R:=G' s1.1 cn 256;have S:=G' s2.1 cd 256;rw[v1] at R;rw[v2] at S;generalize bE nu=N at*;generalize bE de=D at*;generalize val nu=X at*;generalize val de=Y at*;have i:Hid (Sl w (.slice qa N.length ca) N/\Sl w (.slice qb D.length cb) D/\val N=X/\val D=Y/\bD N/\bD D/\N.length<=274877906000/\D.length<=274877906000/\Tb w):=⟨s1,s2,v1,v2,cn,cd,l1,l2,hT⟩;have P:=dF w (Obj.cells (qA g q1 nu.length c1 p1 de.length e1) 30)<|Obj.cells zC 147;obtain⟨V,hu,hd⟩:=uQ;have L:Hid ((N.length<=256↔X<pw 256)/\(D.length<=256↔Y<pw 256)):=⟨R,S⟩;clear s1 s2 v1 v2 cn cd hT h1 h2 R S;go_enter func167,ntmps167;go_wp2_with fail
 go_quiet (first
  | (go_at_call_of 165 (Value.slice q1 nu.length c1);refine lw<|k1 _<|ee P _)
  | (go_at_call_of 165 (Value.slice p1 de.length e1);refine lw<|k2 _<|ee P _))
 clear k1 k2;have ab:=ee P nq;have x0:(((w.alloc<|Obj.cells (qA g q1 nu.length c1 p1 de.length e1) 30).alloc<|Obj.cells zC 147).drewN nq).cell? ⟨w.1.size,0,none⟩=some (.bool g):=by simp
 have an:(((w.alloc<|Obj.cells (qA g q1 nu.length c1 p1 de.length e1) 30).alloc<|Obj.cells zC 147).drewN nq).1.size=w.1.size+2:=by simp
 have A:FNew (((w.alloc<|Obj.cells (qA g q1 nu.length c1 p1 de.length e1) 30).alloc<|Obj.cells zC 147).drewN nq) (w.1.size+1):=by
  have:=FNew.made<|w.alloc<|Obj.cells (qA g q1 nu.length c1 p1 de.length e1) 30;have e:(w.alloc<|Obj.cells (qA g q1 nu.length c1 p1 de.length e1) 30).1.size=w.1.size+1:=by simp
  rw[e] at this;exact this.drew
 clear P;generalize (((w.alloc<|Obj.cells (qA g q1 nu.length c1 p1 de.length e1) 30).alloc<|Obj.cells zC 147).drewN nq)=s at ab x0 an A ⊢;have K:Hid (FNew s<|w.1.size+1):=A;have B:Hid (Below w.1.size w s):=ab;have c0:=A.c0;have c1:=A.c1;have c2:=A.c2;have fr:=A.fr;clear A ab;by_cases hA:N.length<=256
 .have ag:((N.length:Int) > 256)=False:=by simp;omega
  by_cases hB:D.length<=256
  .have ai:((D.length:Int) > 256)=False:=(by simp;omega);have hz:=λz=>Eu qb D.length cb z;obtain⟨U,ad⟩:∃U,Hid (decide (D.length=0)=U):=⟨_,rfl⟩;simp only[ad.out] at hz;have ae:=λz=>JL z 1 (by omega) (by omega);have Q:Hid _:=JK (x:=1) (by omega)<|by omega
   go_upto_if 23 with(go_at_call 166;with_reducible refine jR (hz _) λw1 ar=>?_;subst w1)
   go_cut [5] from 23 to 24 λv5 wx=>∃qd nd cd ds,v5=.slice qd nd cd/\Hid (Sl wx (.slice qd nd cd) ds/\bD ds/\val ds=bB Y/\ds≠[]/\ds.length<=274877906000)/\Hid (Below s.1.size s wx)
   case first=>
    cases U with
    | true=>
     have hY:bB Y=1:=by have:=i.out.2.2.2.1;rw[kM<|pX ad.out] at this;simp[bB,<-this,val]
     go_wp2_with (go_at_call 187;with_reducible refine(ae _).mono ?_;rintro e w2 ⟨r,rfl,af,ak⟩
                  obtain⟨qr,cr,rfl⟩:=af.form)
     have T:Hid (Sl w2 (.slice qr (dO 1).length cr) (dO 1)/\bD (dO 1)/\val (dO 1)=bB Y/\dO 1≠[]/\(dO 1).length<=274877906000):=⟨af,Q.out.2.1,by rw[hY];exact Q.out.2.2.1,by decide,by have:=Q.out.2.2.2;omega⟩;go_meet
     case rel=>exact⟨_,_,_,_,rfl,T,ak⟩
    | false=>
     have hD:Hid (D≠[]):=(by rintro rfl;exact of_decide_eq_false ad.out rfl);have hY:bB Y=Y:=(by have:=Af i.out.2.1.1 i.out.2.2.2.2.2.1 hD.out;rw[i.out.2.2.2.1] at this;simp[bB];omega);have T:Hid (Sl (s) (.slice qb D.length cb) D/\bD D/\val D=bB Y/\D≠[]/\D.length<=274877906000):=⟨i.out.2.1.below B.out,i.out.2.2.2.2.2.1,by rw[hY];exact i.out.2.2.2.1,hD.out,i.out.2.2.2.2.2.2.2.1⟩;go_wp2_with fail;go_meet
     case rel=>exact⟨_,_,_,_,rfl,T,kE _ _⟩
   case rest=>
    obtain⟨qd,nd,cd,ds,rfl,H,C⟩:=hcut;have W:=R0 (g:=g) ((i.out.1.below B.out).below C.out) H.out.1 i.out.2.2.2.2.1 H.out.2.1 H.out.2.2.2.1 i.out.2.2.2.2.2.2.1 H.out.2.2.2.2<|(i.out.2.2.2.2.2.2.2.2.below B.out).below C.out;rw[i.out.2.2.1,H.out.2.2.1] at W;have am:Hid _:=R2 (L.out.1.1 hA)<|L.out.2.1 hB;have ap:wc.cell? ⟨w.1.size,0,none⟩=some (.bool g):=fg C.out (by omega) x0;clear x0 hz ae Q c0 c1 c2 fr
    go_wp2_with (go_at_call 188;with_reducible refine W.mono ?_;rintro e a ⟨f,rfl,hf,ac⟩
                 have al:=hf;obtain⟨fa,fb,ns,b,rfl,z1,z2,z3,z4,z5,z6,z7,z8⟩:=al;obtain⟨q,l,rfl⟩:=z1.form;obtain⟨o,j,rfl⟩:=z4.form;have ao:Hid (Sl a (.slice q ns.length l) ns/\bD ns/\val ns=db X (bB Y)/\Sl a (.slice o b.length j) b/\bD b/\val b=dg X (bB Y)/\ns.length<=274877906000/\b.length<=274877906000):=⟨z1,z2,z3,z4,z5,z6,z7,z8⟩
                 clear z1 z2 z3 z4 z5 z6 z7 z8 W)
    have aa:Below a.1.size a (a.alloc<|.cells #[.bool<|cI g X<|bB Y,.slice q ns.length l,.slice o b.length j] 147):=cU _ _;have cQ:=R1<|(hf.below aa).below (kE _ _).drew;rw[am.out] at cQ;obtain⟨y0,y1,y2⟩:=PU a (#[.bool<|cI g X<|bB Y,.slice q ns.length l,.slice o b.length j]) 147;have y5:(a.alloc<|.cells #[.bool<|cI g X<|bB Y,.slice q ns.length l,.slice o b.length j] 147).1.size=a.1.size+1:=(by simp);have aq:w.1.size+1<a.1.size:=(by have:=C.out.size;have:=ac.size;omega);have gv:a.1.size≠w.1.size+1:=(by omega);have iS:Below s.1.size s (a.alloc<|.cells #[.bool<|cI g X<|bB Y,.slice q ns.length l,.slice o b.length j] 147):=(cV C.out ac).trans<|aa.mono<|kJ C.out.size ac.size;generalize (a.alloc<|.cells #[.bool<|cI g X<|bB Y,.slice q ns.length l,.slice o b.length j] 147)=J at*;have M:(λz=>z.cell? ⟨a.1.size,0,none⟩=some (.bool<|cI g X<|bB Y)/\z.cell? ⟨a.1.size,1,none⟩=some (.slice q ns.length l)/\z.cell? ⟨a.1.size,2,none⟩=some (.slice o b.length j)) J.drew:=⟨y0,y1,y2⟩;have au:J.drew.1.size=a.1.size+1:=y5;clear y0 y1 y2 hf ap
    go_region_held3 (λz=>z.cell? ⟨a.1.size,0,none⟩=some (.bool<|cI g X<|bB Y)/\z.cell? ⟨a.1.size,1,none⟩=some (.slice q ns.length l)/\z.cell? ⟨a.1.size,2,none⟩=some (.slice o b.length j)) (first | exact aj | exact O | exact M)
     (first
       | (go_at_call 189;with_reducible refine jR cQ λw5 G=>?_
          have O:(λz=>z.cell? ⟨a.1.size,0,none⟩=some (.bool<|cI g X<|bB Y)/\z.cell? ⟨a.1.size,1,none⟩=some (.slice q ns.length l)/\z.cell? ⟨a.1.size,2,none⟩=some (.slice o b.length j)) w5:=⟨fg G (by omega) M.1,fg G (by omega) M.2.1,fg G (by omega) M.2.2⟩;have Z:Below J.1.size J w5:=(kE _ _).drew.trans G;have gS:Below s.1.size s w5:=cV iS Z;have u:=ao.out;have gT:Below a.1.size a w5:=cV aa Z;obtain⟨y,E⟩:=Cc (g:=cI g X<|bB Y) (by omega) K.out B.out gS (u.1.below gT) u.2.1 u.2.2.1 (u.2.2.2.1.below gT) u.2.2.2.2.1 u.2.2.2.2.2.1 u.2.2.2.2.2.2.1 u.2.2.2.2.2.2.2;have F:=K.out.below gS;have f0:=F.c0;have f1:=F.c1;have f2:=F.c2;have fr:=F.fr;have aj:(λz=>z.cell? ⟨a.1.size,0,none⟩=some (.bool<|cI g X<|bB Y)/\z.cell? ⟨a.1.size,1,none⟩=some (.slice q ns.length l)/\z.cell? ⟨a.1.size,2,none⟩=some (.slice o b.length j)) (((w5.setCell ⟨w.1.size+1,0,none⟩<|.bool<|cI g X<|bB Y).setCell ⟨w.1.size+1,1,none⟩<|.slice q ns.length l).setCell ⟨w.1.size+1,2,none⟩<|.slice o b.length j):=by exact⟨(lf _ _ _ _<|by simp;omega).trans<|(lf _ _ _ _<|by simp;omega).trans<|(lf _ _ _ _<|by simp;omega).trans O.1,(lf _ _ _ _<|by simp;omega).trans<|(lf _ _ _ _<|by simp;omega).trans<|(lf _ _ _ _<|by simp;omega).trans O.2.1,(lf _ _ _ _<|by simp;omega).trans<|(lf _ _ _ _<|by simp;omega).trans<|(lf _ _ _ _<|by simp;omega).trans O.2.2⟩
          clear F Z gT gS G u))
    go_wp2_with fail;refine lJ (G9 rfl _ _ (w.1.size+1) _ V rfl E hu hd Cb) rfl ?_;exact⟨_,_,_,_,rfl,y.out.1,λ_=>⟨rfl,rfl,rfl⟩,y.out.2⟩
  have ai:(D.length:Int) > 256:=(by omega);have I:=Hb (n:=X) (d:=Y)<|.inr λh=>hB<|L.out.2.2 h;obtain⟨y,E⟩:=Cc (g:=false) (by omega) K.out B.out (kE _ _) (Sl.nil _) zH rfl (Sl.nil _) zH rfl (by simp) (by simp);go_wp2_with fail;refine lJ (G9 rfl _ _ (w.1.size+1) _ V rfl E hu hd Cb) rfl ?_;exact⟨_,false,0,0,by rw[I];rfl,y.out.1,λh=>(by rw[I] at h;cases h),y.out.2⟩
 have ag:(N.length:Int) > 256:=by omega
 have I:=Hb (n:=X) (d:=Y)<|.inl λh=>hA<|L.out.1.2 h;obtain⟨y,E⟩:=Cc (g:=false) (by omega) K.out B.out (kE _ _) (Sl.nil _) zH rfl (Sl.nil _) zH rfl (by simp) (by simp);go_wp2_with fail;refine lJ (G9 rfl _ _ (w.1.size+1) _ V rfl E hu hd Cb) rfl ?_;exact⟨_,false,0,0,by rw[I];rfl,y.out.1,λh=>(by rw[I] at h;cases h),y.out.2⟩
theorem M8 (h:0<=Y):0<bB Y:=by unfold bB;split<;>omega
theorem M9 (a:0<=X) (e:0<=Y):db X (bB Y)=0↔X=0:=by
 have j:=M8 e;unfold db;by_cases h:X=0
 .simp[h]
 rw[kZ<|by omega];have l:=Dn (b:=bB Y) (by omega:0<X);obtain⟨⟨p,f⟩,_⟩:=JJ a (by omega:0<=bB Y)
 have i:X / cJ X (bB Y)=p:=by
  conv=>lhs;lhs;rw[f]
  exact qZ _<|by omega
 rw[i];constructor
 .rintro rfl;omega
 intro h2;exact absurd h2 h
def yq (g:Bool) (X _Y:Int):Int:=if X=0 then 0 else if g then -1 else 1
theorem M' (b:0<=X) (a:0<=Y):(if db X (bB Y)=0 then 0 else if cI g X (bB Y) then -1 else 1:Int)=yq g X Y:=by
 have f:=M8 a;unfold yq;by_cases h:X=0
 .rw[kU<|(M9 b a).2 h,kU h]
 rw[kZ λe=>h<|(M9 b a).1 e,kZ h];have:cI g X (bB Y)=g:=by unfold cI;rw[kZ<|by omega]
 rw[this]
theorem Hc (a:bI xs) (b:bD xs) (k:Nat):xs.length<=2*k↔bA xs<pw k:=by
 have e:pw k=65536^(2*k):=by rw[sp];rfl
 rw[e];constructor
 .intro h;have h1:=ux a;obtain⟨d,f⟩:∃d,2*k=xs.length+d:=⟨2*k - xs.length,by omega⟩;rw[f,mw];have i:(0:Int)<65536^xs.length:=pH (by decide);have hq:(0:Int)<65536^d:=pH (by decide);have:=lr hq (by omega:(0:Int)<=65536^xs.length);omega
 intro h;exact El a b h
theorem AH (h:QAt w v g n d):
  bF w 177 #[v] (.bool<|!(decide (n<pw 64)&&decide (d<pw 64))):=by
 obtain⟨a,b,ns,ds,rfl,h2,h3,rfl,h5,h6,rfl⟩:=h;have e1:decide (bA ns<pw 64)=decide (ns.length<=128):=nX.2 (Hc h2.1 h3 64).symm;have e2:decide (bA ds<pw 64)=decide (ds.length<=128):=nX.2 (Hc h5.1 h6 64).symm;rw[e1,e2];obtain⟨q,cap,rfl⟩:=h2.form;obtain⟨q',cap',rfl⟩:=h5.form;clear h2 h3 h5 h6 e1 e2;by_cases h1:ns.length<=128
 .have e:¬(ns.length:Int) > 128:=by omega
  by_cases h2:ds.length<=128
  .have f:¬(ds.length:Int) > 128:=(by omega);go_enter func177,ntmps177;go_wp2;go_ret;exact⟨by simp,cU _ _⟩
  have f:(ds.length:Int) > 128:=(by omega);go_enter func177,ntmps177;go_wp2;go_ret;exact⟨by simp,cU _ _⟩
 have e:(ns.length:Int) > 128:=by omega
 go_enter func177,ntmps177;go_wp2;go_ret;exact⟨by simp[h1],cU _ _⟩
theorem yr {n:Nat} (h1:Sl w (.slice q1 n c1) nu) (ln:nu.length<=34359738000):
  bF w 176 #[.agg<|qA g q1 n c1 p1 m e1] (.bool<|decide (val nu=0)):=by
 have a:Below w.1.size w (w.alloc<|.cells (qA g q1 n c1 p1 m e1) 30):=cU w _;have i:=Ah (h1.below a)<|by omega
 have j:decide (val nu=0)=decide ((bE<|bH nu).length=0):=nX.2 (by
  rw[<-xm nu,<-GF (Ag h1.1)]
  exact⟨λh=>by rw[h];rfl,λh=>kM h⟩)
 rw[j];clear j h1;by_cases h0:(bE<|bH nu).length=0
 .go_enter func176,ntmps176
  go_wp2_with (go_at_call 77;with_reducible refine i.mono ?_;rintro e q ⟨r,rfl,f,b⟩
               obtain⟨o,l,rfl⟩:=f.form
               rw[h0])
  go_ret;exact⟨by simp[h0],cV a b⟩
 go_enter func176,ntmps176
 go_wp2_with (go_at_call 77;with_reducible refine i.mono ?_;rintro e q ⟨r,rfl,f,b⟩
              obtain⟨o,l,rfl⟩:=f.form)
 go_ret;exact⟨by simp[h0],cV a b⟩
theorem R4 (h1:n<pw 256) (h2:d<pw 256):(!(decide (db n (bB d)<pw 64)&&decide (dg n (bB d)<pw 64)))=large n d:=by unfold large;simp[h1,h2]
theorem JV {n:Nat} {de:List Int} (h1:Sl w (.slice q1 n c1) nu) (h2:Sl w (.slice p1 m e1) de) (ln:nu.length<=34359738000) (ld:de.length<=34359738000):
  bF w 145 #[.agg<|qA g q1 n c1 p1 m e1] (.bool<|large (val nu)<|val de):=by
 have E:Below w.1.size w (w.alloc<|.cells (qA g q1 n c1 p1 m e1) 30):=cU w _;have l:=Ah (h1.below E) (by omega);have o:∀z,Below w.1.size w z->cN 77 #[.slice p1 m e1] z λe w'=>∃r,e=.returned r/\Sl16 w' r (bE<|bH de)/\Below z.1.size z w':=λz y=>Ah (h2.below y) (by omega);have G:∀z,Below w.1.size w z->_:=λz y=>BY (g:=g) (h1.below y) (h2.below y) (by omega) (by omega);have B:=Hc (uK<|Ag h1.1) (jH<|bH nu) 256;have C:=Hc (uK<|Ag h2.1) (jH<|bH de) 256;rw[o4,xm] at B C;generalize val nu=X at*;generalize val de=Y at*;have u:Hid (((bE<|bH nu).length<=512↔X<pw 256)/\((bE<|bH de).length<=512↔Y<pw 256)):=⟨B,C⟩;have F:=bC E;generalize (bE<|bH nu)=N at*;generalize (bE<|bH de)=D at*;clear h1 h2 B C E;by_cases J:N.length<=512
 .have R:¬(N.length:Int) > 512:=by omega
  by_cases K:D.length<=512
  .have S:¬(D.length:Int) > 512:=(by omega);have V:Hid _:=R4 (u.out.1.1 J)<|u.out.2.1 K;go_enter func145,ntmps145
   go_wp2_with (first
    | (go_at_call 77;with_reducible refine l.mono ?_;rintro e b ⟨r,rfl,f,a⟩
       obtain⟨M,I,rfl⟩:=f.form;have i:Hid (Below w.1.size w b):=cV F.out a;have O:b.cell? ⟨w.1.size,0,none⟩=some (.bool g):=fg a (by simp) (by simp);have P:b.cell? ⟨w.1.size,1,none⟩=some (.slice q1 n c1):=fg a (by simp) (by simp);have A:b.cell? ⟨w.1.size,2,none⟩=some (.slice p1 m e1):=fg a (by simp) (by simp);have s1:w.1.size<b.1.size:=by have:=a.size;simp at this;omega
       clear l a f)
    | (go_at_call 77;with_reducible refine(o b i.out).mono ?_;rintro e H ⟨r2,rfl,s,j⟩
       obtain⟨Z,Q,rfl⟩:=s.form;have x:Hid (Below w.1.size w H):=cV i.out j;obtain⟨y0,y1,y2⟩:=PV j s1 ⟨O,P,A⟩
       clear o j s O P A)
    | (go_at_call 110;with_reducible refine(G _ x.out).mono ?_;rintro e w3 ⟨v,rfl,hq,T⟩
       have L:=AH hq;rw[V.out] at L
       have W:Hid (Below w.1.size w w3):=cV x.out T)
    | (go_at_call 177;with_reducible refine jR L λw4 U=>?_))
   go_ret;exact⟨rfl,cV W.out U⟩
  have S:(D.length:Int) > 512:=(by omega);have q:=Hb (n:=X) (d:=Y)<|.inr λh=>K<|u.out.2.2 h;rw[q];clear q G;go_enter func145,ntmps145
  go_wp2_with (first
   | (go_at_call 77;with_reducible refine l.mono ?_;rintro e b ⟨r,rfl,f,a⟩
      obtain⟨M,I,rfl⟩:=f.form;have i:Hid (Below w.1.size w b):=cV F.out a;have A:b.cell? ⟨w.1.size,2,none⟩=some (.slice p1 m e1):=fg a (by simp)<|by simp
      clear l a f)
   | (go_at_call 77;with_reducible refine(o b i.out).mono ?_;rintro e H ⟨r2,rfl,s,j⟩
      obtain⟨Z,Q,rfl⟩:=s.form;have x:Hid (Below w.1.size w H):=cV i.out j
      clear o j s A))
  go_ret;exact⟨rfl,x.out⟩
 have R:(N.length:Int) > 512:=by omega
 have q:=Hb (n:=X) (d:=Y)<|.inl λh=>J<|u.out.1.2 h;rw[q];clear q G o;go_enter func145,ntmps145
 go_wp2_with (go_at_call 77;with_reducible refine l.mono ?_;rintro e b ⟨r,rfl,f,a⟩
              obtain⟨M,I,rfl⟩:=f.form;have i:Hid (Below w.1.size w b):=cV F.out a
              clear l a f)
 go_ret;exact⟨rfl,i.out⟩
end
end Go.Proofs.YthcfmhgihcjloaaGreatDoor
namespace Go.Proofs.YthcfmhgihcjloaaGreatDoor
open Go Go.Proofs.YthcfmhgihcjloaaGreatDoor.Gx Go.RowKit Tryz
section
variable {w:World} {N t tx ty k m c1 e1:Nat} {v va vb:Value} {xs ns ds nu:List Int} {g:Bool} {n d X Y:Int} {q1 p1:Option Addr}
def GK:Nat->Option (List AV):=λ_=>none
noncomputable def PK:Program:=prog
def resL:List (List UInt8):=[[101,120,112],[108,111,103],[115,105,110],[99,111,115],[116,97,110],[97,115,105,110],[97,99,111,115],[97,116,97,110],[112,105],[97,98,115],[109,105,110],[109,97,120],[114,111,111,116],[115,113,114,116],[105,102],[105,110,102],[102,111,114],[105,110],[119,104,101,114,101]]
def kK:List (Int × Int):=[(1,0),(2,0),(3,0),(4,1),(5,2),(6,2),(7,2),(8,2),(9,1),(10,1),(11,1),(12,1),(13,2),(14,2),(15,3)]
def R5:Int:=(-9223372036854775808)
def R7:Int:=9223372036854775807
def R8:jL:=resL.map λl=>(84,[.str l],.bool true)
def R9:jL:=kK.map λx=>(164,[.int .i64 x.1],.tup [.int .i64 x.2,.bool true])
def JW:jL:=[(84,[.ostr resL],.bool false),
 (164,[.oint .i64 R5 0],.tup [.int .i64 0,.bool false]),(164,[.oint .i64 16 R7],.tup [.int .i64 0,.bool false]),
 (144,[],.isl 19 (resL.map .str)<|some 19)]
def yt:jL:=R8++(R9++JW)
theorem Dy:prog.follows .mixedOrders=true:=by kernel_rfl
theorem Dz:fT prog:=by
 have h:(prog.funcs.toList.all λfn=>!fn.body.isSome||!(fn.name == "runtime.NumGoroutine"))=true:=by kernel_rfl
 intro f fn b a;have e:fn∈prog.funcs.toList:=by rw[tl];exact qJ b
 have:=lj.1 h fn e;simp only[a,Bool.not_true,qO,pN] at this;exact this
theorem FO:o9 PK GK (λ_=>true) 6000 [] yt=true:=by decide +kernel
theorem JY:TabOk PK GK (yt++[]):=TabOk.chk (TabOk.nil PK GK) Dz Dy FO
theorem FP:∀g cs,GK g=some cs->VRel (λ_=>False) w cP (.iptr cs) (.pointer<|some ⟨g,0,none⟩):=λg cs h=>by cases h
theorem JZ {f:FuncId} {args:List AV} {v:AV} (h:SealOk (jg PK GK (λ_=>true) []) f args (.ret v)) {w:World} {us:Array Value} (a:LRel (λ_=>False) w cP args us.toList):
  cN f us w λe w'=>(∃u,e=.returned u/\VRel (λ_=>False) w' cP v u)/\Below w.1.size w w':=
 SealOk.use h (BH FP) (by rw[LN];exact a) (kE _ _)
theorem Hd {f:FuncId} {args:List AV} {v:AV} (h:(f,args,v)∈yt) {w:World} {us:Array Value} (a:LRel (λ_=>False) w cP args us.toList):
  cN f us w λe w'=>(∃u,e=.returned u/\VRel (λ_=>False) w' cP v u)/\Below w.1.size w w':=
 JZ (JY _<|mP _ h) a
end
