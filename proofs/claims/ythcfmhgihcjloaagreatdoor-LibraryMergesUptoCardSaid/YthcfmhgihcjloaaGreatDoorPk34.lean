import Derived.Test.YthcfmhgihcjloaaGreatDoorPk32
import Derived.Test.YthcfmhgihcjloaaGreatDoorPk33
namespace Go.Proofs.YthcfmhgihcjloaaGreatDoor
open Go Go.RowKit Tryz
instance:Inhabited Cl:=⟨⟨.non,false,0,default,0,default⟩⟩
instance:Inhabited Cd:=⟨⟨default,none,0,none,0⟩⟩
instance:Inhabited Ent:=⟨⟨(⟨#[]⟩,0),default,.non⟩⟩
def Ent.sm (e f:Ent):Bool:=decide ((if e.C.vld&&f.C.vld then 0 else 60:Int)=0)&&((e.C.vld&&(f.C.vld&&e.C.eqv f.C))&&e.X.eq f.X)
theorem Uo {w:World} {e f:Ent} {D F:Cd} {d g:Sd} (h1:ClOk w e.C D) (h2:StOk w e.X d) (k1:ClOk w f.C F) (k2:StOk w f.X g) (b:Tb w):
  bF w 10 #[.agg (e.cells D d).toArray,.agg (f.cells F g).toArray] (.bool<|e.sm f):=
 Ui (k1:=[.string e.k.1,.int .i64 e.k.2]) (c1:=e.C.cells D) (p1:=d.cells) (k2:=[.string f.k.1,.int .i64 f.k.2]) (c2:=f.C.cells F) (p2:=g.cells) rfl rfl rfl rfl rfl rfl rfl rfl (by split<;>simp) (λz a=>Um (h1.below a) (k1.below a)<|b.below a) λz a=>xu _ _ _ _ z (h2.below a)<|k2.below a
theorem Up {w:World} {e f:Ent} {D F:Cd} {d g:Sd} (h1:ClOk w e.C D) (h2:StOk w e.X d) (k1:ClOk w f.C F) (k2:StOk w f.X g):
  bF w 16 #[.agg (e.cells D d).toArray,.agg (f.cells F g).toArray] (.bool<|e.sm f):=
 Uj (k1:=[.string e.k.1,.int .i64 e.k.2]) (c1:=e.C.cells D) (p1:=d.cells) (k2:=[.string f.k.1,.int .i64 f.k.2]) (c2:=f.C.cells F) (p2:=g.cells) rfl rfl rfl rfl rfl rfl rfl rfl (by split<;>simp) (λz a=>Un (h1.below a)<|k1.below a) λz a=>Ma _ _ _ _ z (h2.below a)<|k2.below a
theorem N8 (K:Nat->Ky) (n:Nat):∀(j:Nat) (h:j<=n),(∀x∈eZ K n j h,x.1<j)/\∀i,i<j->∃x∈eZ K n j h,K x.1=K i
 | 0,_=>⟨λx a=>(by cases a),λi hi=>by omega⟩
 | j+1,h=>by
  obtain⟨h1,h2⟩:=N8 K n j<|pY h;unfold eZ;by_cases b:oY K j=true
  .rw[kU b];refine⟨λx a=>?_,λi hi=>?_⟩
   .rcases mN.1 a with a | a
    .have:=h1 x a;omega
    rw[qx.1 a];exact rI _
   rcases pf.1 hi with hi | rfl
   .obtain⟨x,a,e⟩:=h2 i hi;exact⟨x,mP _ a,e⟩
   exact⟨⟨i,h⟩,mT _<|qx.2 rfl,rfl⟩
  rw[kZ b];refine⟨λx a=>(by have:=h1 x a;omega),λi hi=>?_⟩
  rcases pf.1 hi with hi | rfl
  .exact h2 i hi
  unfold oY at b;rw[mB,Classical.not_not] at b;obtain⟨m,d,e⟩:=m9.1 b;obtain⟨x,a,e2⟩:=h2 m<|kP.1 d;exact⟨x,a,e2.trans e⟩
theorem N9 (A:List En) (a:Nat->En) (n:Nat):∀(j:Nat) (h:j<=n),io A a j=A++((eZ (λj=>(a j).k) n j h).filter λx=>decide ((a x.1).k∉A.map (·.k))).map λx=>a x.1
 | 0,_=>by simp[io,eZ]
 | j+1,h=>by
  have f:=N9 A a n j<|pY h;obtain⟨h1,h2⟩:=N8 (λj=>(a j).k) n j<|pY h
  have key:(a j).k∈(io A a j).map (·.k)↔(a j).k∈A.map (·.k)\/¬oY (λj=>(a j).k) j=true:=by
   rw[f,lN,mN];unfold oY;rw[mB,Classical.not_not];constructor
   .rintro(h | h)
    .exact .inl h
    obtain⟨e,k,l⟩:=m9.1 h;obtain⟨x,g,rfl⟩:=m9.1 k;exact .inr<|m9.2 ⟨x.1,kP.2<|h1 x (List.mem_filter.1 g).1,l⟩
   rintro(h | h)
   .exact .inl h
   by_cases b:(a j).k∈A.map (·.k)
   .exact .inl b
   obtain⟨m,o,e⟩:=m9.1 h;obtain⟨x,g,e2⟩:=h2 m<|kP.1 o;have i:(a x.1).k=(a j).k:=e2.trans e;exact .inr<|m9.2 ⟨a x.1,m9.2 ⟨x,List.mem_filter.2 ⟨g,lh<|i ▸ b⟩,rfl⟩,i⟩
  show(if (a j).k∈(io A a j).map (·.k) then io A a j else io A a j++[a j])=_
  unfold eZ;by_cases d:oY (λj=>(a j).k) j=true
  .rw[kU d,List.filter_append,lN];by_cases b:(a j).k∈A.map (·.k)
   .rw[kU<|key.2<|.inl b,f,rL,kZ<|by rw[kQ<|not_not_intro b];decide];simp
   rw[kZ λh=>(key.1 h).elim b λh=>h d,f,rL,kU<|lh b];simp
  rw[kU<|key.2<|.inr d,kZ d];exact f
theorem LbA.pk {w:World} {q:Option Addr} {n:Nat} {es:Nat->Ent} (h:LbA w q n es):∃(a:Nat->Cd) (d:Nat->Sd),(n=0\/∃b o,q=some ⟨b,o,none⟩/\b<w.1.size/\∀i,i<n->w.rangeAt b (o+i*33) ((es i).cells (a i)<|d i))/\∀i,i<n->ClOk w (es i).C (a i)/\StOk w (es i).X (d i):=by
 rcases h.2 with h0 | ⟨b,o,e,g,a,d,f⟩
 .exact⟨default,default,.inl h0,λi hi=>by omega⟩
 exact⟨a,d,.inr ⟨b,o,e,g,λi hi=>(f i hi).1⟩,λi hi=>(f i hi).2⟩
def RowEt (w:World) (v:Value) (LL:List Ent):Prop:=∃(B:Nat) (L:List (Ent × Cd × Sd)),L.map (·.1)=LL/\w.ownsRow B 44 33 v L.length (L.flatMap gP)/\∀p∈L,ClOk w p.1.C p.2.1/\StOk w p.1.X p.2.2
theorem RowEt.lib {w:World} {v:Value} {a:List Ent} (h:RowEt w v a) (l:a.length<=1048576):∃q c,v=.slice q a.length c/\LbA w q a.length λi=>a.getD i default:=by
 obtain⟨B,L,rfl,e,k⟩:=h;rw[mM] at*
 rcases e with⟨hl,⟨rfl,h0⟩ | ⟨g,cap,cur,rfl,hge,hgg,hnc,hcm,hcs,ht⟩⟩
 .rw[h0];exact⟨none,0,rfl,by omega,.inl rfl⟩
 have j:w.ownsRow B 44 33 (.slice (some ⟨g,0,none⟩) L.length cap) L.length (L.flatMap gP):=⟨hl,.inr ⟨g,cap,cur,rfl,hge,hgg,hnc,hcm,hcs,ht⟩⟩;refine⟨_,_,rfl,l,.inr ⟨g,0,rfl,(kG.1 hgg).1,λt=>(L.getD t default).2.1,λt=>(L.getD t default).2.2,λt ht=>?_⟩⟩;have e1:L[t]?=some (L.getD t default):=by simp[List.getD,ht]
 have e2:(L.map Prod.fst).getD t default=(L.getD t default).1:=by simp[List.getD,ht]
 obtain⟨b,d⟩:=k _<|np e1;show w.rangeAt g (0+t*33) (((L.map Prod.fst).getD t default).cells _ _)/\ClOk w ((L.map Prod.fst).getD t default).C _/\StOk w ((L.map Prod.fst).getD t default).X _;rw[e2];exact⟨Mk (f:=gP) (λ_=>rfl) j e1,b,d⟩
theorem Uq {w:World} {q1 q2:Option Addr} {n:Nat} (c1 c2:Nat) {es:Nat->Ent} (h1:LbA w q1 n es) (h2:LbA w q2 n es):
  bF w 6 #[.slice q1 n c1,.slice q2 n c2] (.bool true):=by
 obtain⟨d,d1,k1,k2⟩:=h1.pk;obtain⟨e,d2,f,b⟩:=h2.pk
 exact TX (λi=>(es i).cells (d i)<|d1 i) (λi=>(es i).cells (e i)<|d2 i) h1.1 (λ_ _=>rfl) (λ_ _=>rfl) k1 f
  (λi hi z a=>TW ((k2 i hi).1.below a) ((b i hi).1.below a) ((k2 i hi).2.below a)<|(b i hi).2.below a)
set_option maxHeartbeats 2000000 in
set_option maxRecDepth 100000 in
theorem Kq {w:World} {q1 q2:Option Addr} {n1 n2 c1 c2 m:Nat} {u:Int} {f:Nat->Ent}
  (h4:cN 4 #[.slice q1 n1 c1,.slice q2 n2 c2] w λe w'=>∃b a,e=.returned (.tuple #[.slice b m a,.int .i64 u])/\LbA w' b m f/\Below w.1.size w w')
  (h5:∀z,Below w.1.size w z->cN 5 #[.slice q1 n1 c1,.slice q2 n2 c2] z λe w'=>∃d cb,e=.returned (.tuple #[.slice d m cb,.int .i64 u])/\LbA w' d m f/\Below z.1.size z w')
  (n:CA w 7 #[] (.bool true)):
  bF w 3 #[.slice q1 n1 c1,.slice q2 n2 c2] (.bool true):=by
 go_enter func3,ntmps3
 go_wp2_with (first
  | (go_at_call 4;refine h4.mono ?_;rintro x s ⟨b,a,rfl,h,j⟩
     have r:=bC h
     clear h)
  | (go_at_call 5;refine(h5 _ j).mono ?_;rintro x t ⟨d,cb,rfl,i,k⟩
     have l:=cV j k;have h6:=bC<|Uq a cb (r.out.below k) i
     clear i)
  | (go_at_call 6;refine jR h6.out λy o=>?_
     have g:=cV l o)
  | (go_at_call 7;refine jR (n _ g) λw5 q=>?_))
 go_ret;exact⟨rfl,cV g q⟩
def uA (n:Nat) (es:Nat->Ent):Prop:=∀i,i<n->fJ (es i).C/\dC (es i).X/\gt (es i).k
theorem HC (w:World) (es:Nat->Ent):LbA w none 0 es:=⟨by omega,.inl rfl⟩
def zt (p:Ent × Cd × Sd):En:=⟨p.1.k,p.1.C.cells p.2.1++p.2.2.cells⟩
theorem N' {p:Ent × Cd × Sd} (h:gt p.1.k):(zt p).Ok:=⟨rfl,λu hu=>Ent.one p.1 p.2.1 p.2.2 u<|lM _<|lM _ hu,h⟩
theorem Ur {w:World} {q1 q2:Option Addr} {n1 n2:Nat} (c1 c2:Nat) {es n:Nat->Ent} (hn:n1+n2<=1048576) (h:LbA w q1 n1 es) (g1:uA n1 es) (k:LbA w q2 n2 n) (g2:uA n2 n) (hT:Tb w)
  (P:CA w 7 #[] (.bool true)):
  bF w 3 #[.slice q1 n1 c1,.slice q2 n2 c2] (.bool true):=by
 obtain⟨W,ds,a1,E⟩:=h.pk;obtain⟨X,gs,b1,t⟩:=k.pk;obtain⟨D,I⟩:∃D:Nat->En,D=λi=>zt (es i,W i,ds i):=⟨_,rfl⟩;obtain⟨l,F⟩:∃l:Nat->En,l=λi=>zt (n i,X i,gs i):=⟨_,rfl⟩;have ab:∀i,i<n1->(D i).Ok:=λi hi=>by rw[I];exact N' (g1 i hi).2.2
 have ac:∀i,i<n2->(l i).Ok:=λi hi=>by rw[F];exact N' (g2 i hi).2.2
 have r1:∀z,Below w.1.size w z->cS z 33 n1 q1 λi=>(D i).cells:=λz a=>a1.imp id λ⟨b,o,e,d,S⟩=>⟨b,o,e,kw d a.size,λi hi=>by rw[I];exact bU (S i hi) a d⟩;have r2:∀z,Below w.1.size w z->cS z 33 n2 q2 λi=>(l i).cells:=λz a=>b1.imp id λ⟨b,o,e,d,S⟩=>⟨b,o,e,kw d a.size,λi hi=>by rw[F];exact bU (S i hi) a d⟩;obtain⟨A,N⟩:∃A,A=(List.range n1).map D:=⟨_,rfl⟩
 obtain⟨G,Y⟩:∃G:Bool,G=true↔∃j i,j<n2/\gL (A.map (·.k)) (l j).k=some i/\(es i).sm (n j)=false:=by
  by_cases hh:∃j i,j<n2/\gL (A.map (·.k)) (l j).k=some i/\(es i).sm (n j)=false
  .exact⟨true,λ_=>hh,λ_=>rfl⟩
  exact⟨false,λh=>absurd h<|by decide,λh=>(hh h).elim⟩
 obtain⟨T,aa⟩:∃T,T=(eZ (λj=>(l j).k) n2 n2<|kF _).filter λx=>decide ((l x.1).k∉A.map (·.k)):=⟨_,rfl⟩;obtain⟨M,R⟩:∃M:List (Ent × Cd × Sd),M=(List.range n1).map (λi=>(es i,W i,ds i))++T.map λx=>(n x.1,X x.1,gs x.1):=⟨_,rfl⟩;obtain⟨C,Q⟩:∃C:List Ent,C=M.map (·.1):=⟨_,rfl⟩;have ad:(List.range n1).map es++T.map (λx=>n x.1)=C:=by rw[Q,R];simp[Function.comp_def]
 have V:io A l n2=M.map zt:=by rw[N9 A l n2 n2<|kF _,<-aa,R,N,I,F];simp[Function.comp_def]
 have aj:C.length=(io A l n2).length:=by rw[Q,V];simp
 have jC:=(Kj A l n2).2;have ae:A.length=n1:=by rw[N];simp
 have jD:∀z,Below w.1.size w z->∀p∈M,ClOk z p.1.C p.2.1/\StOk z p.1.X p.2.2:=λz a p s=>by
  rw[R] at s
  rcases mN.1 s with s | s
  .obtain⟨i,hi,rfl⟩:=m9.1 s;exact⟨(E i<|kP.1 hi).1.below a,(E i<|kP.1 hi).2.below a⟩
  obtain⟨x,hx,rfl⟩:=m9.1 s;exact⟨(t x.1 x.2).1.below a,(t x.1 x.2).2.below a⟩
 have O:=Ug (c1:=c1) (c2:=c2) es n D l (λi j=>(es i).sm<|n j) G C hn ab ac (r1 w<|kE _ _) (r2 w<|kE _ _) A N (by rw[<-aa];exact ad) Y
  (λi j hi r z a=>by rw[I,F];exact Uo ((E i hi).1.below a) ((E i hi).2.below a) ((t j r).1.below a) ((t j r).2.below a)<|hT.below a)
  (λz a=>DL c1 (h.below a) λi hi=>⟨(g1 i hi).1,(g1 i hi).2.1⟩)
  (λj r z a=>by rw[F];exact N1 ((t j r).1.below a) (g2 j r).1 ((t j r).2.below a) (g2 j r).2.1)
 have J:=fun(z:World) (a:Below w.1.size w z)=>Ud (c1:=c1) (c2:=c2) D l (λi j=>(es i).sm<|n j) G hn ab ac (r1 z a) (r2 z a) A N Y
  (λi j hi r y hy=>by
    have d:=cV a hy;rw[I,F]
    exact Up ((E i hi).1.below d) ((E i hi).2.below d) ((t j r).1.below d)<|(t j r).2.below d)
 unfold F5 at O;unfold F4 at J;rw[V,mM] at J;rw[V,mM] at aj jC
 cases G with
 | true=>
  refine Kq (m:=0) (u:=90) (f:=es) (O.mono ?_) (λz a=>(J z a).mono ?_) P
  .rintro e w' ⟨g,d⟩;exact⟨none,0,g,HC _ _,d⟩
  rintro e w' ⟨g,d⟩;exact⟨none,0,g,HC _ _,d⟩
 | false=>
  by_cases Z:200<M.length
  .refine Kq (m:=0) (u:=4) (f:=es) (O.mono ?_) (λz a=>(J z a).mono ?_) P
   .rintro e w' ⟨g,d⟩;rw[kZ<|by decide,kU<|by omega] at g;exact⟨none,0,g,HC _ _,d⟩
   rintro e w' ⟨g,d⟩;rw[kZ<|by decide,kU Z] at g;exact⟨none,0,g,HC _ _,d⟩
  refine Kq (m:=C.length) (u:=0) (f:=λi=>C.getD i default) (O.mono ?_) (λz a=>(J z a).mono ?_) P
  .rintro e w' ⟨g,d⟩;rw[kZ<|by decide,kZ<|by omega] at g;obtain⟨v,L,rfl,hL,K,hE⟩:=g;obtain⟨q,c,rfl,U⟩:=RowEt.lib ⟨_,L,hL,K,λp s=>⟨(hE p s).1.ok λb d=>d.2.1,(hE p s).2.ok λb d=>d.2.1⟩⟩ (by omega);exact⟨q,c,rfl,U,d⟩
  rintro e w' ⟨g,d⟩;rw[kZ<|by decide,kZ Z] at g;obtain⟨v,rfl,K⟩:=g;rw[show (M.map zt).flatMap En.cells=M.flatMap gP by rw[List.flatMap_map];rfl] at K;obtain⟨q,c,rfl,U⟩:=RowEt.lib ⟨_,M,Q.symm,K,jD w'<|cV a d⟩ (by omega);exact⟨q,c,rfl,U,d⟩
theorem Oa:prog.cellsOf 44=33:=by kernel_rfl
theorem Us:prog.cellsOf 37=10:=by kernel_rfl
section
variable {H:Type} {enc:TypeId × Value->H} {w:World} {spare:Nat->Bool} {held:Bool} {B:DataW H->Nat}
theorem Ut (a:Bk B) {fuel:Nat} {cs:List Value} {x:DataW H × List MemPlace} (j:B x.1<=1048576) (h:DataW.trod enc prog w 0 spare held fuel 44 cs=some x):
  ∃(e:Ent) (D:Cd) (d:Sd),cs=e.cells D d/\ClOk w e.C D/\StOk w e.X d/\(fJ e.C/\dC e.X/\gt e.k):=by
 obtain⟨xs,n,L,rfl,i,k,b⟩:=nG underlying44 h;rw[Oa] at i;have t:xs.length=4:=k;clear k;obtain⟨a0,K,rfl,F⟩:=xA (n:=32) i;obtain⟨m,r,rfl,M⟩:=xA (n:=31) F;obtain⟨I,J,l,f,rfl⟩:=Gy t;have h0:DataW.trod enc prog w 0 spare held n 9 [a0]=some I:=by have:=b 0 _ rfl;simpa [c9] using this
 have h1:DataW.trod enc prog w 0 spare held n 3 [m]=some J:=by have:=b 1 _ rfl;simpa [c3] using this
 have h2:DataW.trod enc prog w 0 spare held n 37 (r.take 10)=some l:=by have:=b 2 _ rfl;simpa [Us] using this
 have h3:DataW.trod enc prog w 0 spare held n 42 (r.drop 10)=some f:=by
  have h:DataW.trod enc prog w 0 spare held n 42 ((r.drop 10).take<|prog.cellsOf 42)=some f:=b 3 _ rfl
  rwa [lI<|by rw[Jp,nN];omega] at h
 have o:B l.1<=1048576:=kJ (a.ag _ _<|by simp) j;have q:B f.1<=1048576:=kJ (a.ag _ _<|by simp) j;obtain⟨s,g,_,w0⟩:=pC underlying9 h0;obtain⟨v,e1,_,G⟩:=pJ underlying3 h1;simp only[nJ,qB] at g e1;subst g e1;obtain⟨C,D,e2,y,z⟩:=Tg a o h2;obtain⟨X,d,u,A,E⟩:=S9 a n _ f q h3;refine⟨⟨(s,v),C,X⟩,D,d,?_,y,A,z,E,w0,G⟩;show _=Value.string s::Value.int .i64 v::(C.cells D++d.cells);rw[<-e2,<-u,lS]
theorem Oc (a:Bk B) {fuel:Nat} {cs:List Value} {x:DataW H × List MemPlace} (z:B x.1<=1048576) (h:DataW.trod enc prog w 0 spare held fuel 22 cs=some x):
  ∃q n c es,cs=[.slice q n c]/\LbA w q n es/\uA n es/\n<=B x.1:=by
 obtain⟨q,n,c,rfl,_,l,f⟩:=BO underlying22 Oa (by decide) h;have g:=l B a
 rcases f with rfl | ⟨b,o,rfl,s,f⟩
 .exact⟨q,0,c,default,rfl,⟨by omega,.inl rfl⟩,λi hi=>by omega,g⟩
 have t:∀i,i<n->∃p:Ent × Cd × Sd,(w.rangeAt b (o+i*33) (p.1.cells p.2.1 p.2.2)/\ClOk w p.1.C p.2.1/\StOk w p.1.X p.2.2)/\(fJ p.1.C/\dC p.1.X/\gt p.1.k):=by intro i hi;obtain⟨ces,y,m1,C,u,A,ht,m⟩:=f i hi;obtain⟨e,D,d,rfl,j,k,r⟩:=Ut a (kJ (m B a) z) ht;exact⟨(e,D,d),⟨u,j,k⟩,r⟩
 obtain⟨F,hF⟩:=pick t;exact⟨_,n,c,λi=>(F i).1,rfl,⟨by omega,.inr ⟨b,o,rfl,s,λi=>(F i).2.1,λi=>(F i).2.2,λi hi=>(hF i hi).1⟩⟩,λi hi=>(hF i hi).2,g⟩
end
set_option maxRecDepth 100000 in
theorem Od {w:World} {base:Nat} {v:Value} {q:Option Addr} {n c:Nat} (hv:Value.okWide prog w .any base 22 v) (h:v.cells.toList=[.slice q n c]):v=.slice q n c:=by
 cases v with
 | agg cs=>exact absurd hv<|by simp[Value.okWide,Cell.okWide,Cell.ok]
 | _=>clear hv;simp_all [Value.cells]
