import Derived.ChangeArms
import Derived.DataReads
import Derived.Test.YthcfmhgihcjloaaGreatDoorPk04
namespace Go.Proofs.YthcfmhgihcjloaaGreatDoor
open Go Go.RowKit Tryz
set_option maxRecDepth 100000
set_option maxHeartbeats 16000000
theorem GJ {P:Program} {ops:Array Oper} {rest:List Oper} {op:Oper} {a:Act} {w:World} {Q:Exit->Act->World->Prop} (i:Region.wanted op (yielded ops a.tmps)=true) (ty:TypeId) (x:Operand) (j:op.op=.load ty x)
  (b o:Nat) (k:a.eval x=.pointer (some ⟨b,o,none⟩)) (cs:List Value) (d:TypeDesc) (f:w.rangeAt b o cs)
  (hu:P.underlying ty=some d) (g:d.isRow=true) (hi:(P.info? ty).map (·.size)=some cs.length)
  (h:wpList P ops Q rest (a.put op.dst<|.agg cs.toArray) w):wpList P ops Q (op::rest) a w:=
 BigFrame.wpList_want i λ_ e=>wp_load_mid ty x j b o k cs d f hu g hi<|e _ _ h
theorem QG (w:World) (a:Obj) (cs:List Value) (t:TypeId):((w.alloc a).alloc<|.cells cs.toArray t).rangeAt (w.1.size+1) 0 cs:=by have h:=oe (w.alloc a) cs t;rw[show (w.alloc a).1.size=w.1.size+1 by simp] at h;exact h
theorem Jn {z:World} {b:Nat} {d:Sd} (h:z.rangeAt b 0 d.cells):z.cell? ⟨b,20,none⟩=some (.slice d.kiq d.kin d.kic):=h 20 _ rfl
theorem xz {w:World} {d e:Sd} {R X L:Bool} {P:Nat->Bool} (ap:d.kin<=1099511627776)
  (hR:CA w 51 #[.agg<|qA d.s.g d.aq d.an d.ac d.cq d.cn d.cc,.agg<|qA e.s.g e.aq e.an e.ac e.cq e.cn e.cc] (.bool R))
  (hX:CA w 52 #[.agg<|nA d.e,.agg<|nA e.e] (.bool X))
  (hL:CA w 53 #[.agg d.cells.toArray,.agg e.cells.toArray] (.bool L))
  (hk:L=true->d.kin=e.kin/\∃A es:Nat->Sd,(d.kin=0\/∃b o,d.kiq=some ⟨b,o,none⟩/\b<w.1.size/\∀i,i<d.kin->w.rangeAt b (o+i*21) (A i).cells)/\(d.kin=0\/∃b o,e.kiq=some ⟨b,o,none⟩/\b<w.1.size/\∀i,i<d.kin->w.rangeAt b (o+i*21) (es i).cells)/\
    ∀i,i<d.kin->CA w 30 #[(A i).val,(es i).val] (.bool<|P i)):
  bF w 30 #[.agg d.cells.toArray,.agg e.cells.toArray] (.bool<|d.s.eq e.s&&(R&&(X&&(L&&(List.range d.kin).all P)))):=by
 obtain⟨T,t⟩:∃T,Hid (d.s.eq e.s=T):=⟨_,rfl⟩;rw[t.out];go_enter func30,ntmps30;go_upto_region 1 with fail;generalize F:(w.alloc _).alloc _=D;have u:Hid (Below w.1.size w D):=by rw[<-F];exact dF _ _ _
 have W:Hid (D.rangeAt w.1.size 0 d.cells):=by rw[<-F];exact mV (oe w d.cells 42) _
 have Y:Hid (D.rangeAt (w.1.size+1) 0 e.cells):=by rw[<-F];exact QG _ _ _ 42
 have C:Hid (w.1.size+1<D.1.size):=by rw[<-F];exact bC<|by simp
 clear F;have G:Hid (∀z,Below D.1.size D z->Below w.1.size w z/\z.rangeAt w.1.size 0 d.cells/\z.rangeAt (w.1.size+1) 0 e.cells):=λz h=>⟨cV u.out h,bU W.out h<|by have:=C.out;omega,bU Y.out h C.out⟩;obtain⟨a0,a,f,g,l,m,n,q,-,-,-⟩:=zE W.out;obtain⟨c0,c1,c2,c3,c4,r,s,c7,-,-,-⟩:=zE Y.out;have HR:=bC<|hR _ u.out;have D1:=bC<|BN W.out;have E1:=bC<|BN Y.out;have HX:=bC hX;have HL:=bC hL;have HK:=bC hk;have nb:Hid (d.s.eq e.s=((decide (d.s.ru=e.s.ru)&&decide (d.s.nm.toList=e.s.nm.toList)&&decide (d.s.ot.toList=e.s.ot.toList)&&decide (d.s.en.toList=e.s.en.toList)&&decide (d.s.ve=e.s.ve))&&(decide (d.s.kk=e.s.kk)&&decide (d.s.nn=e.s.nn)&&decide (d.s.pr=e.s.pr)))):=bC rfl;clear hR hX hL hk;generalize d.s.ru=r1 at a0 a f g l m n q c0 c1 c2 c3 c4 r s c7 nb;generalize e.s.ru=r2 at a0 a f g l m n q c0 c1 c2 c3 c4 r s c7 nb;generalize d.s.nm=m1 at a0 a f g l m n q c0 c1 c2 c3 c4 r s c7 nb;generalize e.s.nm=m2 at a0 a f g l m n q c0 c1 c2 c3 c4 r s c7 nb;generalize d.s.ot=o1 at a0 a f g l m n q c0 c1 c2 c3 c4 r s c7 nb;generalize e.s.ot=y at a0 a f g l m n q c0 c1 c2 c3 c4 r s c7 nb;generalize d.s.en=n1 at a0 a f g l m n q c0 c1 c2 c3 c4 r s c7 nb;generalize e.s.en=n2 at a0 a f g l m n q c0 c1 c2 c3 c4 r s c7 nb;generalize d.s.ve=v1 at a0 a f g l m n q c0 c1 c2 c3 c4 r s c7 nb;generalize e.s.ve=v2 at a0 a f g l m n q c0 c1 c2 c3 c4 r s c7 nb;generalize d.s.kk=k1 at a0 a f g l m n q c0 c1 c2 c3 c4 r s c7 nb;generalize e.s.kk=k2 at a0 a f g l m n q c0 c1 c2 c3 c4 r s c7 nb;generalize d.s.nn=j1 at a0 a f g l m n q c0 c1 c2 c3 c4 r s c7 nb;generalize e.s.nn=j2 at a0 a f g l m n q c0 c1 c2 c3 c4 r s c7 nb;generalize d.s.pr=p1 at a0 a f g l m n q c0 c1 c2 c3 c4 r s c7 nb;generalize e.s.pr=p2 at a0 a f g l m n q c0 c1 c2 c3 c4 r s c7 nb;by_cases e1:r1=r2;rotate_left
 .go_wp2_with fail;go_ret;exact⟨by rw[<-t.out,nb.out];simp[e1],u.out⟩
 subst e1;by_cases e2:m1.toList=m2.toList;rotate_left
 .go_wp2_with fail;go_ret;exact⟨by rw[<-t.out,nb.out];simp[e2],u.out⟩
 by_cases U:o1.toList=y.toList;rotate_left
 .go_wp2_with fail;go_ret;exact⟨by rw[<-t.out,nb.out];simp[U],u.out⟩
 by_cases e6:k1=k2;rotate_left
 .go_wp2_with fail;go_ret;exact⟨by rw[<-t.out,nb.out];simp[e6],u.out⟩
 subst e6;by_cases e7:j1=j2;rotate_left
 .go_wp2_with fail;go_ret;exact⟨by rw[<-t.out,nb.out];simp[e7],u.out⟩
 subst e7;by_cases e8:p1=p2;rotate_left
 .go_wp2_with fail;go_ret;exact⟨by rw[<-t.out,nb.out];simp[e8],u.out⟩
 subst e8;by_cases V:n1.toList=n2.toList;rotate_left
 .go_wp2_with fail;go_ret;exact⟨by rw[<-t.out,nb.out];simp[V],u.out⟩
 by_cases e5:v1=v2;rotate_left
 .go_wp2_with fail;go_ret;exact⟨by rw[<-t.out,nb.out];simp[e5],u.out⟩
 subst e5
 go_wp2_with (first
  | (with_reducible refine cW (op:=⟨some 60,_,_,_,_,_⟩) pe 59 w.1.size 3 [.bool d.s.g,.slice d.aq d.an d.ac,.slice d.cq d.cn d.cc] D1.out.1 rfl ?_)
  | (with_reducible refine cW (op:=⟨some 62,_,_,_,_,_⟩) pe 61 (w.1.size+1) 3 [.bool e.s.g,.slice e.aq e.an e.ac,.slice e.cq e.cn e.cc] E1.out.1 rfl ?_)
  | (go_at_call 51;refine jR HR.out λw2 ac=>?_
     have K:=bC<|G.out _ ac;have D2:=bC<|BN K.out.2.1;have E2:=bC<|BN K.out.2.2;have ai:=bC<|HX.out _ K.out.1;have x:=bC ac
     cases R)
  | (with_reducible refine cW (op:=⟨some 68,_,_,_,_,_⟩) eU 67 w.1.size 9 [.int .i64 d.e.k,.int .i64 d.e.f,.bool d.e.neg,.slice d.e.aq d.e.an d.e.ac,.slice d.e.cq d.e.cn d.e.cc,.string d.e.m,.slice d.e.sq d.e.sn d.e.sc] D2.out.2 rfl ?_)
  | (with_reducible refine cW (op:=⟨some 70,_,_,_,_,_⟩) eU 69 (w.1.size+1) 9 [.int .i64 e.e.k,.int .i64 e.e.f,.bool e.e.neg,.slice e.e.aq e.e.an e.e.ac,.slice e.e.cq e.e.cn e.e.cc,.string e.e.m,.slice e.e.sq e.e.sn e.e.sc] E2.out.2 rfl ?_)
  | (go_at_call 52;refine jR ai.out λw3 aj=>?_
     have b3:=bC<|cV x.out aj;have K:=bC<|G.out _ b3.out;have ah:=bC<|HL.out _ K.out.1;cases X;rotate_left;have D3:=bC K.out.2
     rotate_left)
  | (with_reducible refine cW (op:=⟨some 75,_,_,_,_,_⟩) jh 2 w.1.size 0 d.cells D3.out.1 rfl ?_)
  | (with_reducible refine cW (op:=⟨some 76,_,_,_,_,_⟩) jh 3 (w.1.size+1) 0 e.cells D3.out.2 rfl ?_)
  | (go_at_call 53;refine jR ah.out λw4 ak=>?_
     have b4:=bC<|cV b3.out ak;have K:=bC<|G.out _ b4.out;have u0:=Jn K.out.2.1
     cases L))
 iterate 3
  go_ret;exact⟨by rw[<-t.out,nb.out];simp[e2,U,V],K.out.1⟩
 obtain⟨aa,A,es,M,N,Z⟩:=HK.out (by trivial);replace aa:=bC aa;replace M:=bC M;replace N:=bC N;replace Z:=bC Z;have an:Hid (d.s.eq e.s=true):=by rw[nb.out];exact bC<|by simp[e2,U,V]
 go_loopw [83] (λi wr=>∃k:Nat,k<=d.kin/\i=.int .i64 k/\(∀j,j<k->P j=true)/\Below w4.1.size w4 wr) (λi _=>d.kin - (intOf i).toNat)
 case atStart=>exact⟨0,kL _,rfl,λj hj=>by omega,kE _ _⟩
 case round=>
  obtain⟨k,hk,rfl,I,ae⟩:=hrel;replace I:=bC I;have hb:=bC<|cV b4.out ae;have hW:=bC (G.out _ hb.out).1;by_cases J:k<d.kin
  .have am:(k:Int)<(d.kin:Int):=(by omega);have gv:(k:Int)<(e.kin:Int):=by have:=aa.out;omega
   rcases M.out with h0 | ⟨b,o,q1,al,af⟩
   .omega
   rcases N.out with h0 | ⟨x,y,q2,aR,ag⟩
   .omega
   replace q1:=bC q1;replace q2:=bC q2;have hS:=bC λz (C:Below wr.1.size wr z)=>show z.cell? ⟨w.1.size,20,none⟩=some (.slice (some ⟨b,o,none⟩) d.kin d.kic)/\z.cell? ⟨w.1.size+1,20,none⟩=some (.slice (some ⟨x,y,none⟩) e.kin e.kic)/\z.rangeAt b (o+k*21) (A k).cells/\z.rangeAt x (y+k*21) (es k).cells from (by obtain⟨K0,K1,K2⟩:=G.out z<|cV hb.out C;exact⟨by rw[<-q1.out];exact Jn K1,by rw[<-q2.out];exact Jn K2,bU (af k J) K0 al,bU (ag k J) K0 aR⟩);have ab:=bC λz (C:Below wr.1.size wr z)=>Z.out k J z<|cV hW.out C;clear af ag;go_upto_region 8 with fail;refine kN (S:=λz=>z.cell? ⟨w.1.size,20,none⟩=some (.slice (some ⟨b,o,none⟩) d.kin d.kic)/\z.cell? ⟨w.1.size+1,20,none⟩=some (.slice (some ⟨x,y,none⟩) e.kin e.kic)/\z.rangeAt b (o+k*21) (A k).cells/\z.rangeAt x (y+k*21) (es k).cells) (by kernel_rfl) (hS.out _ (kE _ _).drew) λhh=>?_;refine tk 0 _ rfl hh ?_;refine tk 1 (.slice (some ⟨b,o,none⟩) d.kin d.kic) rfl hh ?_;refine tk 2 _ rfl hh ?_;refine tk 3 (.pointer<|some ⟨b,o+k*21,none⟩) rfl hh ?_;refine fE jh 4 89 b (o+k*21) (A k).cells rfl rfl hh (λz h=>h.2.2.1) ?_;refine tk 5 _ rfl hh ?_;refine tk 6 (.slice (some ⟨x,y,none⟩) e.kin e.kic) rfl hh ?_;refine tk 7 _ rfl hh ?_;refine tk 8 (.pointer<|some ⟨x,y+k*21,none⟩) rfl hh ?_;refine fE jh 9 94 x (y+k*21) (es k).cells rfl rfl hh (λz h=>h.2.2.2) ?_;refine dy 10 rfl λK hK=>?_;go_simp;refine jR (ab.out _ (kE _ _).drew) λw5 ad=>?_;have E:=(kE wr.1.size wr).drew.trans<|ad.mono (kE wr.1.size wr).drew.size;refine hK.out _ _ (hS.out _ E) λh5=>?_;clear hK K hh ad;refine tk 11 _ rfl h5 ?_;refine kV (by kernel_rfl) ?_ _;clear h5 hS ab;replace E:=bC E
   cases hp:P k with
   | false=>go_wp2_with fail;go_ret;have O:(List.range d.kin).all P=false:=lV.2 ⟨k,kP.2 J,by simp[hp]⟩;exact⟨by simp[O],cV hW.out E.out⟩
   | true=>
    go_wp2_with fail;go_roundw
    case rel=>
     refine⟨k+1,by omega,by go_num,λj hj=>?_,cV ae E.out⟩
     rcases kS j k with h | h
     .exact I.out j h
     have:j=k:=(by omega);subst this;exact hp
    case measure=>simp[intOf];omega
  have ao:d.kin=k:=(by omega);go_wp2_with fail;go_ret;have O:(List.range d.kin).all P=true:=lj.2 λj hj=>I.out j (by have:=kP.1 hj;omega);exact⟨by rw[<-t.out,an.out];simp[O],hW.out⟩
theorem Jo {w:World} {q:Option Addr} {n:Nat} {e:Nat->St} (h:n=0\/∃b o,q=some ⟨b,o,none⟩/\b<w.1.size/\∃a:Nat->Sd,∀i,i<n->w.rangeAt b (o+i*21) (a i).cells/\StOk w (e i) (a i)):
  ∃a:Nat->Sd,(n=0\/∃b o,q=some ⟨b,o,none⟩/\b<w.1.size/\∀i,i<n->w.rangeAt b (o+i*21) (a i).cells)/\∀i,i<n->StOk w (e i) (a i):=by
 rcases h with h0 | ⟨b,o,rfl,f,a,d⟩
 .exact⟨λ_=>⟨⟨0,⟨#[]⟩,⟨#[]⟩,false,0,0,0,⟨#[]⟩,0⟩,none,0,0,none,0,0,⟨0,0,false,none,0,0,none,0,0,⟨#[]⟩,none,0,0⟩,none,0,0,none,0,0,none,0,0⟩,.inl h0,λi hi=>by omega⟩
 exact⟨a,.inr ⟨b,o,rfl,f,λi hi=>(d i hi).1⟩,λi hi=>(d i hi).2⟩
theorem Ma:∀(x y:St) (d e:Sd) (w:World),StOk w x d->StOk w y e->
  bF w 30 #[d.val,e.val] (.bool<|x.eq y):=by
 intro x
 induction x with
 | non=>exact λy d e w b=>b.elim
 | mk s nu de x pn ps bn bs n ki ih=>
  intro y d e w b f
  cases y with
  | non=>exact f.elim
  | mk s' nu' de' x' pn' ps' bn' bs' n' ki'=>
  unfold StOk at b f;obtain⟨⟨rfl,rfl,rfl,rfl⟩,z,A,C,D,E,F,G,k,u⟩:=b;obtain⟨⟨rfl,rfl,rfl,rfl⟩,I,J,K,L,M,N,O,R,l⟩:=f;unfold St.eq
  have o:∀a,Below w.1.size w a->bF a 51 #[.agg<|qA d.s.g d.aq d.an d.ac d.cq d.cn d.cc,.agg<|qA e.s.g e.aq e.an e.ac e.cq e.cn e.cc] (.bool<|eo d.s.g nu de e.s.g nu' de'):=
   λa h1=>Jl (z.below h1) (A.below h1) (I.below h1) (J.below h1) C K D L
  have q:∀a,Below w.1.size w a->bF a 52 #[d.e.val,e.e.val] (.bool<|x.eq x'):=
   λa h1=>Jm x x' d.e e.e a (E.below h1)<|M.below h1
  have m:∀a,Below w.1.size w a->bF a 53 #[d.val,e.val] (.bool<|mo d.pon ps d.arn bs d.kin e.pon ps' e.arn bs' e.kin):=
   λa h1=>xy (F.below h1) (N.below h1) (G.below h1) (O.below h1) k R
  refine(xz k o q m (P:=λi=>(ki i).eq<|ki' i) λh=>?_).mono λr w' h=>⟨by rw[h.1];simp only[mo,Bool.and_assoc],h.2⟩;have j:d.kin=e.kin:=by simp only[mo,lL,mB] at h;exact h.2.2
  obtain⟨g,k1,k2⟩:=Jo u;rw[<-j] at l;obtain⟨es,l1,l2⟩:=Jo l;exact⟨j,g,es,k1,l1,λi hi t h2=>ih i (ki' i) (g i) (es i) t ((k2 i hi).below h2)<|(l2 i hi).below h2⟩
structure Bk {H:Type} (B:DataW H->Nat):Prop where
 el:∀es rest e,e∈es->B e<=B (.slice es rest)
 len:∀es rest,es.length<=B (.slice es rest)
 ag:∀ps p,p∈ps->B p<=B (.agg ps)
theorem pick {α:Type} [Inhabited α] {n:Nat} {p:Nat->α->Prop} (h:∀i,i<n->∃x,p i x):∃f:Nat->α,∀i,i<n->p i (f i):=
 ⟨λi=>if hi:i<n then(h i hi).choose else default,λi hi=>by dsimp only;rw[dif_pos hi];exact(h i hi).choose_spec⟩
section
variable {H:Type} {enc:TypeId × Value->H} {w:World} {spare:Nat->Bool} {held:Bool}
theorem Mc {a:Addr} {n:Nat} {cs:List Value} (h:w.cells? 0 a n=some cs) (f:0<n):a=⟨a.block,a.off,none⟩/\a.block<w.1.size/\cs.length=n/\w.rangeAt a.block a.off cs:=by
 obtain⟨_,d,b⟩:=World.cells?_some h;have h0:=b 0 f;have hv:∃v,w.cell? a=some v:=by rw[show a.add 0=a from rfl] at h0;rw[h0];exact⟨cs[0]'(by omega),by rw[k8]⟩
 obtain⟨v,hv⟩:=hv
 have g:a.spot=none:=by
  unfold World.cell? at hv;split at hv
  .cases hs:a.spot with
   | none=>rfl
   | some s=>simp[hs] at hv
  cases hv
 refine⟨?_,sQ w _ hv,d,λj u hu=>?_⟩
 .cases a;simp_all
 have e:j<n:=by rw[<-d];rw[lC] at hu;exact hu.1
 have:=b j e;rw[hu] at this;rw[<-this];congr 1;unfold Addr.add;split
 .rename_i hj0;subst hj0;cases a;simp_all
 rfl
theorem BO {t e:TypeId} {d fuel:Nat} {cs:List Value} {x:DataW H × List MemPlace} (ht:prog.underlying t=some (.slice e)) (A:prog.cellsOf e=d) (h0:0<d)
  (h:DataW.trod enc prog w 0 spare held fuel t cs=some x):∃q n c,cs=[.slice q n c]/\n<=c/\(∀B:DataW H->Nat,Bk B->n<=B x.1)/\
    (n=0\/∃b o,q=some ⟨b,o,none⟩/\b<w.1.size/\∀i,i<n->∃ces y m,m<fuel/\w.rangeAt b (o+i*d) ces/\ces.length=d/\DataW.trod enc prog w 0 spare held m e ces=some y/\∀B:DataW H->Nat,Bk B->B y.1<=B x.1):=by
 rcases DataW.trod_slice ht h with⟨rfl,rfl⟩ | ⟨a,len,cap,elems,rest,n,rfl,rfl,rfl,_,hlc,_,hel,aP,_,_⟩
 .exact⟨none,0,0,rfl,kF _,λB _=>kL _,.inl rfl⟩
 refine⟨some a,len,cap,rfl,hlc,λB f=>by have:=f.len (elems.map (·.1)) (rest.map (·.1));simpa [hel] using this,?_⟩;by_cases C:len=0
 .exact .inl C
 refine .inr ?_;have E:=aP 0 (by omega);have j:∀i,i<len->∃ces y,w.cells? 0 (a.add<|i*d) d=some ces/\DataW.trod enc prog w 0 spare held n e ces=some y/\elems[i]?=some y:=(by intro i hi;have g:=aP i hi;rw[A] at g;have k:i<elems.length:=(by omega);rw[k8 k,Option.bind_eq_some_iff] at g;obtain⟨ces,h1,h2⟩:=g;exact⟨ces,_,h1,h2,k8 k⟩);obtain⟨c0,F,r,_,_⟩:=j 0 (by omega);rw[tq,show a.add 0=a from rfl] at r;obtain⟨s,u,_,_⟩:=Mc r h0;refine⟨a.block,a.off,by rw[<-s],u,λi hi=>?_⟩;obtain⟨ces,y,k1,k2,D⟩:=j i hi;obtain⟨_,_,z,l⟩:=Mc k1 h0;have e1:(a.add<|i*d).block=a.block:=by unfold Addr.add;split<;>rfl
 have e2:(a.add<|i*d).off=a.off+i*d:=by
  unfold Addr.add;split
  .rename_i hz0;rw[hz0];rfl
  rfl
 rw[e1,e2] at l;refine⟨ces,y,n,rI n,l,z,k2,λB f=>f.el _ _ _ ?_⟩;exact List.mem_map_of_mem<|np D
theorem QH:prog.cellsOf 120=1:=by kernel_rfl
theorem Md:prog.cellsOf 28=1:=by kernel_rfl
theorem c3:prog.cellsOf 3=1:=by kernel_rfl
theorem c4:prog.cellsOf 4=1:=by kernel_rfl
theorem c9:prog.cellsOf 9=1:=by kernel_rfl
theorem Ec:prog.cellsOf 30=3:=by kernel_rfl
theorem QI:prog.cellsOf 31=1:=by kernel_rfl
theorem Ed:prog.cellsOf 33=7:=by kernel_rfl
theorem QJ:prog.cellsOf 38=1:=by kernel_rfl
theorem QK:prog.cellsOf 39=1:=by kernel_rfl
theorem QM:prog.cellsOf 40=1:=by kernel_rfl
theorem Jp:prog.cellsOf 42=21:=by kernel_rfl
theorem QN:prog.cellsOf 93=4:=by kernel_rfl
theorem QO:prog.cellsOf 96=8:=by kernel_rfl
theorem Me {fuel:Nat} {cs:List Value} {x:DataW H × List MemPlace} {B:DataW H->Nat} (l:Bk B) (E:B x.1<=1048576) (h:DataW.trod enc prog w 0 spare held fuel 28 cs=some x):
  ∃q n c xs,cs=[.slice q n c]/\Sl w (.slice q n c) xs/\xs.length<=1048576:=by
 obtain⟨q,n,c,rfl,t,r,d⟩:=BO underlying28 QH (by decide) h;have D:=r B l
 rcases d with rfl | ⟨b,o,rfl,s,d⟩
 .exact⟨q,0,c,[],rfl,⟨λj=>by simp,by simp,q,c,rfl,by simp,.inl rfl⟩,by simp⟩
 have u:∀i,i<n->∃z:Int,w.cell? ⟨b,o+i,none⟩=some (.int .u32 z)/\0<=z/\z<=4294967295:=by intro i hi;obtain⟨ces,y,m,_,A,C,ht,_⟩:=d i hi;obtain⟨z,rfl,_,k⟩:=pJ underlying120 ht;have:=A 0 _ rfl;simp only[Lit.wf,lL,mB] at k;refine⟨z,by simpa using this,?_⟩;exact k
 obtain⟨f,e⟩:=pick u;have a:((List.range n).map f).length=n:=by simp
 have g:∀i,i<n->((List.range n).map f).getD i 0=f i:=by intro i hi;simp[List.getD,hi]
 refine⟨some ⟨b,o,none⟩,n,c,(List.range n).map f,rfl,⟨λj=>?_,by rw[a];omega,some ⟨b,o,none⟩,c,by rw[a],by rw[a];exact t,.inr ⟨b,o,rfl,s,λi hi=>?_⟩⟩,by rw[a];omega⟩
 .by_cases hj:j<n
  .rw[g j hj];exact⟨(e j hj).2.1,(e j hj).2.2⟩
  rw[List.getD,lP<|by rw[a];omega];decide
 rw[a] at hi;rw[g i hi];exact(e i hi).1
end
instance:Inhabited Ex:=⟨.non⟩
instance:Inhabited Nd:=⟨⟨0,0,false,none,0,0,none,0,0,⟨#[]⟩,none,0,0⟩⟩
instance:Inhabited Pt:=⟨⟨⟨#[]⟩,false,[],[]⟩⟩
instance:Inhabited Va:=⟨⟨⟨#[]⟩,false,none,0,0,none,0,0⟩⟩
instance:Inhabited Bd:=⟨⟨⟨#[]⟩,.non⟩⟩
instance:Inhabited Bi:=⟨⟨⟨#[]⟩,0,0,false,none,0,0,none,0,0,⟨#[]⟩,none,0,0⟩⟩
instance:Inhabited St:=⟨.non⟩
instance:Inhabited Sd:=⟨⟨⟨0,⟨#[]⟩,⟨#[]⟩,false,0,0,0,⟨#[]⟩,0⟩,none,0,0,none,0,0,default,none,0,0,none,0,0,none,0,0⟩⟩
theorem xA {α:Type} {n:Nat}:∀{l:List α},l.length=n+1->∃a t,l=a::t/\t.length=n
 | [],h=>by simp at h
 | a::t,h=>⟨a,t,rfl,by simpa using h⟩
section
variable {H:Type} {enc:TypeId × Value->H} {w:World} {spare:Nat->Bool} {held:Bool} {B:DataW H->Nat}
theorem Fm (b:Bk B) {fuel:Nat} {cs:List Value} {x:DataW H × List MemPlace} (i:B x.1<=1048576) (h:DataW.trod enc prog w 0 spare held fuel 30 cs=some x):
  ∃g q n c q' k a nu de,cs=[.bool g,.slice q n c,.slice q' k a]/\Sl w (.slice q n c) nu/\Sl w (.slice q' k a) de/\nu.length<=1048576/\de.length<=1048576:=by
 obtain⟨xs,n,_,rfl,f,j,d⟩:=nG underlying30 h;rw[Ec] at f;have y:xs.length=3:=j;clear j;obtain⟨a0,r,s,rfl⟩:=LQ f;obtain⟨A,l,o,rfl⟩:=LQ y;have h0:DataW.trod enc prog w 0 spare held n 4 [a0]=some A:=by have:=d 0 _ rfl;simpa [c4] using this
 have h1:DataW.trod enc prog w 0 spare held n 28 [r]=some l:=by have:=d 1 _ rfl;simpa [Md] using this
 have h2:DataW.trod enc prog w 0 spare held n 28 [s]=some o:=by have:=d 2 _ rfl;simpa [Md] using this
 have t:B l.1<=1048576:=kJ (b.ag _ _<|by simp) i;have u:B o.1<=1048576:=kJ (b.ag _ _<|by simp) i;obtain⟨g,e,_⟩:=qU underlying4 h0;obtain⟨q,m,c,nu,e1,s1,l1⟩:=Me b t h1;obtain⟨q',z,a,de,e2,s2,l2⟩:=Me b u h2;simp only[nJ,qB] at e e1 e2;subst e e1 e2;exact⟨g,q,m,c,q',z,a,nu,de,rfl,s1,s2,l1,l2⟩
end
def im (x:Nat->Value) (f:Nat) (v:Value):Nat->Value:=λk=>if k=f then v else x k
def bY (ops:Array Oper) (f:Nat):Option Tmp:=(ops[f]?).bind (·.dst)
def cE (ops:Array Oper):List Nat->Act->(Nat->Value)->Act
 | [],a,_=>a
 | f::fs,a,x=>(cE ops fs a x).put (bY ops f)<|x f
theorem Ai (a:Act) (d:Option Tmp) (u v:Value):(a.put d u).put d v=a.put d v:=by cases d<;>simp[Act.put]
theorem Jq {ops:Array Oper} {d:Option Tmp} (v:Value) (x:Nat->Value):∀(fs:List Nat) (a:Act),(∀f∈fs,∀t,bY ops f=some t->d≠some t)->(cE ops fs a x).put d v=cE ops fs (a.put d v) x
 | [],_,_=>rfl
 | f::fs,a,h=>by unfold cE;rw[Act.put_comm _ _ _<|h f mq,Jq v x fs a λg b=>h g<|lM _ b]
theorem Mf {ops:Array Oper} {f:Nat} (v:Value) (x:Nat->Value):∀(fs:List Nat) (a:Act),f∉fs->cE ops fs a (im x f v)=cE ops fs a x
 | [],_,_=>rfl
 | g::fs,a,h=>by unfold cE;rw[Mf v x fs a λb=>h<|lM _ b,show im x f v g=x g from kZ fun(e:g=f)=>h<|by rw[e];exact mq]
theorem Jr {ops:Array Oper} {f:Nat} (v:Value) (x:Nat->Value):∀(fs:List Nat) (a:Act),fs.Nodup->(∀f∈fs,∀g∈fs,f≠g->∀t,bY ops f=some t->bY ops g≠some t)->f∈fs->(cE ops fs a x).put (bY ops f) v=cE ops fs a (im x f v)
 | g::fs,a,hn,hd,d=>by
  obtain⟨h1,h2⟩:=List.nodup_cons.1 hn;unfold cE
  rcases lO.1 d with rfl | d
  .rw[Ai,Mf v x fs a h1,im,kU rfl]
  have h:g≠f:=λe=>h1<|e ▸ d;rw[Act.put_comm _ _ _<|hd g mq f (lM _ d) h,Jr v x fs a h2 (λa i b j=>hd a (lM _ i) b<|lM _ j) d,im,kZ h]
def dA (md:Region.Mode) (ops:Array Oper) (l1:Array Bool):Nat->Array Bool->List Nat->List Nat->Bool
 | 0,l,cs,fs=>cs.isEmpty&&fs.isEmpty&&l==l1
 | n+1,l,cs,fs=>!(Region.ready md ops l).isEmpty&&(Region.ready md ops l).all λi=>
  (match cs with | []=>false | c::cs'=>c==i&&dA md ops l1 n (l.setIfInBounds i true) cs' fs)||(fs.contains i&&dA md ops l1 n (l.setIfInBounds i true) cs (fs.erase i))
def eI (ops:Array Oper) (cs fs:List Nat):Bool:=decide fs.Nodup&&fs.all λf=>(cs++fs).all λg=>g==f||(match bY ops f with | some t=>bY ops g != some t | none=>true)
theorem GL {ops:Array Oper} {cs fs:List Nat} (h:eI ops cs fs=true):fs.Nodup/\∀f∈fs,∀g∈cs++fs,g≠f->∀t,bY ops f=some t->bY ops g≠some t:=by simp only[eI,lL,mB,lj,sU,rm] at h;refine⟨h.1,λf a g b d t ht=>?_⟩;have:=(h.2 f a g b).resolve_left d;rw[ht] at this;simpa using this
section
variable {P:Program} {ops:Array Oper} {Q:Exit->Act->World->Prop} {md:Region.Mode} {S:World->Prop} {fuel:Nat} {l1:Array Bool} {fs:List Nat} {a0:Act} {w0:World}
def uw (P:Program) (md:Region.Mode) (ops:Array Oper) (Q:Exit->Act->World->Prop) (S:World->Prop) (fuel:Nat) (l1:Array Bool) (fs:List Nat) (G:List Nat->(Nat->Value)->World->Prop):List Nat->Act->World->Prop
 | [],a,w=>∀x z,Below w.1.size w z->G [] x z->wpAnyH P md ops Q S fuel l1 (cE ops fs a x) z
 | c::cs,a,w=>∀x z,Below w.1.size w z->wpOp P ops Q c (λa' z'=>Below z.1.size z z'/\∃v,a'=(cE ops fs a x).put (bY ops c) v/\uw P md ops Q S fuel l1 fs G cs (a.put (bY ops c) v) z') (cE ops fs a x) z
theorem QP {G:List Nat->(Nat->Value)->World->Prop} {r:List Nat} (J:eI ops r fs=true) (X:∀c∈r,c∉fs) (M:∀z,Below w0.1.size w0 z->S z)
  (V:∀b x z k,Below z.1.size z k->G b x z->G b x k)
  (U:∀f∈fs,∀b x a z,(∀t,(∀i∈r++fs,bY ops i≠some t)->a.tmps[t]?=a0.tmps[t]?)->Below w0.1.size w0 z->G b x z->wpOp P ops Q f (λE k=>∃v,E=a.put (bY ops f) v/\Below z.1.size z k/\G (b.erase f) (im x f v) k) a z):
  ∀(n:Nat) (l:Array Bool) (cs b:List Nat) (a:Act) (x:Nat->Value) (w z:World),dA md ops l1 n l cs b=true->(∀c∈cs,c∈r)->(∀f∈b,f∈fs)->(∀t,(∀i∈r++fs,bY ops i≠some t)->a.tmps[t]?=a0.tmps[t]?)->
   Below w0.1.size w0 z->Below w.1.size w z->G b x z->uw P md ops Q S fuel l1 fs G cs a w->wpAnyH P md ops Q S (fuel+n) l (cE ops fs a x) z:=by
 obtain⟨hn,N⟩:=GL J
 have L:∀(a:Act) (d:Option Tmp) (v:Value) (t:Nat),d≠some t->(a.put d v).tmps[t]?=a.tmps[t]?:=λa d v t h=>by
  cases d with
  | none=>rfl
  | some d=>exact rN λe=>h<|by rw[e]
 have R:∀(a:Act) (x:Nat->Value) (t:Nat) (s:List Nat),(∀i∈s,bY ops i≠some t)->(cE ops s a x).tmps[t]?=a.tmps[t]?:=by
  intro a x t s
  induction s with
  | nil=>intro _;rfl
  | cons g s D=>intro h;unfold cE;rw[L _ _ _ _<|h g mq];exact D λi hi=>h i<|lM _ hi
 intro n
 induction n with
 | zero=>intro l cs b a x w z o _ _ _ _ A y C;simp only[dA,lL,List.isEmpty_iff,rm] at o;obtain⟨⟨rfl,rfl⟩,rfl⟩:=o;exact C x z A y
 | succ n D=>
  intro l cs b a x w z o h1 h2 h3 F A y C;simp only[dA,lL,pN,sD,lj,sU] at o;refine⟨λh=>absurd h o.1,λi hi=>?_⟩
  rcases o.2 i hi with h | ⟨m,Z⟩
  .cases cs with
   | nil=>cases h
   | cons c cs=>simp only[lL,rm] at h;obtain⟨rfl,h⟩:=h;refine tt ?_ (C x z A);rintro E k ⟨u,v,rfl,W⟩;have q:=cV F u;have I:=h1 c mq;refine⟨M _ q,?_⟩;rw[Jq v x fs a λf m t ht=>N f m c (mP _ I) (λe=>X c I<|e ▸ m) t ht];exact D _ cs b _ x k k h (λd J=>h1 d<|lM _ J) h2 (λt ht=>(L _ _ _ _<|ht c<|mP _ I).trans<|h3 t ht) q (kE _ _) (V _ _ _ _ u y) W
  have Y:i∈b:=(by simpa using m);have O:=h2 i Y;refine tt ?_ (U i O b x (cE ops fs a x) z (λt ht=>(R _ _ _ _ λj hj=>ht j<|mT _ hj).trans<|h3 t ht) F y);rintro E k ⟨v,rfl,u,T⟩;have q:=cV F u;refine⟨M _ q,?_⟩;rw[Jr v x fs a hn (λf m g K aa=>N f m g (mT _ K)<|Ne.symm aa) O];exact D _ cs (b.erase i) a _ w k Z h1 (λg K=>h2 g<|sZ K) h3 q (cV A u) T C
theorem xB (cs fs:List Nat) (n:Nat) {l:Array Bool} (l1:Array Bool) (e:Nat->Value) (G:List Nat->(Nat->Value)->World->Prop) (o:∀z,Below w0.1.size w0 z->S z) (j:G fs e w0)
  (m:∀b x z d,Below z.1.size z d->G b x z->G b x d)
  (k:∀f∈fs,∀b x a z,(∀t,(∀i∈cs++fs,bY ops i≠some t)->a.tmps[t]?=a0.tmps[t]?)->Below w0.1.size w0 z->G b x z->wpOp P ops Q f (λg d=>∃v,g=a.put (bY ops f) v/\Below z.1.size z d/\G (b.erase f) (im x f v) d) a z)
  (r:uw P md ops Q S fuel l1 fs G cs a0 w0)
  (y:dA md ops l1 n l cs fs=true:=by kernel_rfl) (u:eI ops cs fs=true:=by kernel_rfl) (s:∀c∈cs,c∉fs:=by decide) (q:cE ops fs a0 e=a0:=by rfl):wpAnyH P md ops Q S (fuel+n) l a0 w0:=by
 have:=QP (P:=P) (Q:=Q) (fuel:=fuel) (a0:=a0) u s o m k n l cs fs a0 e w0 w0 y (λ_ h=>h) (λ_ h=>h) (λ_ _=>rfl) (kE _ _) (kE _ _) j r
 rwa [q] at this
theorem Fo {G:List Nat->(Nat->Value)->World->Prop} {c:Nat} {cs:List Nat} {a:Act} {w:World} {o:Oper} (f:ops[c]?=some o)
  (h:∀x z,Below w.1.size w z->∀K:Act->World->Prop,Shut (∀v b,Below z.1.size z b->uw P md ops Q S fuel l1 fs G cs (a.put o.dst v) b->K ((cE ops fs a x).put o.dst v) b)->
    if Region.wanted o (yielded ops (cE ops fs a x).tmps)=true then Oper.wp P o (cE ops fs a x) z K Q else K ((cE ops fs a x).put o.dst undef) z):uw P md ops Q S fuel l1 fs G (c::cs) a w:=by
 intro x z i;unfold wpOp;have e:bY ops c=o.dst:=by unfold bY;rw[f];rfl
 simp only[f,e];have:=h x z i (λg b=>Below z.1.size z b/\∃v,g=(cE ops fs a x).put o.dst v/\uw P md ops Q S fuel l1 fs G cs (a.put o.dst v) b) λv b h1 h2=>⟨h1,v,rfl,h2⟩;split at this
 .rename_i d;rw[kU d];exact .inl this
 rename_i d;rw[kZ d];exact this
def Mg (W:Nat) (fs:List Nat) (ty:Nat->TypeId) (zs:Nat->Array Value) (rem:List Nat) (x:Nat->Value) (z:World):Prop:=
 ∃p:Nat->Nat,(∀f∈fs,f∉rem->x f=.pointer (some ⟨p f,0,none⟩)/\W<=p f/\z.1[p f]?=some (.cells (zs f) (ty f) (0,0)))/\∀f∈fs,∀g∈fs,f∉rem->g∉rem->f≠g->p f≠p g
theorem C7 (cs fs:List Nat) (n:Nat) {l:Array Bool} (l1:Array Bool) (ty:Nat->TypeId) (zs:Nat->Array Value) (D:∀z,Below w0.1.size w0 z->S z)
  (G:uw P md ops Q S fuel l1 fs (Mg w0.1.size fs ty zs) cs a0 w0)
  (F:∀f∈fs,∀(a:Act) (z:World) (K:Act->World->Prop),K (a.put (bY ops f)<|.pointer<|some ⟨z.1.size,0,none⟩) (z.alloc<|.cells (zs f)<|ty f)->wpOp P ops Q f K a z)
  (L:dA md ops l1 n l cs fs=true:=by kernel_rfl) (r:eI ops cs fs=true:=by kernel_rfl) (I:∀c∈cs,c∉fs:=by decide) (E:cE ops fs a0 (λ_=>undef)=a0:=by rfl):wpAnyH P md ops Q S (fuel+n) l a0 w0:=by
 have N:=(GL r).1;refine xB cs fs n l1 (λ_=>undef) (Mg w0.1.size fs ty zs) D ⟨λ_=>0,λf h1 h2=>absurd h1 h2,λf h1 g _ h2=>absurd h1 h2⟩ ?_ ?_ G L r I E
 .rintro o x z z' m ⟨p,h1,h2⟩;exact⟨p,λf d b=>⟨(h1 f d b).1,(h1 f d b).2.1,(m.block _ (kG.1 (h1 f d b).2.2).1).trans (h1 f d b).2.2⟩,h2⟩
 rintro f d o x a z _ m ⟨p,h1,h2⟩
 refine F f d a z _ ⟨_,rfl,(kE _ z).alloc (kF _) _,λk=>if k=f then z.1.size else p k,λg i b=>?_,λg i k s u y t=>?_⟩
 .by_cases e:g=f
  .subst e;simp only[im,if_true];exact⟨trivial,m.size,kR _ _⟩
  have M:g∉o:=λh=>b<|nr e |>.2 h
  obtain⟨A,C,q⟩:=h1 g i M;simp only[im,kZ e];exact⟨A,C,(((kE z.1.size z).alloc (kF _)<|.cells (zs f)<|ty f).block _ (kG.1 q).1).trans q⟩
 have lt:∀j∈fs,j≠f->j∉o.erase f->p j<z.1.size:=λj J e b=>(kG.1 (h1 j J λh=>b<|nr e |>.2 h).2.2).1
 by_cases e1:g=f
 .have e2:k≠f:=λe=>t<|e1.trans e.symm;have:=lt k s e2 y;simp only[kU e1,kZ e2];omega
 by_cases e2:k=f
 .have:=lt g i e1 u;simp only[kZ e1,kU e2];omega
 simp only[kZ e1,kZ e2]
 exact h2 g i k s (λh=>u<|nr e1 |>.2 h) (λh=>y<|nr e2 |>.2 h) t
end
section
variable {P:Program} {ops:Array Oper} {Q:Exit->Act->World->Prop} {md:Region.Mode} {S:World->Prop} {fuel:Nat} {l1:Array Bool} {fs:List Nat} {a0:Act} {w0:World}
def pi (P:Program) (md:Region.Mode) (ops:Array Oper) (Q:Exit->Act->World->Prop) (S:World->Prop) (fuel:Nat) (l1:Array Bool) (fs:List Nat) (G:List (Nat × Nat)->List Nat->(Nat->Value)->World->Prop):List (Nat × Nat)->List Nat->Act->World->Prop
 | I,[],a,w=>∀x z,Below w.1.size w z->G I [] x z->wpAnyH P md ops Q S fuel l1 (cE ops fs a x) z
 | I,c::cs,a,w=>∀x z,Below w.1.size w z->wpOp P ops Q c (λa' z'=>Below z.1.size z z'/\∃v,a'=(cE ops fs a x).put (bY ops c) v/\pi P md ops Q S fuel l1 fs G ((z.1.size,z'.1.size)::I) cs (a.put (bY ops c) v) z') (cE ops fs a x) z
theorem QQ {G:List (Nat × Nat)->List Nat->(Nat->Value)->World->Prop} {r:List Nat} (K:eI ops r fs=true) (Y:∀c∈r,c∉fs) (N:∀z,Below w0.1.size w0 z->S z)
  (W:∀I b x z k,Below z.1.size z k->G I b x z->G ((z.1.size,k.1.size)::I) b x k)
  (V:∀f∈fs,∀I b x a z,(∀t,(∀i∈r++fs,bY ops i≠some t)->a.tmps[t]?=a0.tmps[t]?)->Below w0.1.size w0 z->G I b x z->wpOp P ops Q f (λE k=>∃v,E=a.put (bY ops f) v/\Below z.1.size z k/\G I (b.erase f) (im x f v) k) a z):
  ∀(n:Nat) (l:Array Bool) (I:List (Nat × Nat)) (cs b:List Nat) (a:Act) (x:Nat->Value) (w z:World),dA md ops l1 n l cs b=true->(∀c∈cs,c∈r)->(∀f∈b,f∈fs)->(∀t,(∀i∈r++fs,bY ops i≠some t)->a.tmps[t]?=a0.tmps[t]?)->
   Below w0.1.size w0 z->Below w.1.size w z->G I b x z->pi P md ops Q S fuel l1 fs G I cs a w->wpAnyH P md ops Q S (fuel+n) l (cE ops fs a x) z:=by
 obtain⟨hn,O⟩:=GL K
 have M:∀(a:Act) (d:Option Tmp) (v:Value) (t:Nat),d≠some t->(a.put d v).tmps[t]?=a.tmps[t]?:=λa d v t h=>by
  cases d with
  | none=>rfl
  | some d=>exact rN λe=>h<|by rw[e]
 have T:∀(a:Act) (x:Nat->Value) (t:Nat) (s:List Nat),(∀i∈s,bY ops i≠some t)->(cE ops s a x).tmps[t]?=a.tmps[t]?:=by
  intro a x t s
  induction s with
  | nil=>intro _;rfl
  | cons g s D=>intro h;unfold cE;rw[M _ _ _ _<|h g mq];exact D λi hi=>h i<|lM _ hi
 intro n
 induction n with
 | zero=>intro l I cs b a x w z o _ _ _ _ A y C;simp only[dA,lL,List.isEmpty_iff,rm] at o;obtain⟨⟨rfl,rfl⟩,rfl⟩:=o;exact C x z A y
 | succ n D=>
  intro l I cs b a x w z o h1 h2 h3 F A y C;simp only[dA,lL,pN,sD,lj,sU] at o;refine⟨λh=>absurd h o.1,λi hi=>?_⟩
  rcases o.2 i hi with h | ⟨m,aa⟩
  .cases cs with
   | nil=>cases h
   | cons c cs=>simp only[lL,rm] at h;obtain⟨rfl,h⟩:=h;refine tt ?_ (C x z A);rintro E k ⟨u,v,rfl,X⟩;have q:=cV F u;have J:=h1 c mq;refine⟨N _ q,?_⟩;rw[Jq v x fs a λf m t ht=>O f m c (mP _ J) (λe=>Y c J<|e ▸ m) t ht];exact D _ _ cs b _ x k k h (λd K=>h1 d<|lM _ K) h2 (λt ht=>(M _ _ _ _<|ht c<|mP _ J).trans<|h3 t ht) q (kE _ _) (W _ _ _ _ _ u y) X
  have Z:i∈b:=(by simpa using m);have R:=h2 i Z;refine tt ?_ (V i R I b x (cE ops fs a x) z (λt ht=>(T _ _ _ _ λj hj=>ht j<|mT _ hj).trans<|h3 t ht) F y);rintro E k ⟨v,rfl,u,U⟩;have q:=cV F u;refine⟨N _ q,?_⟩;rw[Jr v x fs a hn (λf m g L ab=>O f m g (mT _ L)<|Ne.symm ab) R];exact D _ I cs (b.erase i) a _ w k aa h1 (λg L=>h2 g<|sZ L) h3 q (cV A u) U C
theorem Mh (cs fs:List Nat) (n:Nat) {l:Array Bool} (l1:Array Bool) (e:Nat->Value) (G:List (Nat × Nat)->List Nat->(Nat->Value)->World->Prop) (o:∀z,Below w0.1.size w0 z->S z) (j:G [] fs e w0)
  (m:∀I d x z b,Below z.1.size z b->G I d x z->G ((z.1.size,b.1.size)::I) d x b)
  (k:∀f∈fs,∀I d x a z,(∀t,(∀i∈cs++fs,bY ops i≠some t)->a.tmps[t]?=a0.tmps[t]?)->Below w0.1.size w0 z->G I d x z->wpOp P ops Q f (λg b=>∃v,g=a.put (bY ops f) v/\Below z.1.size z b/\G I (d.erase f) (im x f v) b) a z)
  (r:pi P md ops Q S fuel l1 fs G [] cs a0 w0)
  (y:dA md ops l1 n l cs fs=true:=by kernel_rfl) (u:eI ops cs fs=true:=by kernel_rfl) (s:∀c∈cs,c∉fs:=by decide) (q:cE ops fs a0 e=a0:=by rfl):wpAnyH P md ops Q S (fuel+n) l a0 w0:=by
 have:=QQ (P:=P) (Q:=Q) (fuel:=fuel) (a0:=a0) u s o m k n l [] cs fs a0 e w0 w0 y (λ_ h=>h) (λ_ h=>h) (λ_ _=>rfl) (kE _ _) (kE _ _) j r
 rwa [q] at this
theorem it {G:List (Nat × Nat)->List Nat->(Nat->Value)->World->Prop} {I:List (Nat × Nat)} {c:Nat} {cs:List Nat} {a:Act} {w:World} {o:Oper} (f:ops[c]?=some o)
  (h:∀x z,Below w.1.size w z->∀K:Act->World->Prop,Shut (∀v b,Below z.1.size z b->pi P md ops Q S fuel l1 fs G ((z.1.size,b.1.size)::I) cs (a.put o.dst v) b->K ((cE ops fs a x).put o.dst v) b)->
    if Region.wanted o (yielded ops (cE ops fs a x).tmps)=true then Oper.wp P o (cE ops fs a x) z K Q else K ((cE ops fs a x).put o.dst undef) z):pi P md ops Q S fuel l1 fs G I (c::cs) a w:=by
 intro x z i;unfold wpOp;have e:bY ops c=o.dst:=by unfold bY;rw[f];rfl
 simp only[f,e];have:=h x z i (λg b=>Below z.1.size z b/\∃v,g=(cE ops fs a x).put o.dst v/\pi P md ops Q S fuel l1 fs G ((z.1.size,b.1.size)::I) cs (a.put o.dst v) b) λv b h1 h2=>⟨h1,v,rfl,h2⟩;split at this
 .rename_i d;rw[kU d];exact .inl this
 rename_i d;rw[kZ d];exact this
def Mi (W:Nat) (fs:List Nat) (ty:Nat->TypeId) (zs:Nat->Array Value) (I:List (Nat × Nat)) (rem:List Nat) (x:Nat->Value) (z:World):Prop:=
 ∃p:Nat->Nat,(∀f∈fs,f∉rem->x f=.pointer (some ⟨p f,0,none⟩)/\W<=p f/\z.1[p f]?=some (.cells (zs f) (ty f) (0,0)))/\(∀f∈fs,∀g∈fs,f∉rem->g∉rem->f≠g->p f≠p g)/\(∀J∈I,J.2<=z.1.size)/\∀f∈fs,f∉rem->∀J∈I,¬(J.1<=p f/\p f<J.2)
theorem Fp (cs fs:List Nat) (n:Nat) {l:Array Bool} (l1:Array Bool) (ty:Nat->TypeId) (zs:Nat->Array Value) (E:∀z,Below w0.1.size w0 z->S z)
  (L:pi P md ops Q S fuel l1 fs (Mi w0.1.size fs ty zs) [] cs a0 w0)
  (G:∀f∈fs,∀(a:Act) (z:World) (K:Act->World->Prop),K (a.put (bY ops f)<|.pointer<|some ⟨z.1.size,0,none⟩) (z.alloc<|.cells (zs f)<|ty f)->wpOp P ops Q f K a z)
  (O:dA md ops l1 n l cs fs=true:=by kernel_rfl) (s:eI ops cs fs=true:=by kernel_rfl) (M:∀c∈cs,c∉fs:=by decide) (F:cE ops fs a0 (λf=>a0.tmps.getD ((bY ops f).getD 0) undef)=a0:=by rfl):wpAnyH P md ops Q S (fuel+n) l a0 w0:=by
 have T:=(GL s).1;refine Mh cs fs n l1 (λf=>a0.tmps.getD ((bY ops f).getD 0) undef) (Mi w0.1.size fs ty zs) E ⟨λ_=>0,λf h1 h2=>absurd h1 h2,λf h1 g _ h2=>absurd h1 h2,λ_ h=>(by cases h),λf h1 h2=>absurd h1 h2⟩ ?_ ?_ L O s M F
 .rintro I q x z z' o ⟨p,h1,h2,h3,h4⟩;refine⟨p,λf i b=>⟨(h1 f i b).1,(h1 f i b).2.1,(o.block _ (kG.1 (h1 f i b).2.2).1).trans (h1 f i b).2.2⟩,h2,λJ d=>?_,λf i b J d=>?_⟩
  .rcases lO.1 d with rfl | d
   .exact kF _
   exact kJ (h3 J d) o.size
  rcases lO.1 d with rfl | d
  .exact λh=>Nat.not_lt.2 h.1 (kG.1 (h1 f i b).2.2).1
  exact h4 f i b J d
 rintro f i I q x a z _ o ⟨p,h1,h2,h3,h4⟩
 refine G f i a z _ ⟨_,rfl,(kE _ z).alloc (kF _) _,λk=>if k=f then z.1.size else p k,λg m b=>?_,λg m k t y A u=>?_,λJ d=>kJ (h3 J d)<|by simp,λg m b J d=>?_⟩
 rotate_right
 .by_cases e:g=f
  .simp only[kU e];exact λh=>Nat.not_lt.2 (h3 J d) h.2
  simp only[kZ e];exact h4 g m (λh=>b<|nr e |>.2 h) J d
 .by_cases e:g=f
  .subst e;simp only[im,if_true];exact⟨trivial,o.size,kR _ _⟩
  have R:g∉q:=λh=>b<|nr e |>.2 h
  obtain⟨C,D,r⟩:=h1 g m R;simp only[im,kZ e];exact⟨C,D,(((kE z.1.size z).alloc (kF _)<|.cells (zs f)<|ty f).block _ (kG.1 r).1).trans r⟩
 have lt:∀j∈fs,j≠f->j∉q.erase f->p j<z.1.size:=λj N e b=>(kG.1 (h1 j N λh=>b<|nr e |>.2 h).2.2).1
 by_cases e1:g=f
 .have e2:k≠f:=λe=>u<|e1.trans e.symm;have:=lt k t e2 A;simp only[kU e1,kZ e2];omega
 by_cases e2:k=f
 .have:=lt g m e1 y;simp only[kZ e1,kU e2];omega
 simp only[kZ e1,kZ e2]
 exact h2 g m k t (λh=>y<|nr e1 |>.2 h) (λh=>A<|nr e2 |>.2 h) u
end
