import Derived.Test.YthcfmhgihcjloaaGreatDoorPk30
namespace Go.Proofs.YthcfmhgihcjloaaGreatDoor
open Go Go.RowKit Tryz
def io (A:List En) (eB:Nat->En):Nat->List En
 | 0=>A
 | j+1=>if (eB j).k∈(io A eB j).map (·.k) then io A eB j else io A eB j++[eB j]
theorem Kj (A:List En) (a:Nat->En):∀j,A.length<=(io A a j).length/\(io A a j).length<=A.length+j
 | 0=>⟨kF _,kF _⟩
 | j+1=>by
  have:=Kj A a j;unfold io;split
  .omega
  simp only[kY,lF,mS];omega
theorem zn (A:List En) (b:Nat->En) (d:∀e∈A,e.Ok):∀j,(∀i,i<j->(b i).Ok)->∀e∈io A b j,e.Ok
 | 0,_=>d
 | j+1,hB=>by
  have:=zn A b d j λi hi=>hB i (by omega);unfold io;split
  .exact this
  intro e a
  rcases mN.1 a with a | a
  .exact this e a
  rw[qx.1 a];exact hB j<|by omega
theorem N3 (A:List En) (a:Nat->En):∀j,∀x∈A.map (·.k),x∈(io A a j).map (·.k)
 | 0,_,h=>h
 | j+1,x,h=>by
  have:=N3 A a j x h;unfold io;split
  .exact this
  rw[lN];exact mP _ this
theorem N4:∀(M:List En) (i:Nat) (e:En) {j:Nat},(∀e∈M,e.Ok)->M[i]?=some e->j<33->(M.flatMap En.cells)[i*33+j]?=e.cells[j]?:=by
 intro M
 induction M with
 | nil=>intro i e j _ h;simp at h
 | cons x M g=>
  intro i e j a h d;have f:=(a x mq).len'
  cases i with
  | zero=>simp only[mK,mc] at h;subst h;rw[nU,tq,mF,lW<|by omega]
  | succ i=>rw[nU,mz<|by omega,f,show(i+1)*33+j - 33=i*33+j by omega];exact g i e (λe b=>a e<|lM _ b) (by simpa using h) d
theorem Ub {w:World} {B n:Nat} {v:Value} {L:List En} (h:w.ownsRow B 44 33 v n (L.flatMap En.cells)) (d:L.length=n) (f:n<=1048576) (a:∀e∈L,e.Ok):∃q c,v=.slice q n c/\LibOk w q n L:=by
 have l:=h.lt
 rcases h.2 with⟨rfl,rfl⟩ | ⟨g,cap,cur,rfl,hg,hb,h1,h2,h3,h4⟩
 .exact⟨none,0,rfl,d,f,a,.inl rfl⟩
 refine⟨_,_,rfl,d,f,a,.inr ⟨g,0,rfl,(kG.1 hb).1,λi e b=>?_⟩⟩;intro j u hu;have hi:i<L.length:=(lC.1 b).1;have k:j<33:=by rw[<-(a e<|np b).len'];exact(lC.1 hu).1
 have h5:=N4 L i e a b k;rw[<-h4,List.getElem?_take_of_lt<|by omega,hu] at h5;simp only[mF];simp[World.cell?,hb];rw[<-qH];exact h5
theorem F3 {w w':World} {B n:Nat} {v:Value} {xs:List Value} (h:w.ownsRow B 44 33 v n xs) (a:Below w.1.size w w'):w'.ownsRow B 44 33 v n xs:=
 h.kept (row:=none) ⟨a.os,a.tape,a.output,a.size,λb d _=>a.block b d⟩ (by cases hv:v.ownBlock with | none=>exact .inl rfl | some _=>exact .inr<|by simp)
theorem Kk {L:List Ky} {k:Ky}:gL L k=none↔¬k∈L:=by rw[<-Option.not_isSome_iff_eq_none,Hg];simp
def F4 (B:Nat) (bad:Bool) (L:List En) (e:Ending) (w':World):Prop:=
 if bad then e=.returned (.tuple #[.slice none 0 0,.int .i64 90]) else if 200<L.length then e=.returned (.tuple #[.slice none 0 0,.int .i64 4]) else ∃v,e=.returned (.tuple #[v,.int .i64 0])/\w'.ownsRow B 44 33 v L.length (L.flatMap En.cells)
theorem Kl:(prog.info? 44).map (λi=>(i.zero,i.size,i.bytes))=some (some<|.agg #[.string ⟨#[]⟩,.int .i64 0,.int .i64 0,.int .i64 0,.bool false,.slice none 0 0,.slice none 0 0,.string ⟨#[]⟩,.slice none 0 0,.bool false,.slice none 0 0,.slice none 0 0,.int .i64 0,.string ⟨#[]⟩,.string ⟨#[]⟩,.bool false,.slice none 0 0,.slice none 0 0,.int .i64 0,.int .i64 0,.int .i64 0,.int .i64 0,.int .i64 0,.bool false,.slice none 0 0,.slice none 0 0,.string ⟨#[]⟩,.slice none 0 0,.slice none 0 0,.string ⟨#[]⟩,.int .i64 0,.slice none 0 0,.slice none 0 0],33,520):=by kernel_rfl
set_option maxRecDepth 100000 in
theorem Uc {w:World} (base:Nat) (t ty e:TypeId) (i:TypeInfo) (size c:Nat) (ht:prog.underlying t=some (.slice e)) (hi:prog.info? e=some i)
  (v:Value) (n:Nat) (xs:List Value) (q:Option Addr) (b:w.ownsRow base e size v n xs):
  (Builtin.append_ #[t,t] ty #[v,.slice q 0 c]).run prog w=.ok v w:=by
 cases q with
 | none=>
  rcases b.2 with⟨rfl,rfl⟩ | ⟨g,cap,cur,rfl,_,_,hnc,_⟩
  .simp[Builtin.append_,qf ht,sizeOf,typeInfo,hi,Builtin.lenOf,Builtin.firstCells]
  simp[Builtin.append_,qf ht,sizeOf,typeInfo,hi,Builtin.lenOf,Builtin.firstCells,hnc,storeCells]
 | some a=>
  rcases b.2 with⟨rfl,rfl⟩ | ⟨g,cap,cur,rfl,_,_,hnc,_⟩
  .simp[Builtin.append_,qf ht,sizeOf,typeInfo,hi,Builtin.lenOf,Builtin.firstCells,loadCells,loadCellsFrom]
  simp[Builtin.append_,qf ht,sizeOf,typeInfo,hi,Builtin.lenOf,Builtin.firstCells,hnc,storeCells,loadCells,loadCellsFrom]
set_option maxRecDepth 100000 in
theorem Cn {w:World} {ops:Array Oper} {rest:List Oper} {op:Oper} {a:Act} {Q:Exit->Act->World->Prop} (s x:Nat) (base:Nat) (v:Value) (n:Nat) (xs:List Value) (d:w.ownsRow base 44 33 v n xs) (q:Option Addr) (m c:Nat) (news:List Value) (C:news.length=m*33)
  (y:m=0\/∃f,q=some f/\∀j u,news[j]?=some u->w.cell? (f.add j)=some u) (h1:∀u∈news,u.oneCell'=true) (H:n+m<=2097152) (z:base<=w.1.size)
  (h:∀q' b w',w'.ownsRow base 44 33 (.slice q' (n+m) b) (n+m) (xs++news)->w.grownBy w' v.ownBlock->wpList prog ops Q rest (a.put op.dst<|.slice q' (n+m) b) w')
  (o:op.op=.call { callee:=.builtin .append,args:=#[.tmp s,.tmp x],argTypes:=#[22,22] }:=by with_reducible rfl) (i:a.eval (.tmp s)=v:=by kernel_rfl) (r:a.eval (.tmp x)=.slice q m c:=by kernel_rfl) (l:op.guard=none:=by kernel_rfl):wpList prog ops Q (op::rest) a w:=by
 obtain⟨t,hi,E,F,G⟩:=mE Kl
 rcases mX m with h0 | h0
 .subst h0;obtain rfl:news=[]:=kM (by omega);have k:=Uc base 22 op.type 44 t 33 c underlying22 hi v n xs q d
  have hv:∃q' b,v=.slice q' (n+0) b:=by
   rcases d.2 with⟨e,e2⟩ | ⟨g,cap,cur,e,_⟩
   .subst e2;exact⟨_,_,e⟩
   exact⟨_,_,e⟩
  obtain⟨q',b,rfl⟩:=hv;simp only[tz,mU] at k h i d;refine pR l λK B=>?_;unfold Oper.wp;simp[execOp,o,resolve,invoke,builtin,i,r,k,Result.andThen];exact B _ _<|h q' b w d ⟨rfl,rfl,rfl,kF _,λ_ _ _=>rfl⟩
 obtain⟨f,rfl,D⟩:=y.resolve_left<|by omega
 exact wpList_append_lies w l (.tmp s) (.tmp x) 22 o base 44 t _ 33 520 underlying22 hi E F G rfl (by decide) v n xs i d f m c news r C D h1 h0 (by unfold maxLen;omega) (by omega) z _ rfl
  λg cap w' h2 h3 _ _=>h _ _ w' h2 h3
set_option maxRecDepth 100000 in
set_option maxHeartbeats 16000000 in
theorem Ud {w:World} {q1 q2:Option Addr} {g nb c1 c2:Nat} (R d:Nat->En) (E:Nat->Nat->Bool) (ac:Bool) (hn:g+nb<=1048576) (ao:∀i,i<g->(R i).Ok) (ay:∀i,i<nb->(d i).Ok)
  (h1:cS w 33 g q1 λi=>(R i).cells) (h2:cS w 33 nb q2 λi=>(d i).cells) (A:List En) (hA:A=(List.range g).map R)
  (bM:ac=true↔∃j i,j<nb/\gL (A.map (·.k)) (d j).k=some i/\E i j=false)
  (hQ:∀i j,i<g->j<nb->CA w 16 #[.agg (R i).cells.toArray,.agg (d j).cells.toArray] (.bool<|E i j)):
  cN 5 #[.slice q1 g c1,.slice q2 nb c2] w λe w'=>F4 w.1.size ac (io A d nb) e w'/\Below w.1.size w w':=by
 have V:A.length=g:=by rw[hA];simp
 have W:∀e∈A,e.Ok:=λe he=>by rw[hA] at he;obtain⟨i,hi,rfl⟩:=m9.1 he;exact ao i<|kP.1 hi
 have ae:∀i,i<g->A[i]?=some (R i):=λi hi=>by rw[hA];simp[hi]
 have lib:LibOk w q1 g A:=⟨V,by omega,W,h1.imp id λ⟨b,o,e,hb,hc⟩=>⟨b,o,e,hb,λi x hx=>by
  have hi:i<g:=by rw[<-V];exact(lC.1 hx).1
  rw[ae i hi] at hx;cases hx
  exact hc i hi⟩⟩
 have aj:(A.flatMap En.cells).length=g*33:=by
  rw[<-V];clear lib ae V hA bM
  induction A with
  | nil=>rfl
  | cons x A ih=>rw[nU,kY,(W x mq).len',ih λe he=>W e<|lM _ he,lF];omega
 have bl:g=0\/∃ad,q1=some ad/\∀(z:World),Below w.1.size w z->∀j u,(A.flatMap En.cells)[j]?=some u->z.cell? (ad.add j)=some u:=by
  rcases h1 with h0 | ⟨b,o,e,hb,hc⟩
  .exact .inl h0
  refine .inr ⟨⟨b,o,none⟩,e,λz hz j u hu=>?_⟩;have hj:j<g*33:=(by rw[<-aj];exact(lC.1 hu).1);have hi:j / 33<g:=(by omega);have h:=N4 A (j / 33) _ W (ae _ hi) (Nat.mod_lt j<|by decide);rw[show j / 33*33+j % 33=j by omega,hu] at h;have:=fg hz hb<|hc _ hi _ u h.symm;rw[show o+j / 33*33+j % 33=o+j by omega] at this;unfold Addr.add;split
  .rename_i h0;subst h0;simpa using this
  exact this
 have cw:∀u∈A.flatMap En.cells,u.oneCell'=true:=λu hu=>by obtain⟨e,he,hu⟩:=List.mem_flatMap.1 hu;have:=(W e he).one';rw[qM,lj] at this;exact this u hu
 have H2:=bC h2;have a7:=bC hQ;have hF:∀(k:Ky) z,Below w.1.size w z->bF z 14 #[.slice q1 g c1,.agg #[.string k.1,.int .i64 k.2]] (ni (A.map (·.k)) k):=λk z hz=>Np c1 (lib.below hz) k;have a6:=bC hF;have ap:=bC bM;have H1:=bC h1;have a3:=bC cw;have a1:=bC bl;have a2:=bC aj;have a5:=bC W;have HA:=bC hA;have Eg:=bC ao;clear h1 h2 hQ hF bM cw bl aj W hA ae lib ao;have O0:=Js w 44 33;have B0:=fH w<|.cells #[] 44;have Z0:(w.alloc<|.cells #[] 44).1.size=w.1.size+1:=by simp
 go_enter func5,ntmps5
 go_wp2_with (with_reducible refine Cn (op:=⟨some 15,_,_,_,_,_⟩) 13 14 w.1.size _ 0 [] O0 q1 g c1 (A.flatMap En.cells) a2.out (a1.out.imp id λ⟨ad,e,h⟩=>⟨ad,e,h _ B0⟩) a3.out (by omega) (by omega) ?_
              intro J c3 w3 di aw;rw[mF,mL] at di;have B3:Below w.1.size w w3:=B0.grown aw (by omega) (λk e=>by cases e;exact kF _);have e0:0+g=g:=mF _
              clear aw)
 clear O0 B0 Z0
 go_loopw [6,18] (λx i wr=>∃(k:Nat) (J:Option Addr) (c3:Nat),k<=nb/\i=.int .i64 k/\x=.slice J (io A d k).length c3/\wr.ownsRow w.1.size 44 33 (.slice J (io A d k).length c3) (io A d k).length ((io A d k).flatMap En.cells)/\Hid (∀j,j<k->∀i,gL (A.map (·.k)) (d j).k=some i->E i j=true)/\Below w.1.size w wr) (λ_ i _=>nb - (intOf i).toNat)
 case atStart=>exact⟨0,J,c3,kL _,rfl,by rw[show io A d 0=A from rfl,V],by rw[show io A d 0=A from rfl,V];simpa using di,λj hj=>by omega,B3⟩
 case round=>
  clear di B3;obtain⟨k,J,c3,hk,rfl,rfl,al,ag,T⟩:=hrel;have aC:=T.size;by_cases ah:k<nb
  .have am:(k:Int)<(nb:Int):=(by omega);obtain⟨b2,o2,rfl,aR,av⟩:=H2.out.resolve_left (by omega);have gy:Hid (wr.rangeAt b2 (o2+k*33) (d k).cells):=bC<|bU (av k ah) T aR;have X:=ay k ah;have a9:=bC λi hi=>a7.out i k hi ah;have hL:=Kj A d k;have aD:=bC<|zn A d a5.out k λi hi=>ay i<|by omega
   have Z:Hid (io A d (k+1)=if (d k).k∈(io A d k).map (·.k) then io A d k else io A d k++[d k]):=rfl
   have HP:=bC fun(h:∀i,gL (A.map (·.k)) (d k).k=some i->E i k=true)=>(λj (hj:j<k+1) i hi=>by
    rcases pf.1 hj with hj | rfl
    .exact ag.out j hj i hi
    exact h i hi:∀j,j<k+1->∀i,gL (A.map (·.k)) (d j).k=some i->E i j=true)
   have HB:=bC fun(i:Nat) (h:gL (A.map (·.k)) (d k).k=some i) (e:E i k=false)=>ap.out.2 ⟨k,i,ah,h,e⟩;have HM:=bC<|N3 A d k;clear av ag;generalize aq:io A d k=L at*;generalize eJ:d k=a at*;have lb:=X.len';have ob:=X.one';have Ob:Hid (∀u∈a.cells,u.oneCell'=true):=(by have:=ob;rw[qM,lj] at this;exact this);have iW:=bC al;have aB:=al.lt;have Wa:=bC<|T.alloc aC<|.cells a.cells.toArray 44;have ra:=bC<|oe wr a.cells 44;have I:wr.1.size<(wr.alloc<|.cells a.cells.toArray 44).1.size:=(by simp);have Bk:=bC<|fH wr<|.cells a.cells.toArray 44;have aE:=bC aq;have aF:=bC eJ;have Wr:=bC T;clear aq eJ al T;have hF:=a6.out a.k;have r:CA wr 14 #[.slice J L.length c3,.agg #[.string a.k.1,.int .i64 a.k.2]] (ni (L.map (·.k)) a.k):=λz hz=>by obtain⟨q,c,hv,hl⟩:=Ub (F3 iW.out hz) rfl (by omega) aD.out;cases hv;exact Np c3 hl a.k
   cases H:gL (A.map (·.k)) a.k with
   | none=>
    unfold ni at hF;rw[H] at hF;simp only at hF
    go_wp2_with (first
     | (with_reducible refine cW (op:=⟨some 21,_,_,_,_,_⟩) iq 20 b2 (o2+k*33) a.cells gy.out lb ?_)
     | (with_reducible refine si (op:=⟨none,_,_,_,_,_⟩) iq 8 21 a.cells lb ob ?_)
     | (with_reducible refine cW (op:=⟨some 24,_,_,_,_,_⟩) iq 8 wr.1.size 0 a.cells ra.out lb ?_)
     | (go_at_call 15;with_reducible refine jR (Ev a X _) λwk y=>?_
        have P:=bC<|cV Wa.out y;have rk:=bC<|bU ra.out y I;have U:=kw I y.size;have ai:=hF _ P.out;have Bl:=bC<|Bk.out.trans<|y.mono<|qh I
        clear y Wa ra I Bk)
     | (go_at_call 14;with_reducible refine jR ai λwf n=>?_
        have N:=bC<|cV P.out n;have Y:=bC<|bU rk.out n U;have aa:=kw U n.size;have M:=bC<|cV Bl.out n
        clear n P rk U Bl))
    refine kN (S:=λz=>z.rangeAt wr.1.size 0 a.cells) (by kernel_rfl) Y.out λf=>?_;refine tk 0 _ rfl f ?_;refine tk 1 _ rfl f ?_;refine tk 2 undef rfl f ?_ (.inr ⟨by rfl,rfl⟩);refine tk 3 undef rfl f ?_ (.inr ⟨by rfl,rfl⟩);refine tk 4 undef rfl f ?_ (.inr ⟨by rfl,rfl⟩);refine tk 5 undef rfl f ?_ (.inr ⟨by rfl,rfl⟩);refine tk 6 undef rfl f ?_ (.inr ⟨by rfl,rfl⟩);refine tk 7 undef rfl f ?_ (.inr ⟨by rfl,rfl⟩);refine tk 8 undef rfl f ?_ (.inr ⟨by rfl,rfl⟩);refine tk 9 _ rfl f ?_;refine kV (by kernel_rfl) ?_ _;have F:=bC N.out.drew;have Bd:=bC M.out.drew;have C:Hid (wf.drew.rangeAt wr.1.size 0 a.cells):=Y.out;have D:wr.1.size<wf.drew.1.size:=aa;clear N M Y aa f;generalize wf.drew=wd at*
    cases Q:gL (L.map (·.k)) a.k with
    | none=>
     unfold ni at r;rw[Q] at r;simp only at r;have t:=Z.out;rw[kZ<|Kk.1 Q] at t
     go_wp2_with (first
      | (with_reducible refine cW (op:=⟨some 41,_,_,_,_,_⟩) iq 8 wr.1.size 0 a.cells C.out lb ?_)
      | (go_at_call 15;with_reducible refine jR (Ev a X _) λwg l=>?_
         have G:=bC<|cV F.out l;have K:=bC<|bU C.out l D;have B:=kw D l.size;have s:=bC<|cV Bd.out l;have ab:=r _ s.out
         clear l F C D Bd)
      | (go_at_call 14;with_reducible refine jR ab λwh m=>?_
         have O:=bC<|cV G.out m;have rh:=bC<|bU K.out m B;have an:=kw B m.size;have Bh:=bC<|cV s.out m
         clear m G K B s)
      | (with_reducible refine cW (op:=⟨some 49,_,_,_,_,_⟩) iq 8 wr.1.size 0 a.cells rh.out lb ?_)
      | (with_reducible refine N2 ?_ (.tmp 49) ?_ a.cells lb ?_ ?_
         rotate_left 1
         .with_reducible rfl
         .rfl
         rotate_left 1
         rfl)
      | (with_reducible refine Cn (op:=⟨some 51,_,_,_,_,_⟩) 48 50 w.1.size _ L.length (L.flatMap En.cells) (F3 iW.out<|Bh.out.alloc (qh an) _) (some ⟨wh.1.size,0,none⟩) 1 1 a.cells (lb.trans<|by decide) (.inr ⟨_,rfl,World.news_of_block<|kR wh<|.cells a.cells.toArray 44⟩) Ob.out (by omega) (by have:=O.out.size;simp;omega) ?_
         intro q4 c4 w4 ii jk))
     go_roundw
     case rel=>
      refine⟨k+1,q4,c4,by omega,by go_num,?_,?_,HP.out (λi hi=>by rw[H] at hi;cases hi),(O.out.alloc (by omega) _).grown jk (by have:=O.out.size;simp;omega) λb hb=>(aB b hb).1⟩
      .rw[t,kY];rfl
      rw[t,kY,mj,mQ];exact ii
     case measure=>simp[intOf];omega
    | some i2=>
     unfold ni at r;rw[Q] at r;simp only at r;have t:=Z.out;rw[kU (by have:=Hg (L:=L.map (·.k)) (k:=a.k);rw[Q] at this;simpa using this.symm)] at t
     go_wp2_with (first
      | (with_reducible refine cW (op:=⟨some 41,_,_,_,_,_⟩) iq 8 wr.1.size 0 a.cells C.out lb ?_)
      | (go_at_call 15;with_reducible refine jR (Ev a X _) λwg l=>?_
         have G:=bC<|cV F.out l;have K:=bC<|bU C.out l D;have B:=kw D l.size;have s:=bC<|cV Bd.out l;have ab:=r _ s.out
         clear l F C D Bd)
      | (go_at_call 14;with_reducible refine jR ab λwh m=>?_
         have O:=bC<|cV G.out m;have rh:=bC<|bU K.out m B;have an:=kw B m.size;have Bh:=bC<|cV s.out m
         clear m G K B s))
     go_roundw
     case rel=>
      refine⟨k+1,J,c3,by omega,by go_num,?_,?_,HP.out (λi hi=>by rw[H] at hi;cases hi),O.out⟩
      .rw[t]
      rw[t];exact F3 iW.out Bh.out
     case measure=>simp[intOf];omega
   | some i=>
    unfold ni at hF;rw[H] at hF;simp only at hF;have hi:i<g:=(by have:=(lC.1<|He H).1;simpa [V] using this);have ax:(i:Int)<(g:Int):=(by omega);obtain⟨b1,o1,rfl,eK,au⟩:=H1.out.resolve_left (by omega);have gx:Hid (wr.rangeAt b1 (o1+i*33) (R i).cells):=bC<|bU (au i hi) Wr.out eK;have ar:=kw eK Wr.out.size;have la:=(Eg.out i hi).len';have a8:=a9.out i hi;have a0:=bC fun(h:E i k=true)=>HP.out λi' ax=>(by cases H.symm.trans ax;exact h);have az:=bC<|HB.out i H;have aA:a.k∈L.map (·.k):=HM.out _<|np<|He H;clear au;generalize E i k=Ei at*;generalize (R i).cells=ya at*
    go_wp2_with (first
     | (with_reducible refine cW (op:=⟨some 21,_,_,_,_,_⟩) iq 20 b2 (o2+k*33) a.cells gy.out lb ?_)
     | (with_reducible refine si (op:=⟨none,_,_,_,_,_⟩) iq 8 21 a.cells lb ob ?_)
     | (with_reducible refine cW (op:=⟨some 24,_,_,_,_,_⟩) iq 8 wr.1.size 0 a.cells ra.out lb ?_)
     | (go_at_call 15;with_reducible refine jR (Ev a X _) λwk y=>?_
        have P:=bC<|cV Wa.out y;have rk:=bC<|bU ra.out y I;have U:=kw I y.size;have ai:=hF _ P.out;have Bl:=bC<|Bk.out.trans<|y.mono<|qh I
        clear y Wa ra I Bk)
     | (go_at_call 14;with_reducible refine jR ai λwf n=>?_
        have N:=bC<|cV P.out n;have Y:=bC<|bU rk.out n U;have aa:=kw U n.size;have M:=bC<|cV Bl.out n
        clear n P rk U Bl))
    have gf:=bC<|bU gx.out M.out ar;have n:=kw ar M.out.size;refine kN (S:=λz=>z.rangeAt b1 (o1+i*33) ya/\z.rangeAt wr.1.size 0 a.cells) (by kernel_rfl) ⟨gf.out,Y.out⟩ λf=>?_;refine tk 0 _ rfl f ?_;refine tk 1 _ rfl f ?_;refine tk 2 _ rfl f ?_;refine tk 3 _ rfl f ?_;refine tk 4 _ rfl f ?_;refine fE iq 5 33 b1 (o1+i*33) ya la rfl f (λz h=>h.1) ?_;refine fE iq 6 8 wr.1.size 0 a.cells lb rfl f (λz h=>h.2) ?_;refine dy 7 rfl λa4 hK=>?_;go_simp;refine jR (a8 _ N.out.drew) λwd ak=>?_;have F:=bC<|N.out.drew.trans<|ak.mono N.out.size;have ct:Below wf.1.size wf wd:=(kE _ _).drew.trans ak;have Bd:=bC<|cV M.out ct;have C:=bC<|bU Y.out ct aa;have D:=kw aa ct.size;refine hK.out _ _ ⟨bU gf.out ct n,C.out⟩ λf=>?_;clear hK a4 ak ct N M Y aa gf n
    cases Ei with
    | false=>refine tk 8 _ rfl f ?_;refine tk 9 _ rfl f ?_;refine kV (by kernel_rfl) ?_ _;go_wp2_with fail;go_ret2;exact⟨by unfold F4;rw[kU<|az.out<|by simp];rfl,F.out⟩
    | true=>
     refine tk 8 _ rfl f ?_;refine tk 9 _ rfl f ?_;refine kV (by kernel_rfl) ?_ _;obtain⟨i2,Q⟩:∃i2,gL (L.map (·.k)) a.k=some i2:=ql.1 (by rw[Hg];simpa using aA);unfold ni at r;rw[Q] at r;simp only at r;have t:=Z.out;rw[kU (by have:=Hg (L:=L.map (·.k)) (k:=a.k);rw[Q] at this;simpa using this.symm)] at t
     go_wp2_with (first
      | (with_reducible refine cW (op:=⟨some 41,_,_,_,_,_⟩) iq 8 wr.1.size 0 a.cells C.out lb ?_)
      | (go_at_call 15;with_reducible refine jR (Ev a X _) λwg l=>?_
         have G:=bC<|cV F.out l;have K:=bC<|bU C.out l D;have B:=kw D l.size;have s:=bC<|cV Bd.out l;have ab:=r _ s.out
         clear l F C D Bd)
      | (go_at_call 14;with_reducible refine jR ab λwh m=>?_
         have O:=bC<|cV G.out m;have rh:=bC<|bU K.out m B;have an:=kw B m.size;have Bh:=bC<|cV s.out m
         clear m G K B s))
     go_roundw
     case rel=>
      refine⟨k+1,J,c3,by omega,by go_num,?_,?_,a0.out<|by simp,O.out⟩
      .rw[t]
      rw[t];exact F3 iW.out Bh.out
     case measure=>simp[intOf];omega
  obtain rfl:k=nb:=by omega
  have a':ac=false:=by
   cases ac with
   | false=>rfl
   | true=>obtain⟨j,i,h1,h2,h3⟩:=ap.out.1 rfl;rw[ag.out j h1 i h2] at h3;cases h3
  have iW:=bC al;have Wr:=bC T;have aG:¬(k:Int)<(k:Int):=(by omega);clear al T ag;subst a';generalize hL:io A d k=L at*;have Z:=bC hL;clear hL;by_cases dm:200<L.length
  .have eL:(200:Int)<(L.length:Int):=(by omega);go_wp2_with fail;go_ret2;exact⟨by unfold F4;rw[Z.out,kZ<|by simp,kU dm];rfl,Wr.out⟩
  have eL:¬(200:Int)<(L.length:Int):=(by omega);go_wp2_with fail;go_ret2;exact⟨by unfold F4;rw[Z.out,kZ<|by simp,kZ dm];exact⟨_,rfl,iW.out⟩,Wr.out⟩
def Mv (A A':Nat->Prop) (w w':World):Prop:=∀b,A b->∀o v,w.cell? ⟨b,o,none⟩=some v->A' b/\w'.cell? ⟨b,o,none⟩=some v
section
variable {w w':World} {A A':Nat->Prop}
theorem Mv.range (m:Mv A A' w w') {b o:Nat} {u:Value} {cs:List Value} (a:A b) (h:w.rangeAt b o (u::cs)):A' b/\w'.rangeAt b o (u::cs):=
 ⟨(m b a _ _<|h 0 u rfl).1,λj v hv=>(m b a _ _<|h j v hv).2⟩
theorem Hz {n:Nat} {q:Option Addr} {β:Type} {X X':Nat->Nat->Nat->β->Prop} (h:n=0\/∃b o,q=some ⟨b,o,none⟩/\A b/\∃a:Nat->β,∀i,i<n->X b o i (a i)) (f:∀b o i d,A b->X b o i d->A' b/\X' b o i d):
  n=0\/∃b o,q=some ⟨b,o,none⟩/\A' b/\∃a:Nat->β,∀i,i<n->X' b o i (a i):=by
 rcases mX n with h0 | h0
 .exact .inl h0
 obtain⟨b,o,e,g,a,j⟩:=h.resolve_left (by omega);exact .inr ⟨b,o,e,(f b o 0 _ g<|j 0 h0).1,a,λi hi=>(f b o i _ g<|j i hi).2⟩
theorem SlA.mv (m:Mv A A' w w') {v:Value} {xs:List Int} (h:SlA w A v xs):SlA w' A' v xs:=by
 obtain⟨h1,h2,q,cap,h3,h4,h5⟩:=h;refine⟨h1,h2,q,cap,h3,h4,?_⟩
 cases xs with
 | nil=>exact .inl rfl
 | cons x xs=>obtain⟨b,o,e,a,d⟩:=h5.resolve_left (by simp);exact .inr ⟨b,o,e,(m b a _ _<|d 0<|by simp).1,λi hi=>(m b a _ _<|d i hi).2⟩
theorem NdAt.mv (m:Mv A A' w w') {b o:Nat} {d:Nd} (a:A b) (h:NdAt w b o d):A' b/\NdAt w' b o d:=
 ⟨(m b a _ _ h.h0).1,(m b a _ _ h.h0).2,(m b a _ _ h.h1).2,(m b a _ _ h.h2).2,(m b a _ _ h.h3).2,(m b a _ _ h.h4).2,(m b a _ _ h.h5).2,(m b a _ _ h.h6).2⟩
theorem VaAt.mv (m:Mv A A' w w') {b o:Nat} {d:Va} (a:A b) (h:VaAt w b o d):A' b/\VaAt w' b o d:=
 ⟨(m b a _ _ h.h0).1,(m b a _ _ h.h0).2,(m b a _ _ h.h1).2,(m b a _ _ h.h2).2,(m b a _ _ h.h3).2⟩
theorem BiAt.mv (m:Mv A A' w w') {b o:Nat} {d:Bi} (a:A b) (h:BiAt w b o d):A' b/\BiAt w' b o d:=
 ⟨(m b a _ _ h.h0).1,(m b a _ _ h.h0).2,(m b a _ _ h.h1).2,(m b a _ _ h.h2).2,(m b a _ _ h.h3).2,(m b a _ _ h.h4).2,(m b a _ _ h.h5).2,(m b a _ _ h.h6).2,(m b a _ _ h.h7).2⟩
theorem ExA.mv (m:Mv A A' w w'):∀{x:Ex} {d:Nd},ExA w A x d->ExA w' A' x d:=by
 intro x
 induction x with
 | non=>exact λh=>h.elim
 | mk k f ng nu de mm n ar ih=>
  intro d h;unfold ExA at h ⊢;obtain⟨h1,h2,h3,h4,h5,h6,h7⟩:=h;refine⟨h1,h2.mv m,h3.mv m,h4,h5,h6,?_⟩
  rcases mX n with h0 | h0
  .exact .inl h0
  obtain⟨b,o,e,g,j,a⟩:=h7.resolve_left (by omega);exact .inr ⟨b,o,e,((a 0 h0).1.mv m g).1,j,λi hi=>⟨((a i hi).1.mv m g).2,ih i (a i hi).2⟩⟩
theorem PtA.mv (m:Mv A A' w w') {p:Pt} {d:Va} (h:PtA w A p d):PtA w' A' p d:=⟨h.1,h.2.1,h.2.2.1.mv m,h.2.2.2.1.mv m,h.2.2.2.2⟩
theorem PtsA.mv (m:Mv A A' w w') {q:Option Addr} {n:Nat} {ps:Nat->Pt} (h:PtsA w A q n ps):PtsA w' A' q n ps:=
 ⟨h.1,Hz (X:=λb o i d=>VaAt w b (o+i*4) d/\PtA w A (ps i) d) (X':=λb o i d=>VaAt w' b (o+i*4) d/\PtA w' A' (ps i) d) h.2 λ_ _ _ _ a x=>⟨(x.1.mv m a).1,(x.1.mv m a).2,x.2.mv m⟩⟩
theorem BdsA.mv (m:Mv A A' w w') {q:Option Addr} {n:Nat} {ps:Nat->Bd} (h:BdsA w A q n ps):BdsA w' A' q n ps:=
 ⟨h.1,Hz (X:=λb o i d=>BiAt w b (o+i*8) d/\BdA w A (ps i) d) (X':=λb o i d=>BiAt w' b (o+i*8) d/\BdA w' A' (ps i) d) h.2 λ_ _ _ _ a x=>⟨(x.1.mv m a).1,(x.1.mv m a).2,x.2.1,x.2.2.mv m⟩⟩
theorem StA.mv (m:Mv A A' w w'):∀{x:St} {d:Sd},StA w A x d->StA w' A' x d:=by
 intro x
 induction x with
 | non=>exact λh=>h.elim
 | mk s nu de x pn ps bn bs n ki ih=>
  intro d h;unfold StA at h ⊢;obtain⟨h1,h2,h3,h4,h5,h6,h7,k,l,j⟩:=h;refine⟨h1,h2.mv m,h3.mv m,h4,h5,h6.mv m,h7.mv m,k.mv m,l,?_⟩
  rcases mX n with h0 | h0
  .exact .inl h0
  obtain⟨b,o,e,f,g,a⟩:=j.resolve_left (by omega);exact .inr ⟨b,o,e,(m.range f (a 0 h0).1).1,g,λi hi=>⟨(m.range f (a i hi).1).2,ih i (a i hi).2⟩⟩
theorem SiA.mv (m:Mv A A' w w') {s:Si} {d:Sv} (h:SiA w A s d):SiA w' A' s d:=by obtain⟨h1,h2,h3,h4,h5⟩:=h;exact⟨h1.mv m,h2.mv m,h3.mv m,h4.mv m,h5⟩
theorem ClA.mv (m:Mv A A' w w') {C:Cl} {D:Cd} (h:ClA w A C D):ClA w' A' C D:=
 ⟨h.1.mv m,h.2.1,h.2.2.1,Hz (X:=λb o i d=>w.rangeAt b (o+i*9) ((C.bs i).cells d)/\SiA w A (C.bs i) d) (X':=λb o i d=>w'.rangeAt b (o+i*9) ((C.bs i).cells d)/\SiA w' A' (C.bs i) d) h.2.2.2.1 λ_ _ _ _ a x=>⟨(m.range a x.1).1,(m.range a x.1).2,x.2.mv m⟩,Hz (X:=λb o i d=>w.rangeAt b (o+i*8) ((C.cs i).cells d)/\ExA w A (C.cs i).x d) (X':=λb o i d=>w'.rangeAt b (o+i*8) ((C.cs i).cells d)/\ExA w' A' (C.cs i).x d) h.2.2.2.2 λ_ _ _ _ a x=>⟨(m.range a x.1).1,(m.range a x.1).2,x.2.mv m⟩⟩
end
