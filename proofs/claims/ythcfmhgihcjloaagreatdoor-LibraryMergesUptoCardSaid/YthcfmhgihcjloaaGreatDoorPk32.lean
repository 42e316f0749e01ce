import Derived.Test.YthcfmhgihcjloaaGreatDoorPk31
namespace Go.Proofs.YthcfmhgihcjloaaGreatDoor
open Go Go.RowKit Go.Maps Go.Shelf Tryz
variable {w:World} {op:Oper} {a:Act} {Q:Exit->Act->World->Prop} {n:Nat} {v:Value} {xs:List Value}
attribute [local go_sem] qX
def F5 (B:Nat) (bad:Bool) (LL:List Ent) (e:Ending) (w':World):Prop:=
 if bad then e=.returned (.tuple #[.slice none 0 0,.int .i64 90]) else if 200<LL.length then e=.returned (.tuple #[.slice none 0 0,.int .i64 4]) else ∃(v:Value) (L:List (Ent × Cd × Sd)),e=.returned (.tuple #[v,.int .i64 0])/\L.map (·.1)=LL/\w'.ownsRow B 44 33 v L.length (L.flatMap gP)/\∀p∈L,EtA w' (oa B w' v) p
theorem EtA.mv {w':World} {A A':Nat->Prop} (m:Mv A A' w w') {p:Ent × Cd × Sd} (h:EtA w A p):EtA w' A' p:=⟨h.1.mv m,h.2.mv m⟩
def zo (O b0:Nat) (LL:List Ent) (W:World):Prop:=∃(v:Value) (L:List (Ent × Cd × Sd)),Boxed W O 22 v/\W.ownsRow b0 44 33 v L.length (L.flatMap gP)/\L.map (·.1)=LL/\∀p∈L,EtA W (cH b0 W O v) p
theorem F6 {b:Nat} {A B C:World} (h:Ez b A B) (k:Ez b B C):Ez b A C:=⟨h.1.trans k.1,h.2.trans k.2⟩
theorem F7 {f:Nat} (g:f<=w.1.size) (W:World) (l:Nat) (o o':Obj) (d:w.1.size<=l) (h:W.1[l]?=some o) (b:o.isCells=false) (e:o.isWalk=false):Ez f W (W.putObj l o'):=⟨belowK_b g W l o o' d h b e,walksK_b (w:=w) W l o o' d h b e⟩
theorem N7 {w':World} (h:Below w.1.size w w'):KeepsWalks w w':=⟨h.size,λi _ hi _=>(h.block i (kG.1 hi).1).trans hi⟩
theorem Km {α:Type} (O b0 B:Nat) (F:α->List Ent):OwnFrom B (λs W=>zo O b0 (F s) W):=by rintro s W h row ⟨v,L,i,m,k,j⟩ f g;obtain⟨q,h1,h2,rfl⟩:=holdsRow_own b0 O 22 44 33 (λ_:Unit=>L.length) (λ_=>L.flatMap gP) (λ_ u=>u=v) () W h row ⟨v,i,m,rfl⟩ f λr e=>(g r e).2;refine⟨q,L,h1,h2,k,λp l=>(j p l).mv λb d o u hu=>⟨⟨d.1,kw d.2.1 f.size,d.2.2⟩,cell_kept hu f λr e=>(g r e).2⟩⟩
theorem Ue {b:Nat} {cs:List Value} {t:TypeId} (h:w.1[b]?=some (.cells cs.toArray t (0,0))):w.rangeAt b 0 cs:=λj v hv=>by simp only[World.cell?,h,mF];simpa using hv
theorem Uf {K:Act->World->Prop} (x:Operand) (y:List Value) (k:y.length=33)
  (h:K (a.put op.dst<|.slice (some ⟨w.1.size,0,none⟩) 1 1) (w.alloc<|.cells y.toArray 44)) (g:op.op=.buildSlice 22 1 #[(0,x)]:=by rfl) (i:a.eval x=.agg y.toArray:=by kernel_rfl):Oper.wp prog op a w K Q:=by
 obtain⟨b,f,⟨z,j⟩,d⟩:∃b,prog.info? 44=some b/\(∃z,b.zero=some z)/\b.size=33:=by obtain⟨b,h1,h2,h3,_⟩:=mE Kl;exact⟨b,h1,⟨_,h2⟩,h3⟩
 refine wp_buildSlice 22 44 1 #[(0,x)] g y.toArray b z underlying22 f j (by rw[d];decide) (by rw[d];decide) ?_ h;have e:=Great.fill_whole (s:=33) (by decide) [Value.agg y.toArray] ((Array.range<|1*33).map (z.cells[·% z.cells.size]!)) (by simp[Value.cells,k]) (by simp);rw[d];simpa [i,Value.cells] using e
theorem zp {A0:Nat->Prop} {b0 O g c:Nat} {X f d:World} (i:Below X.1.size X f) (j:f.grownBy d v.ownBlock) (l:v.ownBlock=some g\/g=f.1.size) (k:∀b,A0 b->b0<=b/\b<X.1.size/\b≠O/\v.ownBlock≠some b):
  Mv A0 (cH b0 (d.setCell ⟨O,0,none⟩<|.slice (some ⟨g,0,none⟩) n c) O<|.slice (some ⟨g,0,none⟩) n c) X (d.setCell ⟨O,0,none⟩<|.slice (some ⟨g,0,none⟩) n c):=λb m o u hu=>by
 obtain⟨h1,h2,h3,h4⟩:=k b m;have s1:=i.size;have s2:=j.size;have e:(d.setCell ⟨O,0,none⟩<|.slice (some ⟨g,0,none⟩) n c).1[b]?=X.1[b]?:=by rw[mr _ _ _ _<|by exact h3,j.block b (by omega) λe=>h4 e.symm,i.block b h2]
 refine⟨⟨h1,by simp;omega,h3,λe=>?_⟩,(ml e).trans hu⟩;have e:g=b:=pD e
 rcases l with h | h
 .exact h4 (by rw[h,e])
 omega
theorem Kn {K:Act->World->Prop} (x y b n c:Nat) (q:Option Addr) {v:Value} (d:Boxed w b 22 v) (h:K (a.put op.dst undef) (w.setCell ⟨b,0,none⟩<|.slice q n c))
  (e:op.op=.store 22 (.tmp x) (.tmp y):=by rfl) (f:a.eval (.tmp x)=.pointer (some ⟨b,0,none⟩):=by kernel_rfl) (g:a.eval (.tmp y)=.slice q n c:=by kernel_rfl):Oper.wp prog op a w K Q:=by
 have i:=d.cell;have j:=d.frozen;unfold Oper.wp execOp;simp only[e,f,g];go_simp;exact h
theorem Bg {f d:World} {O b0 m:Nat} {b:Value} {ys:List Value} (hv:Boxed f O 22 v) (i:f.ownsRow b0 44 33 v n xs) (q:d.ownsRow b0 44 33 b m ys) (h:f.grownBy d v.ownBlock) (s:b0<=f.1.size) (u:b0<=O):
  Boxed d O 22 v/\Boxed (d.setCell ⟨O,0,none⟩ b) O 22 b/\(d.setCell ⟨O,0,none⟩ b).ownsRow b0 44 33 b m ys/\KeepsOthers f (d.setCell ⟨O,0,none⟩ b)/\Below b0 f (d.setCell ⟨O,0,none⟩ b):=by
 have l:Boxed d O 22 v:=hv.kept h<|hv.not_row (by decide) i;refine⟨l,l.set b,q.kept (grownBy_setCell' d O b)<|.inr (l.not_row (by decide) q).symm,?_,?_⟩
 .refine(KeepsOthers.of_grownBy h λj o r t=>?_).trans (KeepsOthers.setCell _ _ _)
  rcases i.2 with⟨rfl,_⟩ | ⟨g,cap,cur,rfl,_,hgb,_⟩
  .simp[Value.ownBlock] at r
  cases r;rw[hgb] at t;cases t;rfl
 exact((kE b0 f).grown h s λk e=>(i.lt k e).1).grown (grownBy_setCell' d O b) (kJ s h.size) λk e=>by cases e;exact u
theorem Ko {K:Act->World->Prop} (s b n c:Nat) (q:Option Addr) (d:op.op=.load 22 (.tmp s)) (e:a.eval (.tmp s)=.pointer (some ⟨b,0,none⟩)) (f:w.cell? ⟨b,0,none⟩=some (.slice q n c)) (h:K (a.put op.dst<|.slice q n c) w):Oper.wp prog op a w K Q:=by unfold Oper.wp execOp;simp only[d,e];go_simp;exact h
theorem zq {b d:Nat} (h:w.ownsRow b 44 33 v n xs) (f:d<=b):w.ownsRow d 44 33 v n xs:=
 ⟨h.1,h.2.imp id λ⟨g,cap,e,h1,h2,h3⟩=>⟨g,cap,e,h1,kJ f h2,h3⟩⟩
theorem Kp {B:Nat} (h:w.ownsRow B 44 33 v n xs):∃q c,v=.slice q n c:=by
 rcases h.2 with⟨e,e2⟩ | ⟨g,cap,cur,e,_⟩
 .subst e2;exact⟨_,_,e⟩
 exact⟨_,_,e⟩
theorem zr {q:Option Addr} (e:Nat->En) (l:n<=1048576) (ok:∀i,i<n->(e i).Ok) (h:cS w 33 n q λi=>(e i).cells):LibOk w q n ((List.range n).map e):=by
 have hi:∀i x,((List.range n).map e)[i]?=some x->i<n/\x=e i:=λi x d=>by rw[mI,pF] at d;obtain⟨j,k,rfl⟩:=d;obtain⟨hi,rfl⟩:=lC.1 k;rw[List.getElem_range];exact⟨by simpa using hi,rfl⟩
 exact⟨by simp,l,λx d=>by
  obtain⟨i,d⟩:=rT d;obtain⟨h1,rfl⟩:=hi i x d
  exact ok i h1,h.imp id λ⟨b,o,e,f,g⟩=>⟨b,o,e,f,λi x d=>by
  obtain⟨h1,rfl⟩:=hi i x d
  exact g i h1⟩⟩
set_option maxRecDepth 100000 in
set_option maxHeartbeats 16000000 in
theorem Ug {q1 q2:Option Addr} {d nb c1 c2:Nat} (es R:Nat->Ent) (eA t:Nat->En) (E:Nat->Nat->Bool) (au:Bool) (LL:List Ent) (hn:d+nb<=1048576) (a7:∀i,i<d->(eA i).Ok) (ad:∀i,i<nb->(t i).Ok)
  (h1:cS w 33 d q1 λi=>(eA i).cells) (h2:cS w 33 nb q2 λi=>(t i).cells) (A:List En) (hA:A=(List.range d).map eA)
  (aC:(List.range d).map es++((eZ (λj=>(t j).k) nb nb<|kF _).filter λx=>decide ((t x.1).k∉A.map (·.k))).map (λx=>R x.1)=LL)
  (bM:au=true↔∃j i,j<nb/\gL (A.map (·.k)) (t j).k=some i/\E i j=false)
  (hQ:∀i j,i<d->j<nb->CA w 10 #[.agg (eA i).cells.toArray,.agg (t j).cells.toArray] (.bool<|E i j))
  (gY:∀z,Below w.1.size w z->cN 11 #[.slice q1 d c1] z λr w'=>∃(v:Value) (L:List (Ent × Cd × Sd)),r=.returned v/\L.length=d/\w'.ownsRow z.1.size 44 33 v d (L.flatMap gP)/\A9 w' z.1.size v es L/\Below z.1.size z w')
  (gZ:∀j,j<nb->∀z,Below w.1.size w z->cN 13 #[.agg (t j).cells.toArray] z λr w'=>∃V Z,r=.returned (.agg ((R j).cells V Z).toArray)/\ClA w' (bP z w') (R j).C V/\StA w' (bP z w') (R j).X Z/\Below z.1.size z w'):
  cN 4 #[.slice q1 d c1,.slice q2 nb c2] w λe w'=>F5 w.1.size au LL e w'/\Below w.1.size w w':=by
 have lib:LibOk w q1 d A:=hA ▸ zr eA (by omega) a7 h1;have lA:=lib.1;have hI:∀(k:Ky) z,Below w.1.size w z->bF z 8 #[.slice q1 d c1,.agg #[.string k.1,.int .i64 k.2]] (.int .i64 (vg (A.map (·.k)) k)):=λk z G=>yI c1 (lib.below G) k;have aT:=bC aC;clear aC;have HI:=bC hI;have HQ:=bC hQ;have aP:=bC gY;have aU:=bC gZ;have a9:=bC bM;have H1:=bC h1;have H2:=bC h2;have Eg:=bC a7;have HA:=bC hA;clear hI hQ gY gZ bM h1 h2 a7 hA lib;have b1:=fH w<|.cells #[.slice q1 d c1] 22;have cb:(w.alloc<|.cells #[.slice q1 d c1] 22).cell? ⟨w.1.size,0,none⟩=some (.slice q1 d c1):=by simp
 have z1:w.1.size<(w.alloc<|.cells #[.slice q1 d c1] 22).1.size:=by simp
 refine(qj (n:=6)).1 ?_;refine callsIn_of_wp_marks func4 rfl trivial ?_ rfl;simp only[ntmps4,nD,lF,mS,Nat.reduceAdd,Nat.reduceSub,nO,nP,pB,nW,mL,mZ];refine wpIn_wide.2 ?_;go_wp2_with fail;generalize w.alloc (.cells #[.slice q1 d c1] 22)=w1 at*
 go_loopw [14] (λi wr=>∃k:Nat,k<=nb/\i=.int .i64 k/\Hid (∀j,j<k->∀i,gL (A.map (·.k)) (t j).k=some i->E i j=true)/\Below w1.1.size w1 wr) (λi _=>nb - (intOf i).toNat)
 case atStart=>exact⟨0,kL _,rfl,λj hj=>by omega,kE _ _⟩
 case round=>
  obtain⟨k,hk,rfl,aw,ac⟩:=hrel;have P:=bC<|cV b1 ac;have G:w.1.size<wr.1.size:=kw z1 ac.size;have aq:wr.cell? ⟨w.1.size,0,none⟩=some (.slice q1 d c1):=(ac.cell (p:=⟨w.1.size,0,none⟩) z1).trans cb;by_cases ar:k<nb
  .have am:(k:Int)<(nb:Int):=(by omega);obtain⟨b2,o2,rfl,aR,aF⟩:=H2.out.resolve_left (by omega);have gy:Hid (wr.rangeAt b2 (o2+k*33) (t k).cells):=bC<|bU (aF k ar) P.out aR;have ak:=ad k ar;have bb:=bC λi hi=>HQ.out i k hi ar
   have HP:=bC fun(h:∀i,gL (A.map (·.k)) (t k).k=some i->E i k=true)=>(λj (hj:j<k+1) i hi=>by
    rcases pf.1 hj with hj | rfl
    .exact aw.out j hj i hi
    exact h i hi:∀j,j<k+1->∀i,gL (A.map (·.k)) (t j).k=some i->E i j=true)
   have HB:=bC fun(i:Nat) (h:gL (A.map (·.k)) (t k).k=some i) (e:E i k=false)=>a9.out.2 ⟨k,i,ar,h,e⟩;clear aF aw;generalize eJ:t k=C at*;have br:=bC eJ;clear eJ;have lb:=ak.len';have ob:=ak.one';have Wa:=bC<|P.out.alloc P.out.size<|.cells C.cells.toArray 44;have Ba:=bC<|ac.alloc ac.size<|.cells C.cells.toArray 44;have ra:=bC<|oe wr C.cells 44;have Ca:Hid ((wr.alloc<|.cells C.cells.toArray 44).cell? ⟨w.1.size,0,none⟩=some (.slice q1 d c1)):=bC<|((fH wr<|.cells C.cells.toArray 44).cell (p:=⟨w.1.size,0,none⟩) G).trans aq;have ay:wr.1.size<(wr.alloc<|.cells C.cells.toArray 44).1.size:=(by simp);have hI:=HI.out C.k;clear ac aq
   go_wp2_with (first
    | (with_reducible refine cW (op:=⟨some 17,_,_,_,_,_⟩) iq 16 b2 (o2+k*33) C.cells gy.out lb ?_)
    | (with_reducible refine si (op:=⟨none,_,_,_,_,_⟩) iq 7 17 C.cells lb ob ?_))
   generalize wr.alloc (.cells C.cells.toArray 44)=wa at*;refine J3 (S:=λz=>z.cell? ⟨w.1.size,0,none⟩=some (.slice q1 d c1)/\z.rangeAt wr.1.size 0 C.cells) (by kernel_rfl) ⟨Ca.out,ra.out⟩ λm=>?_;refine tk 0 _ rfl m ?_ (.inl ⟨by rfl,λz G=>by have h:=G.1;go_simp<;>with_reducible rfl⟩);refine fE iq 1 7 wr.1.size 0 C.cells lb rfl m (λz h=>h.2) ?_;refine dy 2 rfl λK q=>?_;go_simp;refine jR (Hh C ak _) λwk ap=>?_;have I:Below wa.1.size wa wk:=(kE _ _).drew.trans ap;have Wk:=bC<|cV Wa.out I;have Bk:=bC<|cV Ba.out I;have Ck:Hid (wk.cell? ⟨w.1.size,0,none⟩=some (.slice q1 d c1)):=bC<|(I.cell (p:=⟨w.1.size,0,none⟩)<|nH G ay).trans Ca.out;have rk:=bC<|bU ra.out I ay;have az:=kw ay I.size;refine q.out _ _ ⟨Ck.out,rk.out⟩ λm=>?_;clear q K ap I Wa Ba ra ay Ca;refine dy 3 rfl λK q=>?_;go_simp;refine jR (hI _ Wk.out) λwf M=>?_;have Wf:=bC<|cV Wk.out M;have Bf:=bC<|cV Bk.out M;have Cf:Hid (wf.cell? ⟨w.1.size,0,none⟩=some (.slice q1 d c1)):=bC<|(M.cell (p:=⟨w.1.size,0,none⟩)<|nH G az).trans Ck.out;have rf:=bC<|bU rk.out M az;have a6:=kw az M.size;refine q.out _ _ ⟨Cf.out,rf.out⟩ λm=>?_;clear q K M Wk Bk rk az Ck hI;refine tk 4 _ rfl m ?_;refine DC (by kernel_rfl) ?_ _
   cases aa:gL (A.map (·.k)) C.k with
   | none=>
    have hv:vg (A.map (·.k)) C.k=-1:=(by unfold vg;rw[aa]);rw[hv];go_wp2_with fail;refine J3 (S:=λz=>z.rangeAt wr.1.size 0 C.cells) (by kernel_rfl) rf.out λm=>?_;refine tk 0 _ rfl m ?_;refine tk 1 _ rfl m ?_;refine tk 2 _ rfl m ?_;refine tk 3 undef rfl m ?_ (.inr ⟨by rfl,rfl⟩);refine tk 4 undef rfl m ?_ (.inr ⟨by rfl,rfl⟩);refine tk 5 undef rfl m ?_ (.inr ⟨by rfl,rfl⟩);refine tk 6 undef rfl m ?_ (.inr ⟨by rfl,rfl⟩);refine tk 7 undef rfl m ?_ (.inr ⟨by rfl,rfl⟩);refine tk 8 undef rfl m ?_ (.inr ⟨by rfl,rfl⟩);refine tk 9 undef rfl m ?_ (.inr ⟨by rfl,rfl⟩);refine tk 10 _ rfl m ?_;refine DC (by kernel_rfl) ?_ _;go_wp2_with fail;go_roundw
    case rel=>exact⟨k+1,by omega,by go_num,HP.out (λi hi=>by rw[aa] at hi;cases hi),Bf.out.drew⟩
    case measure=>simp[intOf];omega
   | some i=>
    have hv:vg (A.map (·.k)) C.k=i:=(by unfold vg;rw[aa]);rw[hv];have hi:i<d:=(by have:=(lC.1<|He aa).1;simpa [lA] using this);have aG:(i:Int)<(d:Int):=(by omega);have bu:(0:Int)<=(i:Int):=(by omega);obtain⟨b1,o1,rfl,eK,a3⟩:=H1.out.resolve_left (by omega);have gx:Hid (wf.rangeAt b1 (o1+i*33) (eA i).cells):=bC<|bU (a3 i hi) Wf.out eK;have M:=kw eK Wf.out.size;have la:=(Eg.out i hi).len';have ba:=bb.out i hi;have aV:=bC fun(h:E i k=true)=>HP.out λi' aG=>(by cases aa.symm.trans aG;exact h);have aQ:=bC<|HB.out i aa;clear a3;generalize E i k=Ei at*;generalize (eA i).cells=ya at*;go_wp2_with fail;refine J3 (S:=λz=>z.cell? ⟨w.1.size,0,none⟩=some (.slice (some ⟨b1,o1,none⟩) d c1)/\z.rangeAt b1 (o1+i*33) ya/\z.rangeAt wr.1.size 0 C.cells) (by kernel_rfl) ⟨Cf.out,gx.out,rf.out⟩ λm=>?_;refine tk 0 _ rfl m ?_;refine tk 1 _ rfl m ?_;refine tk 2 _ rfl m ?_;refine tk 3 _ rfl m ?_ (.inl ⟨by rfl,λz G=>by have h:=G.1;go_simp<;>with_reducible rfl⟩);refine tk 4 _ rfl m ?_;refine tk 5 _ rfl m ?_;refine fE iq 6 27 b1 (o1+i*33) ya la rfl m (λz h=>h.2.1) ?_;refine fE iq 7 7 wr.1.size 0 C.cells lb rfl m (λz h=>h.2.2) ?_;refine dy 8 rfl λK q=>?_;go_simp;refine jR (ba _ Wf.out.drew) λwd aE=>?_;have ct:Below wf.1.size wf wd:=(kE _ _).drew.trans aE;have Wd:=bC<|cV Wf.out ct;have Bd:=bC<|cV Bf.out ct;refine q.out _ _ ⟨(ct.cell (p:=⟨w.1.size,0,none⟩)<|nH G a6).trans Cf.out,bU gx.out ct M,bU rf.out ct a6⟩ λm=>?_;clear q K aE ct Wf Bf rf a6 gx M Cf
    cases Ei with
    | false=>refine tk 9 _ rfl m ?_;refine tk 10 _ rfl m ?_;refine DC (by kernel_rfl) ?_ _;go_wp2_with fail;exact⟨_,sO rfl _ _ _,by unfold F5;rw[kU<|aQ.out<|by simp];rfl,Wd.out⟩
    | true=>
     refine tk 9 _ rfl m ?_;refine tk 10 _ rfl m ?_;refine DC (by kernel_rfl) ?_ _;go_wp2_with fail;go_roundw
     case rel=>exact⟨k+1,by omega,by go_num,aV.out<|by simp,Bd.out⟩
     case measure=>simp[intOf];omega
  obtain rfl:k=nb:=by omega
  have bc:au=false:=by
   cases au with
   | false=>rfl
   | true=>obtain⟨j,i,h1,h2,h3⟩:=a9.out.1 rfl;rw[aw.out j h1 i h2] at h3;cases h3
  subst bc;have bx:¬(k:Int)<(k:Int):=(by omega);have Br:=bC ac;have an:=aP.out _ P.out;have aX:=bC aq;clear ac aw
  go_wp2_with (first
   | (go_at_call 11;refine an.mono ?_;rintro r B ⟨v,L,rfl,hL,al,aB,ag⟩
      have bs:=bC<|cV P.out ag;have a1:=bC al;have a8:=bC aB;have Ho:=bC<|And.intro ag<|(ag.cell (p:=⟨w.1.size,0,none⟩) G).trans aq;obtain⟨qv,cv,rfl⟩:=Kp al
      clear al aB ag an aq)
   | (go_at_call 12;refine((qj (n:=5)).1<|SI 5 q2 k c2 _).mono ?_;rintro r w3 ⟨rfl,rfl⟩))
  have ax:=dF B (.cells #[.slice qv d cv] 22)<|.cells #[.slice q2 k c2] 22;have ae:=bC<|cV Ho.out.1 ax;have zs:=Ho.out.1.size
  have h0:zo B.1.size wr.1.size ((List.range d).map es) ((B.alloc<|.cells #[.slice qv d cv] 22).alloc<|.cells #[.slice q2 k c2] 22):=by
   refine⟨_,L,(Boxed.new B 22 _).alloc _,?_,?_,?_⟩
   .rw[hL];exact(a1.out.alloc _).alloc _
   .refine rp λi=>?_;rw[mI,mI]
    rcases kS i d with hi | hi
    .rw[k8<|by omega,rW hi];exact mn some (a8.out i _<|k8<|by omega).1
    rw[lP<|by omega,lP<|by simp;omega];rfl
   intro p U;obtain⟨i,U⟩:=rT U;refine(a8.out i p U).2.keep (λb H=>ax.block b H.2.1) λb H=>⟨H.1,kw H.2.1 ax.size,?_,H.2.2⟩;have:=H.2.1;omega
  have be:((B.alloc<|.cells #[.slice qv d cv] 22).alloc<|.cells #[.slice q2 k c2] 22).cell? ⟨B.1.size+1,0,none⟩=some (.slice q2 k c2):=(by have h:=(Boxed.new (B.alloc<|.cells #[.slice qv d cv] 22) 22<|.slice q2 k c2).cell;rw[show (B.alloc<|.cells #[.slice qv d cv] 22).1.size=B.1.size+1 by simp] at h;exact h);have b5:B.1.size+1<((B.alloc<|.cells #[.slice qv d cv] 22).alloc<|.cells #[.slice q2 k c2] 22).1.size:=(by simp);have aW:Hid (wr.cell? ⟨w.1.size,0,none⟩=some (.slice q1 d c1)):=aX;clear ax;generalize (B.alloc<|.cells #[.slice qv d cv] 22).alloc (.cells #[.slice q2 k c2] 22)=W5 at*;refine(wpIn_wide (n:=6)).1 ?_
  refine wpIn_rangeFunc_ownH (F:=Fence.wide) (n:=6) rfl (by decide) (gf:=26) (lb:=#[.pointer<|some ⟨B.1.size+1,0,none⟩]) rfl trivial (enters_of func26 (by kernel_rfl) rfl)
   (SJ 5 (B.1.size+1) wr.1.size (λi=>(t i).cells) (λi=>(t i).k) W5 (by omega) (λi hi=>(ad i hi).len') (λi hi=>(ad i hi).one') (λi hi=>(ad i hi).key) (λi hi z=>(qj (n:=4)).2<|Hh (t i) (ad i hi) z) ae.out.size (by omega) be ?rows ?lies) F6 (F7 ae.out.size) (kE _ _) (λ_=>rfl)
   (λab W=>zo B.1.size wr.1.size ((List.range d).map es++(ab.filter λx=>decide ((t x.1).k∉A.map (·.k))).map λx=>R x.1) W/\Below wr.1.size wr W)
   (λ_ _ _=>False)
   (OwnFrom.and (Km _ _ _ _)<|ownFrom_below (kF _) ae.out.size)
   (λ_ _ _ _ _ hs _ _=>hs)
   ⟨by simpa using h0,ae.out⟩
   (λx a' W=>∃N,wr.1.size<=N/\N≠B.1.size/\W.1[N]?=some (.cells (t x.1).cells.toArray 44 (0,0))/\a'={ tmps:=#[.slice q1 d c1,.slice q2 k c2,.pointer<|some ⟨w.1.size,0,none⟩,undef,u4,u5,undef,u7,u8,.pointer<|some ⟨B.1.size,0,none⟩,undef,.pointer<|some ⟨N,0,none⟩,.slice q2 k c2,.int .i64 k,.int .i64 k,.bool false,u16,u17,u18,u19,u20,u21,u22,u23,u24,u25,u26,u27,u28,u29,u30,u31,u32,u33,.slice q1 d c1,.slice qv d cv,.slice q2 k c2,.func (.func 26) #[] #[.pointer<|some ⟨B.1.size+1,0,none⟩],.int .i64 x.1,.agg (t x.1).cells.toArray,undef,undef,undef,undef,undef,undef,undef,undef,undef,undef,undef,undef,undef,undef],defers:=[] })
   (λx a' _ X Y row h hg hr=>by
     obtain⟨N,h1,h2,h3,h4⟩:=h;refine⟨N,h1,h2,(hg.block N (kG.1 h3).1 λe=>?_).trans h3,h4⟩;obtain⟨_,o,ho,hc⟩:=hr N e.symm;rw[h3] at ho;cases ho
     cases hc)
   ?assign ?body ?done ?stop
  case rows=>exact H2.out.imp id λ⟨b,o,e,H,hc⟩=>⟨b,o,e,kw H<|kJ P.out.size ae.out.size,λi hi=>bU (bU (hc i hi) P.out H) ae.out<|kw H P.out.size⟩
  case lies=>intro b o e bv;obtain⟨b',o',e',H,_⟩:=H2.out.resolve_left (by omega);rw[e] at e';cases e';exact kw H P.out.size
  case assign=>
   rintro l ab x W K ⟨hO,J⟩ q;have hs:=J.size;have aI:B.1.size<W.1.size:=(by obtain⟨v,L,H,_⟩:=hO;exact H.lt);have lx:=(ad x.1 x.2).len';have ox:=(ad x.1 x.2).one';have HO:=bC hO;have HK:=bC q;have HB:=bC J;clear hO q J
   gi_wp2_with (first
    | (with_reducible refine DB (op:=⟨none,_,_,_,_,_⟩) iq 11 39 (t x.1).cells lx ox ?_))
   exact HK.out _ _ ((KeepsOthers.alloc _ _).from _) ⟨(kE _ _).alloc hs _,KeepsWalks.alloc _ _⟩ ⟨(Km (α:=Unit) _ _ 0 λ_=>_).alloc (s:=()) _ HO.out,HB.out.alloc hs _⟩ ⟨W.1.size,hs,by omega,lK _ _,rfl⟩
  case body=>
   rintro l ab x a' W hl _ ⟨hO,J⟩ ⟨N,b3,b4,ai,rfl⟩ ar;have ak:=ad x.1 x.2;have al:=aU.out x.1 x.2;have lb:=ak.len';have rx:=bC<|Ue ai;have a2:=(kG.1 ai).1;have WW:=bC<|cV P.out J;have Ca:Hid (W.cell? ⟨w.1.size,0,none⟩=some (.slice q1 d c1)):=bC<|(J.cell (p:=⟨w.1.size,0,none⟩) G).trans aW.out;have a5:=kw G J.size
   obtain⟨iv,hI,g6⟩:∃iv:Int,(CA w 8 #[.slice q1 d c1,.agg #[.string (t x.1).k.1,.int .i64 (t x.1).k.2]]<|.int .i64 iv)/\((iv<0/\(t x.1).k∉A.map (·.k))\/(¬iv<0/\¬(t x.1).k∉A.map (·.k))):=by
    refine⟨_,HI.out (t x.1).k,?_⟩;unfold vg
    cases aa:gL (A.map (·.k)) (t x.1).k with
    | none=>exact .inl ⟨by simp,Kk.1 aa⟩
    | some i=>exact .inr ⟨by simp,λh=>by rw[Kk.2 h] at aa;cases aa⟩
   have HO:=bC hO;have HB:=bC J;have bq:=bC ai;have hF:ab.filter (λx=>decide ((t x.1).k∉A.map (·.k)))=ab.filter λx=>decide ((t x.1).k∉A.map (·.k)):=rfl
   have HF:Hid ((ab++[x]).filter (λx=>decide ((t x.1).k∉A.map (·.k)))=ab.filter (λx=>decide ((t x.1).k∉A.map (·.k)))++if (t x.1).k∉A.map (·.k) then [x] else []):=by
    show _=_;rw[List.filter_append];by_cases h:(t x.1).k∉A.map (·.k)
    .rw[kU h,rL,kU<|lh h];rfl
    rw[kZ h,rL,kZ<|by rw[kQ h];decide];rfl
   clear hO J ai hF;generalize t x.1=C at*;gi_wp2_with fail;refine Ns (S:=λz=>z.cell? ⟨w.1.size,0,none⟩=some (.slice q1 d c1)/\z.rangeAt N 0 C.cells) (by kernel_rfl) (by kernel_rfl) ⟨Ca.out,rx.out⟩ λm=>?_;refine tk 0 _ rfl m ?_ (.inl ⟨by rfl,λz G=>by have h:=G.1;go_simp<;>with_reducible rfl⟩);refine fE iq 1 11 N 0 C.cells lb rfl m (λz h=>h.2) ?_;refine dy 2 rfl λK q=>?_;go_simp;refine jR (Hh C ak _) λwk ap=>?_;have I:Below W.1.size W wk:=(kE _ _).drew.trans ap;have Wk:=bC<|cV WW.out I;have Ck:Hid (wk.cell? ⟨w.1.size,0,none⟩=some (.slice q1 d c1)):=bC<|(I.cell (p:=⟨w.1.size,0,none⟩) a5).trans Ca.out;have rk:=bC<|bU rx.out I a2;refine q.out _ _ ⟨Ck.out,rk.out⟩ λm=>?_;clear q K ap;refine dy 3 rfl λK q=>?_;go_simp;refine jR (hI _ Wk.out) λwf M=>?_;have T:=cV I M;have Wf:=bC<|cV WW.out T;have rf:=bC<|bU rx.out T a2;refine q.out _ _ ⟨(M.cell (p:=⟨w.1.size,0,none⟩)<|kw a5 I.size).trans Ck.out,rf.out⟩ λm=>?_;clear q K M I Wk rk Ck hI;have aJ:=T.size;have hwr:=HB.out.size
   rcases g6 with⟨hc1,hc2⟩ | ⟨hc1,hc2⟩
   .refine tk 4 (.bool true) rfl m ?_;refine DC (by kernel_rfl) ?_ _;have a0:=bC hc2;clear hc2;gi_wp2_with fail;obtain⟨v,L,aj,ah,ao,hE⟩:=HO.out;obtain⟨qo,co,rfl⟩:=Kp ah;refine Ns (S:=λ_=>True) (by kernel_rfl) (by kernel_rfl) trivial (λ_=>?_);refine xB (fuel:=2) [1,2,3] [0] 4 #[true,true,true,true,false,false] (λ_=>undef) (λaN x z=>0∉aN->x 0=.slice qo L.length co) (λ_ _=>trivial) (λh=>absurd mq h) (λ_ _ _ _ _ h=>h) ?_ ?_
    .intro f hf aN y a z ha G hG;obtain rfl:f=0:=(by simpa using hf);refine wpOp_step rfl λK' q=>?_;have h9:a.eval (.tmp 9)=.pointer (some ⟨B.1.size,0,none⟩):=(by have:=ha 9 (by decide);simp only[Act.eval,sw,this];rfl);rw[kU<|by kernel_rfl];exact Ko 9 _ _ _ _ rfl h9 ((G.cell (p:=⟨B.1.size,0,none⟩)<|kw aj.lt aJ).trans<|(T.cell (p:=⟨B.1.size,0,none⟩) aj.lt).trans aj.cell) (q _ _ ⟨_,rfl,kE _ _,λ_=>by simp[im]⟩)
    have WD:Below wf.1.size wf wf.drew:=(kE _ _).drew;refine Fo rfl λy z G K q=>?_;rw[kU<|by kernel_rfl];have Bz:=cV WD G;refine GN iq 11 N 0 C.cells (bU rf.out Bz<|kw a2 aJ) lb<|q.out _ _ (kE _ _) ?_;clear q K;refine Fo rfl λy z3 bp K q=>?_;have B3:=cV Bz bp;simp only[cE,pz];go_simp;refine(al _<|cV Wf.out B3).mono ?_;rintro r w5 ⟨V,Z,rfl,aA,an,aD⟩;refine q.out _ _ aD ?_;clear q K;have B5:=cV B3 aD;have ly:((R x.1).cells V Z).length=33:=rfl;have oy:=Ent.one (R x.1) V Z;have hA:EtA w5 (bP z3 w5) (R x.1,V,Z):=⟨aA,an⟩;have aK:(R x.1).cells V Z=gP (R x.1,V,Z):=rfl;generalize hy:(R x.1).cells V Z=yc at*;have aO:=bC hA;have aZ:=bC aK;clear hA aA an aK hy;refine Fo rfl λy z6 aM K q=>?_;rw[kU<|by kernel_rfl];refine Uf (.tmp 47) yc ly<|q.out _ _ ((kE _ _).alloc (kF _) _) ?_;clear q K;have bg:((z6.alloc<|.cells yc.toArray 44).1[z6.1.size]?)=some (.cells yc.toArray 44 (0,0)):=lK _ _;have B6:=aM.trans<|((kE z6.1.size z6).alloc (kF _)<|.cells yc.toArray 44).mono aM.size;intro y z4 aL hG;have e0:=hG (by simp);have B4:=cV B6 aL;have BX:Below W.1.size W z4:=T.trans<|(cV B5 B4).mono T.size;have iX:Boxed z4 B.1.size 22 (.slice qo L.length co):=(BX.block _ aj.lt).trans aj;have fI:=F3 ah BX;have bO:=(aL.block z6.1.size<|by simp).trans bg;have bw:L.length<=d+k:=(by have h:=mn List.length ao;have h2:=List.length_filter_le (λx=>decide ((t x.1).k∉A.map (·.k))) ab;simp only[mM,kY,List.length_range] at h;omega);have bz:=BX.size;have aY:=bC ao;have aS:=bC hE;obtain⟨i0,hi,bl,bm,bo⟩:=mE Kl;refine dy 4 rfl λK q=>?_;rw[kU<|by kernel_rfl];refine wp_append_lies z4 (.tmp 45) (.tmp 48) 22 rfl wr.1.size 44 i0 _ 33 520 underlying22 hi bl bm bo rfl (by decide) (.slice qo L.length co) L.length (L.flatMap gP) ?_ fI ⟨z6.1.size,0,none⟩ 1 1 yc (by kernel_rfl) (by simp[ly]) (World.news_of_block bO) oy (by decide) (by unfold maxLen;omega) (by omega) (by omega) _ rfl ?_
    .exact(show _=y 0 by kernel_rfl).trans e0
    intro g cap w7 bf a4 fh iY;refine q.out _ _ trivial λ_=>?_;clear q K;have aI:wr.1.size<=B.1.size:=zs;obtain⟨bj,bk,bh,aH,ag⟩:=Bg iX fI bf a4 (by omega) aI;simp only[pz];refine dy (fuel:=0) 5 rfl λK q=>?_;rw[kU<|by kernel_rfl];refine Kn 9 49 B.1.size (L.length+1) cap (some ⟨g,0,none⟩) bj<|q.out _ _ trivial λ_=>?_;clear q K;refine DC (by kernel_rfl) ?_ 0;have bi:=ah.lt;have M1:=zp (A0:=cH wr.1.size W B.1.size<|.slice qo L.length co) (b0:=wr.1.size) (O:=B.1.size) (n:=L.length+1) (c:=cap) BX a4 fh λb H=>H;have M2:=zp (A0:=bP z3 w5) (b0:=wr.1.size) (O:=B.1.size) (n:=L.length+1) (c:=cap) B4 a4 fh λb H=>by have h1:=H.1;have h2:=H.2;have h3:=B3.size;have h4:=aj.lt;exact⟨by omega,h2,by omega,λe=>by have:=(bi b e).2;omega⟩
    exact⟨((KeepsOthers.of_grownBy (EA BX) λj o e=>by cases e).trans aH).from _,⟨(BX.mono hwr).trans ag,(N7 BX).trans aH.walks⟩,⟨_,L++[(R x.1,V,Z)],bk,by rw[mj,mQ,<-aZ.out,kY];exact bh,by rw[lN,aY.out,HF.out,kU a0.out,lN,mJ];rfl,λp U=>by
     rcases mN.1 U with U | U
     .exact(aS.out p U).mv M1
     rw[qx.1 U];exact aO.out.mv M2⟩,HB.out.trans<|(BX.mono hwr).trans ag⟩
   refine tk 4 (.bool false) rfl m ?_;refine DC (by kernel_rfl) ?_ _;have a0:=bC hc2;clear hc2;gi_wp2_with fail;exact⟨.of_grownBy (EA T) (λj e=>by cases e),⟨T.mono hwr,N7 T⟩,by rw[HF.out,kZ a0.out,mU];exact Km (α:=Unit) _ _ 0 (λ_=>_) () _ _ none HO.out (EA T) (λr e=>by cases e),HB.out.trans<|T.mono hwr⟩
  case done=>
   rintro D ys W hD rfl ⟨hO,J⟩ q;obtain⟨v,L,ai,al,ao,hE⟩:=hO;obtain⟨qo,co,rfl⟩:=Kp al;have a3:=ai.cell;have a5:=qh<|kw G J.size;have HK:=bC q;have HB:=bC J;have a1:=bC al;have HE:=bC hE;have HL:=bC<|ao.trans aT.out;clear q J al hE ao ai h0;have av:Below w.1.size w (W.putObj D<|.deferred none):=P.out.trans<|(HB.out.trans<|belowK_b (w:=wr) (kF _) W D _ _ (kJ ae.out.size hD) HK.out rfl rfl).mono P.out.size;have kp:∀p∈L,EtA (W.putObj D<|.deferred none) (oa w.1.size (W.putObj D<|.deferred none)<|.slice qo L.length co) p:=λp U=>(HE.out p U).mv λb hf o u hu=>⟨⟨kJ (qh G) hf.1,by simpa using hf.2.1,hf.2.2.2⟩,cell_kept hu (grownBy_putObj' W D<|.deferred none) λr e=>by cases e;exact⟨_,HK.out,rfl⟩⟩;by_cases dm:200<L.length
   .have eL:(200:Int)<(L.length:Int):=(by omega);have F:=bC av;clear av kp;go_wp2_with fail;refine⟨by simp,.inl ⟨_,_,rfl,run_takeDeferred HK.out,?_⟩⟩;exact⟨_,sO rfl _ _ _,by unfold F5;rw[kZ<|by simp,<-HL.out,mM,kU dm];rfl,F.out⟩
   have eL:¬(200:Int)<(L.length:Int):=(by omega);have F:=bC<|And.intro av kp;clear av kp;go_wp2_with fail;refine⟨by simp,.inl ⟨_,_,rfl,run_takeDeferred HK.out,?_⟩⟩;exact⟨_,sO rfl _ _ _,by unfold F5;rw[kZ<|by simp,<-HL.out,mM,kZ dm];exact⟨_,L,rfl,rfl,zq (ownsRow_putObj a1.out _ HK.out rfl)<|qh G,F.out.2⟩,F.out.1⟩
  case stop=>rintro D c ab W _ _ h _;exact h.elim
