import Derived.WalkSmall
import Derived.Test.YthcfmhgihcjloaaGreatDoorPk25
namespace Go.Proofs.YthcfmhgihcjloaaGreatDoor
open Go Go.RowKit Tryz
set_option maxRecDepth 100000
set_option maxHeartbeats 16000000
variable {w:World} {n:Nat} {x:Ex}
def StrL (w:World) (q:Option Addr) (n c:Nat) (L:List ByteArray):Prop:=
 L.length=n/\n<=c/\c<=maxLen/\((q=none/\n=0/\c=0)\/∃b o,q=some ⟨b,o,none⟩/\b<w.1.size/\∀i k,L[i]?=some k->w.cell? ⟨b,o+i,none⟩=some (.string k))
theorem StrL.below {w':World} (a:Below w.1.size w w') {q:Option Addr} {n c:Nat} {L:List ByteArray} (h:StrL w q n c L):StrL w' q n c L:=by refine⟨h.1,h.2.1,h.2.2.1,h.2.2.2.imp id ?_⟩;rintro⟨b,o,e,d,f⟩;exact⟨b,o,e,kw d a.size,λi k g=>(a.cell (p:=⟨b,o+i,none⟩) d).trans<|f i k g⟩
def DG (w:World) (q:Option Addr) (n c:Nat) (s:ByteArray) (L:List ByteArray):Prop:=∃L',StrL w q n c L'/\L'.length<=L.length+1/\∀t,t∈L'↔t=s\/t∈L
theorem StrL.of_row {base:Nat} {v:Value} {L:List ByteArray} (h:w.ownsRow base 9 1 v L.length (L.map Value.string)) (h0:0<L.length):∃g cap,v=.slice (some ⟨g,0,none⟩) L.length cap/\StrL w (some ⟨g,0,none⟩) L.length cap L:=by
 obtain⟨h1,⟨_,h2⟩ | ⟨g,cap,a,rfl,h2,h3,h4,h5,h6,h7⟩⟩:=h
 .omega
 refine⟨g,cap,rfl,rfl,h4,h5,.inr ⟨g,0,rfl,(kG.1 h3).1,λi k d=>?_⟩⟩;have hi:=(lC.1 d).1;have e:a[i]?=some (.string k):=by have b:(a.toList.take<|L.length*1)[i]?=(L.map Value.string)[i]?:=(by rw[h7]);rw[mD,kU<|by omega,mI,d] at b;rw[<-qH,b];rfl
 simp[World.cell?,h3,e]
theorem Ht {b o:Nat} {L:List ByteArray} (h:∀i k,L[i]?=some k->w.cell? ⟨b,o+i,none⟩=some (.string k)):
  ∀j u,(L.map Value.string)[j]?=some u->w.cell? ((⟨b,o,none⟩:Addr).add j)=some u:=by
 intro j u hu;rw[mI,pF] at hu;obtain⟨k,a,rfl⟩:=hu;rw[rP];exact h j k a
theorem DH (L:List ByteArray):∀u∈L.map Value.string,u.oneCell'=true:=by intro u hu;obtain⟨x,_,rfl⟩:=m9.1 hu;rfl
theorem Hu (s:ByteArray):∀u∈[Value.string s],u.oneCell'=true:=λu hu=>DH [s] u<|by simpa using hu
theorem yW (s:ByteArray) (b o n c:Nat) (L:List ByteArray) (hL:L.length=n) (af:n<=c) (ae:c<=maxLen) (hn:n<=1048576) (T:b<w.1.size) (hx:∀i a,L[i]?=some a->w.cell? ⟨b,o+i,none⟩=some (.string a)):
  cN 146 #[.slice (some ⟨b,o,none⟩) n c,.string s] w λe w'=>∃q n' c',e=.returned (.slice q n' c')/\DG w' q n' c' s L/\Below w.1.size w w':=by
 obtain⟨C,hi,y,A,B⟩:=mE (show(prog.info? 9).map (λi=>(i.zero,i.size,i.bytes))=some (some<|.string ⟨#[]⟩,1,16) by kernel_rfl);have ab:=bC hx;clear hx;go_enter func146,ntmps146;go_wp2_with fail
 go_loopw [5] (λi wr=>∃j:Nat,j<=n/\i=.int .i64 j/\Below w.1.size w wr) (λi _=>n - (intOf i).toNat)
 case atStart=>exact⟨0,kL _,rfl,kE _ _⟩
 case round=>
  obtain⟨j,hj,rfl,r⟩:=hrel;have ag:=r.size;by_cases ai:j<n
  .have hjn':(j:Int)<(n:Int):=(by omega);obtain⟨a,ha⟩:∃a,L[j]?=some a:=⟨_,k8<|by omega⟩;have ad:Hid (L[j]?=some a):=ha;have d0:=(r.cell (p:=⟨b,o+j,none⟩) T).trans<|ab.out j a ha;clear ha
   cases ak:Op.bytesLess a.toList s.toList with
   | true=>
    go_wp2_with fail;go_roundw
    case rel=>exact⟨j+1,by omega,by go_num,r⟩
    case measure=>simp[intOf];omega
   | false=>
    cases he:(a.toList==s.toList) with
    | true=>have ac:a=s:=Fx (by simpa using he);have jl:Hid (a=s):=ac;clear ac;go_wp2_with fail;go_ret;refine⟨_,n,c,rfl,⟨L,⟨hL,af,ae,.inr ⟨b,o,rfl,kw T ag,λi k hk=>(r.cell (p:=⟨b,o+i,none⟩) T).trans<|ab.out i k hk⟩⟩,by omega,λt=>⟨.inr,λh=>h.elim (λe=>?_) id⟩⟩,r⟩;rw[e,<-jl.out];exact np ad.out
    | false=>
     have e0:Hid (wr.ownsRow wr.1.size 9 1 (.slice none 0 0) 0 []):=mH _ _ _ _;have J:∀i a,L[i]?=some a->wr.cell? ⟨b,o+i,none⟩=some (.string a):=λi a h=>(r.cell (p:=⟨b,o+i,none⟩) T).trans<|ab.out i a h
     have n1:Hid (∀q u,((L.take j).map Value.string)[q]?=some u->wr.cell? ((⟨b,o,none⟩:Addr).add q)=some u):=Ht λi a h=>J i a<|by rw[mD] at h;split at h<;>first | exact h | cases h
     have n3:Hid (∀z,Below wr.1.size wr z->∀q u,((L.drop j).map Value.string)[q]?=some u->z.cell? ((⟨b,o+j,none⟩:Addr).add q)=some u):=λz hz=>Ht λi a h=>by
      rw[qt] at h;have:=(hz.cell (p:=⟨b,o+(j+i),none⟩)<|by show b<wr.1.size;omega).trans<|J (j+i) a h
      rwa [<-pW] at this
     clear J;have M:(L.take j).length=j:=(by simp;omega);have K:(L.drop j).length=n - j:=(by simp;omega);by_cases aa:j=c
     .omega
     have jm:¬c=j:=λh=>aa h.symm
     go_wp2_with (first
      | (at_builtin;with_reducible refine lm _ rfl _ _ 139 rfl wr.1.size 9 C (.string ⟨#[]⟩) 1 16 underlying139 hi y A B rfl (by decide) (.slice none 0 0) 0 [] ?_ e0.out ⟨b,o,none⟩ j c ((L.take j).map Value.string) ?_ (by rw[mM,M];omega) n1.out (DH _) (by unfold maxLen;omega) (by omega) (kF _) ?_
         .rfl
         .rfl
         intro W l F Q _;have D:Below wr.1.size wr l:=(kE _ wr).grown Q (kF _) λf d=>by simp[Value.ownBlock] at d
         have V:=D.size)
      | (at_builtin;with_reducible refine lm _ rfl _ _ 139 rfl wr.1.size 9 C (.string ⟨#[]⟩) 1 16 underlying139 hi y A B rfl (by decide) W (0+j) _ ?_ (F.alloc _) ⟨l.1.size,0,none⟩ 1 1 [.string s] ?_ rfl (World.news_of_block<|kR l<|.cells #[.string s] 9) (Hu s) (by unfold maxLen;omega) (by omega) (by simp;omega) ?_
         .rfl
         .rfl
         intro X Z G P _;have m:Below wr.1.size wr Z:=(D.alloc V _).grown P (by simp;omega) λf d=>(F.lt f d).1
         have H:=m.size)
      | (at_builtin;with_reducible refine lm _ rfl _ _ 139 rfl wr.1.size 9 C (.string ⟨#[]⟩) 1 16 underlying139 hi y A B rfl (by decide) X (0+j+1) _ ?_ G ⟨b,o+j,none⟩ (n - j) (c - j) ((L.drop j).map Value.string) ?_ (by rw[mM,K];omega) (n3.out _ m) (DH _) (by unfold maxLen;omega) (by omega) H ?_
         .rfl
         .rfl
         intro Y I S R _
         have N:Below wr.1.size wr I:=m.grown R H λf d=>(G.lt f d).1))
     go_ret;have E:(L.take j++s::L.drop j).length=0+j+1+(n - j):=(by rw[kY,lF,M,K];omega);have O:I.ownsRow wr.1.size 9 1 Y (L.take j++s::L.drop j).length ((L.take j++s::L.drop j).map Value.string):=(by rw[E];simpa using S);obtain⟨g,cap,rfl,U⟩:=StrL.of_row O (by omega);refine⟨_,_,cap,rfl,⟨_,U,by rw[E,hL];omega,λt=>?_⟩,cV r N⟩;rw[mN,lO,<-sP,or_comm (a:=t∈L.take j),sP,<-mN,lS]
  obtain rfl:j=n:=(by omega);have e0:Hid (wr.ownsRow wr.1.size 9 1 (.slice none 0 0) 0 []):=mH _ _ _ _;have J:∀i a,L[i]?=some a->wr.cell? ⟨b,o+i,none⟩=some (.string a):=λi a h=>(r.cell (p:=⟨b,o+i,none⟩) T).trans<|ab.out i a h
  have n1:Hid (∀q u,((L.take j).map Value.string)[q]?=some u->wr.cell? ((⟨b,o,none⟩:Addr).add q)=some u):=Ht λi a h=>J i a<|by rw[mD] at h;split at h<;>first | exact h | cases h
  have n3:Hid (∀z,Below wr.1.size wr z->∀q u,((L.drop j).map Value.string)[q]?=some u->z.cell? ((⟨b,o+j,none⟩:Addr).add q)=some u):=λz hz=>Ht λi a h=>by
   rw[qt] at h;have:=(hz.cell (p:=⟨b,o+(j+i),none⟩)<|by show b<wr.1.size;omega).trans<|J (j+i) a h
   rwa [<-pW] at this
  clear J;have M:(L.take j).length=j:=(by simp;omega);have K:(L.drop j).length=j - j:=(by simp;omega);by_cases aa:j=c
  .subst aa
   go_wp2_with (first
    | (at_builtin;with_reducible refine lm _ rfl _ _ 139 rfl wr.1.size 9 C (.string ⟨#[]⟩) 1 16 underlying139 hi y A B rfl (by decide) (.slice none 0 0) 0 [] ?_ e0.out ⟨b,o,none⟩ j j ((L.take j).map Value.string) ?_ (by rw[mM,M];omega) n1.out (DH _) (by unfold maxLen;omega) (by omega) (kF _) ?_
       .rfl
       .rfl
       intro W l F Q _;have D:Below wr.1.size wr l:=(kE _ wr).grown Q (kF _) λf d=>by simp[Value.ownBlock] at d
       have V:=D.size)
    | (at_builtin;with_reducible refine lm _ rfl _ _ 139 rfl wr.1.size 9 C (.string ⟨#[]⟩) 1 16 underlying139 hi y A B rfl (by decide) W (0+j) _ ?_ (F.alloc _) ⟨l.1.size,0,none⟩ 1 1 [.string s] ?_ rfl (World.news_of_block<|kR l<|.cells #[.string s] 9) (Hu s) (by unfold maxLen;omega) (by omega) (by simp;omega) ?_
       .rfl
       .rfl
       intro X Z G P _;have m:Below wr.1.size wr Z:=(D.alloc V _).grown P (by simp;omega) λf d=>(F.lt f d).1
       have H:=m.size)
    | (at_builtin;with_reducible refine lm _ rfl _ _ 139 rfl wr.1.size 9 C (.string ⟨#[]⟩) 1 16 underlying139 hi y A B rfl (by decide) X (0+j+1) _ ?_ G ⟨b,o,none⟩ 0 0 ((L.drop j).map Value.string) ?_ (by rw[mM,K];omega) (λq u h=>by rw[pQ<|by omega] at h;simp at h) (DH _) (by unfold maxLen;omega) (by omega) H ?_
       .rfl
       .rfl
       intro Y I S R _
       have N:Below wr.1.size wr I:=m.grown R H λf d=>(G.lt f d).1))
   go_ret;have E:(L.take j++s::L.drop j).length=0+j+1+0:=(by rw[kY,lF,M,K];omega);have O:I.ownsRow wr.1.size 9 1 Y (L.take j++s::L.drop j).length ((L.take j++s::L.drop j).map Value.string):=(by rw[E];simpa using S);obtain⟨g,cap,rfl,U⟩:=StrL.of_row O (by omega);refine⟨_,_,cap,rfl,⟨_,U,by rw[E,hL];omega,λt=>?_⟩,cV r N⟩;rw[mN,lO,<-sP,or_comm (a:=t∈L.take j),sP,<-mN,lS]
  have jm:¬c=j:=λh=>aa h.symm
  go_wp2_with (first
   | (at_builtin;with_reducible refine lm _ rfl _ _ 139 rfl wr.1.size 9 C (.string ⟨#[]⟩) 1 16 underlying139 hi y A B rfl (by decide) (.slice none 0 0) 0 [] ?_ e0.out ⟨b,o,none⟩ j c ((L.take j).map Value.string) ?_ (by rw[mM,M];omega) n1.out (DH _) (by unfold maxLen;omega) (by omega) (kF _) ?_
      .rfl
      .rfl
      intro W l F Q _;have D:Below wr.1.size wr l:=(kE _ wr).grown Q (kF _) λf d=>by simp[Value.ownBlock] at d
      have V:=D.size)
   | (at_builtin;with_reducible refine lm _ rfl _ _ 139 rfl wr.1.size 9 C (.string ⟨#[]⟩) 1 16 underlying139 hi y A B rfl (by decide) W (0+j) _ ?_ (F.alloc _) ⟨l.1.size,0,none⟩ 1 1 [.string s] ?_ rfl (World.news_of_block<|kR l<|.cells #[.string s] 9) (Hu s) (by unfold maxLen;omega) (by omega) (by simp;omega) ?_
      .rfl
      .rfl
      intro X Z G P _;have m:Below wr.1.size wr Z:=(D.alloc V _).grown P (by simp;omega) λf d=>(F.lt f d).1
      have H:=m.size)
   | (at_builtin;with_reducible refine lm _ rfl _ _ 139 rfl wr.1.size 9 C (.string ⟨#[]⟩) 1 16 underlying139 hi y A B rfl (by decide) X (0+j+1) _ ?_ G ⟨b,o+j,none⟩ 0 (c - j) ((L.drop j).map Value.string) ?_ (by rw[mM,K];omega) (n3.out _ m) (DH _) (by unfold maxLen;omega) (by omega) H ?_
      .rfl
      .rfl
      intro Y I S R _
      have N:Below wr.1.size wr I:=m.grown R H λf d=>(G.lt f d).1))
  go_ret;have E:(L.take j++s::L.drop j).length=0+j+1+0:=(by rw[kY,lF,M,K];omega);have O:I.ownsRow wr.1.size 9 1 Y (L.take j++s::L.drop j).length ((L.take j++s::L.drop j).map Value.string):=(by rw[E];simpa using S);obtain⟨g,cap,rfl,U⟩:=StrL.of_row O (by omega);refine⟨_,_,cap,rfl,⟨_,U,by rw[E,hL];omega,λt=>?_⟩,cV r N⟩;rw[mN,lO,<-sP,or_comm (a:=t∈L.take j),sP,<-mN,lS]
theorem A3 (s:ByteArray) (w:World):cN 146 #[.slice none 0 0,.string s] w λe w'=>∃q j f,e=.returned (.slice q j f)/\DG w' q j f s []/\Below w.1.size w w':=by
 obtain⟨a,hi,y,z,A⟩:=mE (show(prog.info? 9).map (λi=>(i.zero,i.size,i.bytes))=some (some<|.string ⟨#[]⟩,1,16) by kernel_rfl);go_enter func146,ntmps146;go_wp2_with fail;refine my ?_;have h:Hid (w.ownsRow w.1.size 9 1 (.slice none 0 0) 0 []):=mH _ _ _ _
 go_wp2_with (first
  | (at_builtin;refine wpList_append_own_none rfl _ _ 139 rfl w.1.size 9 a 1 underlying139 hi (.slice none 0 0) 0 [] rfl h.out rfl ?_)
  | (at_builtin;with_reducible refine lm _ rfl _ _ 139 rfl w.1.size 9 a (.string ⟨#[]⟩) 1 16 underlying139 hi y z A rfl (by decide) (.slice none 0 0) 0 [] ?_ (h.out.alloc _) ⟨w.1.size,0,none⟩ 1 1 [.string s] ?_ rfl (World.news_of_block<|kR w<|.cells #[.string s] 9) (Hu s) (by unfold maxLen;omega) (by omega) (by simp) ?_
     .rfl
     .rfl
     intro k l d o _;have b:Below w.1.size w l:=(cU w _).grown o (by simp) λB r=>by simp[Value.ownBlock] at r
     have C:=b.size)
  | (at_builtin;with_reducible refine wpList_append_own_none rfl _ _ 139 rfl w.1.size 9 a 1 underlying139 hi k (0+1) _ rfl d rfl ?_))
 go_ret;have m:l.ownsRow w.1.size 9 1 k [s].length ([s].map Value.string):=by simpa using d
 obtain⟨g,cap,rfl,u⟩:=StrL.of_row m (by simp);exact⟨_,_,cap,rfl,⟨_,u,by simp,λt=>by simp⟩,b⟩
theorem DI (s:ByteArray) {q:Option Addr} {n c:Nat} {L:List ByteArray} (h:StrL w q n c L) (i:n<=1048576):
  cN 146 #[.slice q n c,.string s] w λe w'=>∃q d a,e=.returned (.slice q d a)/\DG w' q d a s L/\Below w.1.size w w':=by
 obtain⟨h1,h2,h3,⟨rfl,rfl,rfl⟩ | ⟨b,o,rfl,g,f⟩⟩:=h
 .obtain rfl:L=[]:=kM h1;exact A3 s w
 exact yW s b o n c L h1 h2 h3 i g f
def Ex.nms:Ex->List ByteArray
 | .non=>[]
 | .mk k _ _ _ _ m c ar=>if k=2 then [m] else(List.range c).flatMap λi=>(ar i).nms
theorem Ex.nms_mk (k f:Int) (ng:Bool) (nu de:List Int) (m:ByteArray) (c:Nat) (a:Nat->Ex):(Ex.mk k f ng nu de m c a).nms=if k=2 then [m] else(List.range c).flatMap λi=>(a i).nms:=by rw[Ex.nms]
theorem TG {f:Int} {ng:Bool} {X Y:Int} {m:ByteArray} (h:bX 2 f ng X Y m n=true):n=0:=by unfold bX at h;simp only[lL,mB] at h;have:=h.1.1;rw[show eX 2=0 from by decide] at this;omega
theorem A4:∀(x:Ex) (d n a:Nat),x.cnt d n=some a->∀s,s∈x.nms↔(2,s)∈x.nds:=by
 intro x
 induction x with
 | non=>intro d n a h;cases h
 | mk k f ng nu de m c ar ih=>
  intro d n a h s;unfold Ex.cnt at h;split at h
  .rename_i hc;obtain⟨_,h2⟩:=Kb (L:=λi=>(ar i).nds) (G:=λi=>∀s,s∈(ar i).nms↔(2,s)∈(ar i).nds) (λi a g h=>⟨(Kc (ar i) _ _ _ h).1,ih i _ _ _ h⟩) h;rw[Ex.nms_mk,Ex.nds_mk,lO];by_cases b:k=2
   .subst b;have h0:=TG hc.2.2;subst h0;simp
   rw[kZ b,List.mem_flatMap,List.mem_flatMap];constructor
   .rintro⟨i,hi,e⟩;exact .inr ⟨i,hi,(h2 i (kP.1 hi) s).1 e⟩
   rintro(h | ⟨i,hi,e⟩)
   .simp only[tp] at h;exact absurd h.1.symm b
   exact⟨i,hi,(h2 i (kP.1 hi) s).2 e⟩
  cases h
def NmL (w:World) (q:Option Addr) (n c:Nat) (M L:List ByteArray) (k:Nat):Prop:=∃L',StrL w q n c L'/\L'.length<=L.length+k/\∀t,t∈L'↔t∈M\/t∈L
theorem NmL.below {w':World} (b:Below w.1.size w w') {q:Option Addr} {n c k:Nat} {M L:List ByteArray} (h:NmL w q n c M L k):NmL w' q n c M L k:=by obtain⟨a,h1,h2⟩:=h;exact⟨a,h1.below b,h2⟩
theorem yX (x:Ex):∀(d:Nd) (w:World) (q:Option Addr) (n c:Nat) (L:List ByteArray),ExOk w x d->StrL w q n c L->L.length+x.nds.length<=1048576->
  cN 106 #[d.val,.slice q n c] w λe w'=>∃q' g a,e=.returned (.slice q' g a)/\NmL w' q' g a x.nms L x.nds.length/\Below w.1.size w w':=by
 induction x with
 | non=>intro d w q n c L h;exact h.elim
 | mk k f ng nu de m sn ar ih=>
  intro d w q n c L S y X;obtain⟨N,B,H,aq,an,ac,cq,A,cc,s,sq,r,sc⟩:=d;have O:(Ex.mk k f ng nu de m sn ar).nds.length=1+((List.range sn).flatMap λi=>(ar i).nds).length:=by rw[Ex.nds_mk,lF];omega
  unfold ExOk at S;obtain⟨⟨rfl,rfl,rfl,rfl,rfl⟩,-,-,-,-,hn,F⟩:=S;simp only at F hn;rw[Ex.nms_mk,O];rw[O] at X;simp only[Nd.val];have D:Hid (Below w.1.size w<|w.alloc<|.cells (mA N B H aq an ac cq A cc s sq r sc) 33):=cU w _;have W:Hid (StrL w q n c L):=y;by_cases h2:N=2
  .subst h2;rw[kU rfl];have M:=DI s (y.below D.out)<|by have:=y.1;omega
   have M:cN 146 #[.slice q n c,.string s] (w.alloc<|.cells #[.int .i64 2,.int .i64 B,.bool H,.slice aq an ac,.slice cq A cc,.string s,.slice sq r sc] 33) λe w'=>∃q' g a,e=.returned (.slice q' g a)/\NmL w' q' g a [s] L (1+((List.range r).flatMap λi=>(ar i).nds).length)/\Below (w.alloc<|.cells #[.int .i64 2,.int .i64 B,.bool H,.slice aq an ac,.slice cq A cc,.string s,.slice sq r sc] 33).1.size (w.alloc<|.cells #[.int .i64 2,.int .i64 B,.bool H,.slice aq an ac,.slice cq A cc,.string s,.slice sq r sc] 33) w':=
    M.mono λe w' h=>by obtain⟨q',g,a,rfl,⟨u,h1,h2,h3⟩,h4⟩:=h;exact⟨q',g,a,rfl,⟨u,h1,by omega,λt=>by rw[h3 t];simp⟩,h4⟩
   clear y ih F;go_enter func106,ntmps106;go_wp2_with (go_at_call 146;with_reducible refine M.mono ?_;rintro e w3 ⟨q',g,a,rfl,J,z⟩);go_ret;exact⟨q',g,a,rfl,J,cV D.out z⟩
  rw[kZ h2];have ad:(N==2)=false:=(by simp[h2]);clear h2 y;have Z:=bC F;clear F;go_enter func106,ntmps106;go_wp2_with fail
  go_loopw [1,5] (λl i wr=>∃(j:Nat) (q':Option Addr) (g a:Nat),j<=r/\i=.int .i64 j/\l=.slice q' g a/\Hid (NmL wr q' g a ((List.range j).flatMap λi=>(ar i).nms) L ((List.range j).flatMap λi=>(ar i).nds).length)/\Hid (Below w.1.size w wr)/\wr.cell? ⟨w.1.size,6,none⟩=some (.slice sq r sc)/\w.1.size<wr.1.size) (λ_ i _=>r - (intOf i).toNat)
  case atStart=>exact⟨0,q,n,c,kL _,rfl,rfl,⟨L,W.out.below D.out,by simp,λt=>by simp⟩,D,by simp,by simp⟩
  case round=>
   obtain⟨j,q',g,a,hj,rfl,rfl,I,E,ab,R⟩:=hrel;by_cases K:j<r
   .have am:(j:Int)<(r:Int):=(by omega);obtain⟨b,o,rfl,Y,P,Q⟩:=Z.out.resolve_left (by omega);obtain⟨x0,x1,x2,x3,x4,x5,x6⟩:=(Q j K).1.below E.out Y;have aa:=NI (λi=>(ar i).nds) K;obtain⟨u,g1,g2,C⟩:=I.out;have G:=ih j (P j) wr q' g a u ((Q j K).2.below E.out) g1<|by omega
    have G:cN 106 #[(P j).val,.slice q' g a] wr λe w'=>∃q2 n2 c2,e=.returned (.slice q2 n2 c2)/\NmL w' q2 n2 c2 ((List.range<|j+1).flatMap λi=>(ar i).nms) L ((List.range<|j+1).flatMap λi=>(ar i).nds).length/\Below wr.1.size wr w':=
     G.mono λe w' h=>by
      obtain⟨q2,n2,c2,rfl,⟨T,e1,e2,U⟩,V⟩:=h;refine⟨q2,n2,c2,rfl,⟨T,e1,?_,λt=>?_⟩,V⟩
      .simp only[qw,mj,kY,nU,rK,mU];omega
      rw[U t,C t];simp only[qw,mj,nU,rK,mU,mN];constructor
      .rintro(h | h | h)
       .exact .inl (.inr h)
       .exact .inl (.inl h)
       exact .inr h
      rintro((h | h) | h)
      .exact .inr (.inl h)
      .exact .inl h
      exact .inr<|.inr h
    simp only[Nd.val] at G;clear g1 g2 C I aa;go_wp2_with (go_at_call 106;with_reducible refine G.mono ?_;rintro e w3 ⟨q2,n2,c2,rfl,J,z⟩);go_roundw
    case rel=>exact⟨j+1,q2,n2,c2,by omega,by go_num,rfl,J,cV E.out z,(z.cell (p:=⟨w.1.size,6,none⟩) R).trans ab,kw R z.size⟩
    case measure=>simp[intOf];omega
   obtain rfl:j=r:=(by omega);go_wp2_with fail;go_ret;obtain⟨u,g1,g2,C⟩:=I.out;exact⟨q',g,a,rfl,⟨u,g1,by omega,C⟩,E.out⟩
def cov (x:Ex) (n:Nat) (bs:Nat->Si):Bool:=x.nds.all λp=>!decide (p.1=2)||(dW n bs p.2).isSome
theorem Kf (x:Ex) (n:Nat) (bs:Nat->Si):cov x n bs=true↔∀s,(2,s)∈x.nds->(dW n bs s).isSome=true:=by
 unfold cov;rw[lj];constructor
 .intro h s hs;simpa using h _ hs
 rintro h ⟨k,s⟩ b;by_cases a:k=2
 .subst a;simp[h s b]
 simp[a]
theorem NN {bs:Nat->Si} {s:ByteArray} (h:(2,s)∈x.nds) (h2:dW n bs s=none):cov x n bs=false:=by rw[rq];intro a;have:=(Kf x n bs).1 a s h;rw[h2] at this;cases this
theorem yY (o:Option Nat):decide (om o<0)=!o.isSome:=by
 cases o with
 | none=>rfl
 | some i=>rw[kQ (show ¬om (some i)<0 from λh=>by simp only[om] at h;omega)];rfl
theorem yZ {k:Nat} {bs:Nat->Si} {a:Nat->ByteArray} (h:∀s,(∃i,i<k/\a i=s)↔(2,s)∈x.nds):decide (om ((List.range k).find? λi=>!(dW n bs<|a i).isSome)>=0)=!cov x n bs:=by
 cases b:(List.range k).find? λi=>!(dW n bs<|a i).isSome with
 | none=>
  rw[rl] at b
  have:cov x n bs=true:=by
   rw[Kf];intro s d;obtain⟨i,hi,rfl⟩:=(h s).2 d;have h1:=b i<|kP.2 hi
   cases hq:(dW n bs<|a i).isSome with
   | true=>rfl
   | false=>exact absurd (by rw[hq];rfl) h1
  rw[this];rfl
 | some i=>have h1:=List.find?_some b;have h2:=sF b;rw[NN ((h<|a i).1 ⟨i,kP.1 h2,rfl⟩)<|by simpa using h1];simp[om]
theorem y' {q:Option Addr} (c:Nat) {bs:Nat->Si} (h:SisOk w q n bs) (d:n<=1048576) (s:ByteArray) (B:Nat) (_e:B<w.1.size) (f:w.cell? ⟨B,0,none⟩=some (.slice q n c)):
  bF w 93 #[.string s,.pointer<|some ⟨B,0,none⟩] (.bool<|!(dW n bs s).isSome):=by
 have a:=A1 c h d s;rw[<-yY];generalize om (dW n bs s)=r at*;clear h;go_enter func93,ntmps93;go_wp2_with (go_at_call 94;with_reducible refine jR a λw5 b=>?_);go_ret;exact⟨rfl,b⟩
theorem TH (b o k ck:Nat) (d:Nat->ByteArray) (F:k<=1048576) (z:b<w.1.size) (u:∀i,i<k->w.cell? ⟨b,o+i,none⟩=some (.string<|d i))
  {q:Option Addr} {n c:Nat} {bs:Nat->Si} (h:SisOk w q n bs) (D:n<=1048576) (B:Nat) (r:B<w.1.size) (s:w.cell? ⟨B,0,none⟩=some (.slice q n c)):
  bF w 133 #[.slice (some ⟨b,o,none⟩) k ck,.func (.func 93) #[] #[.pointer<|some ⟨B,0,none⟩]] (.int .i64<|om<|(List.range k).find? λi=>!(dW n bs<|d i).isSome):=by
 have E:=bC u;have C:=bC s;have y:Hid (SisOk w q n bs):=h;clear u s h;go_enter func133,ntmps133;go_wp2_with fail
 go_loopw [8] (λi wr=>∃j:Nat,j<=k/\i=.int .i64 j/\Hid (∀i,i<j->(dW n bs<|d i).isSome=true)/\Below w.1.size w wr) (λi _=>k - (intOf i).toNat)
 case atStart=>exact⟨0,kL _,rfl,λj A=>by omega,kE _ _⟩
 case round=>
  obtain⟨j,A,rfl,f,a⟩:=hrel;by_cases t:j<k
  .have am:(j:Int)<(k:Int):=(by omega);have G:=(a.cell (p:=⟨b,o+j,none⟩) z).trans<|E.out j t;have e:=y' c (y.out.below a) D (d j) B (kw r a.size)<|(a.cell (p:=⟨B,0,none⟩) r).trans C.out;obtain⟨R,g⟩:∃R,Hid ((dW n bs<|d j).isSome=R):=⟨_,rfl⟩;rw[g.out] at e
   cases R with
   | false=>go_wp2_with (go_at_call 93;with_reducible refine jR e λw5 l=>?_);go_ret;have m:((List.range k).find? λi=>!(dW n bs<|d i).isSome)=some j:=(by rw[rU];refine⟨by rw[g.out];rfl,j,by simpa using t,by simp,λi hi=>?_⟩;have:=f.out i hi;simp[this]);exact⟨by rw[m];rfl,cV a l⟩
   | true=>
    go_wp2_with (go_at_call 93;with_reducible refine jR e λw5 l=>?_);go_roundw
    case rel=>
     refine⟨j+1,by omega,by go_num,λi hi=>?_,cV a l⟩
     rcases kS i j with h | h
     .exact f.out i h
     obtain rfl:i=j:=(by omega);exact g.out
    case measure=>simp[intOf];omega
  obtain rfl:j=k:=(by omega);go_wp2_with fail;go_ret;have m:((List.range j).find? λi=>!(dW n bs<|d i).isSome)=none:=(by rw[rl];intro i hi;simp[f.out i<|kP.1 hi]);exact⟨by rw[m];rfl,a⟩
theorem TI (q:Option Addr) (c:Nat) (f:Value):cN 133 #[.slice q 0 c,f] w λx w'=>x=.returned (.int .i64<|-1)/\w'=w:=by go_enter func133,ntmps133;go_wp2_with fail;refine my ?_;go_wp2_with fail;go_ret;exact⟨rfl,rfl⟩
theorem ze {d:Option Addr} {k ck:Nat} {a:Nat->ByteArray} (f:StrsOk w d k a) (s:k<=1048576) {q:Option Addr} {n c:Nat} {bs:Nat->Si} (h:SisOk w q n bs) (u:n<=1048576) (B:Nat) (j:B<w.1.size) (e:w.cell? ⟨B,0,none⟩=some (.slice q n c)):
  bF w 92 #[.slice d k ck,.func (.func 93) #[] #[.pointer<|some ⟨B,0,none⟩]] (.bool<|decide (om ((List.range k).find? λi=>!(dW n bs<|a i).isSome)>=0)):=by
 have g:bF w 133 #[.slice d k ck,.func (.func 93) #[] #[.pointer<|some ⟨B,0,none⟩]] (.int .i64<|om<|(List.range k).find? λi=>!(dW n bs<|a i).isSome):=by
  rcases f with rfl | ⟨b,o,rfl,t,m⟩
  .refine(TI d ck _).mono ?_;rintro x w' ⟨rfl,rfl⟩;exact⟨rfl,kE _ _⟩
  exact TH b o k ck a s t m h u B j e
 generalize om _=r at*;clear f h e;go_enter func92,ntmps92;go_wp2_with (go_at_call 133;with_reducible refine jR g λw5 l=>?_);go_ret;exact⟨rfl,l⟩
theorem NO {d:Nd} {a:Nat} (u:ExOk w x d) (C:Tb w) (hv:x.cnt 1 0=some a) {q:Option Addr} {n:Nat} (c:Nat) {bs:Nat->Si} (h:SisOk w q n bs) (I:n<=1048576):
  bF w 63 #[d.val,.slice q n c] (.bool<|cov x n bs):=by
 have g:Below w.1.size w ((w.alloc<|.cells (nA d) 33).alloc<|.cells #[.slice q n c] 34):=dF w _ _;have m:=TF (u.below g) (C.below g) hv;simp only[Nd.val] at m ⊢;have y:=bC g
 have hh:=λz (K:Below w.1.size w z) f k ck b (J:StrsOk z f k b) (N:k<=300) (G:∀s,(∃i,i<k/\b i=s)↔(2,s)∈x.nds) (B:Nat) (A:B<z.1.size) (H:z.cell? ⟨B,0,none⟩=some (.slice q n c))=>
  (ze (ck:=ck) J (by omega) (h.below K) I B A H).mono (R':=λe w'=>e=.returned (.bool<|!cov x n bs)/\Below z.1.size z w') λe w' r=>by rw[yZ G] at r;exact r
 have F:Hid (∀z,Below w.1.size w z->∀f k ck b,StrsOk z f k b->k<=300->(∀s,(∃i,i<k/\b i=s)↔(2,s)∈x.nds)->∀B,B<z.1.size->z.cell? ⟨B,0,none⟩=some (.slice q n c)->bF z 92 #[.slice f k ck,.func (.func 93) #[] #[.pointer<|some ⟨B,0,none⟩]] (.bool<|!cov x n bs)):=hh;generalize cov x n bs=R at*;clear hh g h u;go_enter func63,ntmps63
 go_wp2_with (first
  | (go_at_call 91;with_reducible refine m.mono ?_;rintro e l ⟨⟨f,k,ck,b,rfl,g1,g2,o⟩,j⟩
     have M:l.cell? ⟨w.1.size+1,0,none⟩=some (.slice q n c):=fg j (by simp) (by simp);have L:w.1.size+1<l.1.size:=kw (by simp) j.size;have t:Hid (Below w.1.size w l):=cV y.out j;have E:=F.out l t.out f k ck b g1 g2 o (w.1.size+1) L M
     clear m j g1 g2 o)
  | (go_at_call 92;with_reducible refine jR E λO D=>?_))
 go_ret;exact⟨by simp,cV t.out D⟩
theorem NP {d:Nd} {a:Nat} (N:ExOk w x d) (hv:x.cnt 1 0=some a) {q:Option Addr} {n:Nat} (c:Nat) {bs:Nat->Si} (h:SisOk w q n bs) (Y:n<=1048576):
  bF w 74 #[d.val,.slice q n c] (.bool<|cov x n bs):=by
 have u:Below w.1.size w (w.alloc<|.cells (nA d) 33):=cU w _;have aa:=Ex.cnt_le x 1 0 a hv;have Z:=(Kc x 1 0 a hv).1;have A:=yX x d _ none 0 0 [] (N.below u) ⟨rfl,kF _,kL _,.inl ⟨rfl,rfl,rfl⟩⟩ (by simp only[mS];omega);simp only[Nd.val] at A ⊢;have P:=bC u;have S:Hid (SisOk w q n bs):=h;clear u h N;go_enter func74,ntmps74;go_wp2_with (go_at_call 106;with_reducible refine A.mono ?_;rintro e E ⟨q',n',c',rfl,T,K⟩);have l:Hid (Below w.1.size w E):=cV P.out K;obtain⟨L,g1,g2,I⟩:=T;have J:Hid (∀t,t∈L↔(2,t)∈x.nds):=λt=>by rw[I t,A4 x 1 0 a hv];simp
 simp only[mS] at g2;obtain⟨rfl,e2,e3,G⟩:=g1;have Q:=bC G;clear I G K A
 go_loopw [6] (λi wr=>∃j:Nat,j<=L.length/\i=.int .i64 j/\Hid (∀i k,i<j->L[i]?=some k->(dW n bs k).isSome=true)/\Below E.1.size E wr) (λi _=>L.length - (intOf i).toNat)
 case atStart=>exact⟨0,kL _,rfl,λi k hi=>by omega,kE _ _⟩
 case round=>
  obtain⟨j,hj,rfl,F,g⟩:=hrel;by_cases W:j<L.length
  .have am:(j:Int)<(L.length:Int):=(by omega);obtain⟨b,o,rfl,U,M⟩:=Q.out.resolve_left (by omega);have m:L[j]?=some L[j]:=k8 W;have x0:=(g.cell (p:=⟨b,o+j,none⟩) U).trans<|M j _ m;have C:=TA c (S.out.below<|cV l.out g) Y L[j];have X:=yY<|dW n bs L[j];have H:Hid (L[j]?=some L[j]):=m;obtain⟨O,f⟩:∃O,dW n bs L[j]=O:=⟨_,rfl⟩;have f:Hid (dW n bs L[j]=O):=f;rw[f.out] at C X;generalize B:L[j]=s at*;clear m M B
   cases O with
   | none=>have R:(om none:Int)<0:=(by decide);generalize om none=r at*;go_wp2_with (go_at_call 107;with_reducible refine jR C λw5 y=>?_);go_ret;refine⟨?_,l.out.trans<|(cV g y).mono l.out.size⟩;rw[NN ((J.out s).1<|np H.out) f.out];rfl
   | some i=>
    have R:¬(om (some i):Int)<0:=λh=>(by simp only[om] at h;omega);generalize om (some i)=r at*;go_wp2_with (go_at_call 107;with_reducible refine jR C λw5 y=>?_);go_roundw
    case rel=>
     refine⟨j+1,by omega,by go_num,λD k hi z=>?_,cV g y⟩
     rcases kS D j with h | h
     .exact F.out D k h z
     obtain rfl:D=j:=(by omega);rw[H.out] at z;cases z;rw[f.out];rfl
    case measure=>simp[intOf];omega
  obtain rfl:j=L.length:=(by omega);go_wp2_with fail;go_ret;refine⟨?_,cV l.out g⟩;have:cov x n bs=true:=(by rw[Kf];intro s B;obtain⟨i,hi,V⟩:=rX<|(J.out s).2 B;exact F.out i s hi<|by rw[k8 hi,V]);rw[this];rfl
