import Derived.Maps.AppendAt
import Derived.Test.YthcfmhgihcjloaaGreatDoorPk01
namespace Go.Proofs.YthcfmhgihcjloaaGreatDoor
open Go Go.RowKit Tryz
set_option maxRecDepth 100000
variable {xs ys os:List Int} {w:World} {c x:Int} {i n:Nat} {v:Value}
theorem Qa (w:World) (n1 n2:Bool) (a b c d:Value) (f g j k:List Int) (y:Sl w a f) (z:Sl w b g) (B:Sl w c j) (C:Sl w d k) (R:f.length<=68719476736) (S:g.length<=68719476736) (bc:j.length<=68719476736) (_bd:k.length<=68719476736)
  (I:¬(bE f).length=0) (J:¬(bE g).length=0) (K:¬(bE j).length=0) (af:(bE k).length=0):
  bF w 39 #[.agg #[.bool n1,a,c],.agg #[.bool n2,b,d]] (.bool<|(n1==n2)&&decide (val (bE f)*1=val (bE g)*val (bE j))):=by
 obtain⟨ta,sa,L⟩:=oH y;obtain⟨tb,P,M⟩:=oH z;obtain⟨tc,sc,N⟩:=oH B;obtain⟨td,sd,kd⟩:=oH C;have la:=ed f;have ai:=fp f f.length;have lb:=ed g;have aj:=fp g g.length;have lc:=ed j;have ak:=fp j j.length;have ld:=ed k;have al:=fp k k.length;have pa:(bE f).length<=68719476736:=by omega
 have pb:(bE g).length<=68719476736:=by omega
 have pc:(bE j).length<=68719476736:=by omega
 have pd:(bE k).length<=68719476736:=by omega
 clear la lb lc ld ai aj ak al R S bc _bd y z B C;generalize bE f=q at*;generalize bE g=r at*;generalize bE j=t at*;generalize bE k=yd at*;have U:=sa;have V:=P;have W:=sc;have X:=sd;obtain⟨_,_,qa,ag,rfl,_⟩:=U;obtain⟨_,_,qb,ah,rfl,_⟩:=V;obtain⟨_,_,qc,an,rfl,_⟩:=W;obtain⟨_,_,qd,ao,rfl,_⟩:=X;have h2:=dF w (Obj.cells #[.bool n1,a,c] 30)<|Obj.cells #[.bool n2,b,d] 30;go_enter func39,ntmps39;go_wp2_with fail
 go_quiet (first
  | (go_at_call_of 66 a;refine lw<|L _<|ee h2 _)
  | (go_at_call_of 66 b;refine lw<|M _<|ee h2 _))
 go_wp2_with fail;have m:=ee h2 nq;have q0:(((w.alloc<|Obj.cells #[Value.bool n1,a,c] 30).alloc<|Obj.cells #[Value.bool n2,b,d] 30).drewN nq).cell? ⟨w.1.size,0,none⟩=some (.bool n1):=by simp
 have q2:(((w.alloc<|Obj.cells #[Value.bool n1,a,c] 30).alloc<|Obj.cells #[Value.bool n2,b,d] 30).drewN nq).cell? ⟨w.1.size,2,none⟩=some c:=by simp
 have r0:(((w.alloc<|Obj.cells #[Value.bool n1,a,c] 30).alloc<|Obj.cells #[Value.bool n2,b,d] 30).drewN nq).cell? ⟨w.1.size+1,0,none⟩=some (.bool n2):=by simp
 have O:(((w.alloc<|Obj.cells #[Value.bool n1,a,c] 30).alloc<|Obj.cells #[Value.bool n2,b,d] 30).drewN nq).cell? ⟨w.1.size+1,2,none⟩=some d:=by simp
 have s2:(((w.alloc<|Obj.cells #[Value.bool n1,a,c] 30).alloc<|Obj.cells #[Value.bool n2,b,d] 30).drewN nq).1.size=w.1.size+2:=by simp
 generalize (((w.alloc<|Obj.cells #[Value.bool n1,a,c] 30).alloc<|Obj.cells #[Value.bool n2,b,d] 30).drewN nq)=l at m q0 q2 r0 O s2 ⊢;clear h2 L M
 go_quiet (first
  | (go_at_call_of 66 c;refine lw<|N _<|ee m _)
  | (go_at_call_of 66 d;refine lw<|kd _<|ee m _))
 clear N kd q2 O;have za:((q.length:Int)==0)=false:=by simp;intro h;apply I;simp[h]
 have zb:((r.length:Int)==0)=false:=by simp;intro h;apply J;simp[h]
 have zc:((t.length:Int)==0)=false:=by simp;intro h;apply K;simp[h]
 have zd:((yd.length:Int)==0)=true:=by simp[af]
 have na:q≠[]:=λe=>I (by rw[e];rfl);have nb:r≠[]:=λe=>J (by rw[e];rfl);have nc:t≠[]:=λe=>K (by rw[e];rfl);have o:Below w.1.size w ((l.drewN nq).alloc<|Obj.cells #[Value.int IntKind.u32 1] 120):=(ee m nq).alloc m.size _;have Q:Sl ((l.drewN nq).alloc<|Obj.cells #[Value.int IntKind.u32 1] 120) (Value.slice (some ⟨w.1.size+2,0,none⟩) 1 1) [1]:=by have:=Jf<|l.drewN nq;rw[show (l.drewN nq).1.size=w.1.size+2 from s2] at this;exact this
 have E:=BL (sa.below o) Q na (by simp) (by simp;omega);generalize u:(l.drewN nq).alloc (Obj.cells #[Value.int IntKind.u32 1] 120)=am at o E Q
 cases D:n1==n2 with
 | false=>subst u;go_wp2_with fail;go_ret;exact⟨by rw[D];rfl,o⟩
 | true=>
  subst u
  go_wp2_with (first
   | (go_at_call_of 68 (Value.slice qa q.length ag);refine E.mono ?_;rintro e w3 ⟨r1,z1,rfl,F,ab,H,Z⟩
      have s:=cV o Z
      have ad:=BL (P.below s) (sc.below s) nb nc<|by omega)
   | (go_at_call_of 68 (Value.slice qb r.length ah);refine ad.mono ?_;rintro e w4 ⟨ap,z2,rfl,G,ac,ae,A⟩
      have he:=GC (F.below A) G)
   | (go_at_call 67;refine jR he λw5 aa=>?_))
  go_ret;have Y:=cV s A;refine⟨?_,cV Y aa⟩;have T:z1=z2↔val q*1=val r*val t:=by have v1:val [1]=1:=(by decide);rw[v1] at H;rw[<-H,<-ae];exact⟨λh=>by rw[h],λh=>C1 F.1 G.1 ab ac h⟩
  rw[D];simp[T]
theorem Qb (w:World) (n1 n2:Bool) (a b c d:Value) (f g k j:List Int) (y:Sl w a f) (z:Sl w b g) (C:Sl w c k) (D:Sl w d j) (S:f.length<=68719476736) (T:g.length<=68719476736) (_bc:k.length<=68719476736) (bd:j.length<=68719476736)
  (J:¬(bE f).length=0) (K:¬(bE g).length=0) (af:(bE k).length=0) (L:¬(bE j).length=0):
  bF w 39 #[.agg #[.bool n1,a,c],.agg #[.bool n2,b,d]] (.bool<|(n1==n2)&&decide (val (bE f)*val (bE j)=val (bE g)*1)):=by
 obtain⟨ta,sa,M⟩:=oH y;obtain⟨tb,Q,N⟩:=oH z;obtain⟨tc,sc,O⟩:=oH C;obtain⟨td,sd,kd⟩:=oH D;have la:=ed f;have ai:=fp f f.length;have lb:=ed g;have aj:=fp g g.length;have lc:=ed k;have ak:=fp k k.length;have ld:=ed j;have al:=fp j j.length;have pa:(bE f).length<=68719476736:=by omega
 have pb:(bE g).length<=68719476736:=by omega
 have pc:(bE k).length<=68719476736:=by omega
 have pd:(bE j).length<=68719476736:=by omega
 clear la lb lc ld ai aj ak al S T _bc bd y z C D;generalize bE f=q at*;generalize bE g=r at*;generalize bE k=yc at*;generalize bE j=s at*;have V:=sa;have W:=Q;have X:=sc;have Y:=sd;obtain⟨_,_,qa,ag,rfl,_⟩:=V;obtain⟨_,_,qb,ah,rfl,_⟩:=W;obtain⟨_,_,qc,an,rfl,_⟩:=X;obtain⟨_,_,qd,ao,rfl,_⟩:=Y;have h2:=dF w (Obj.cells #[.bool n1,a,c] 30)<|Obj.cells #[.bool n2,b,d] 30;go_enter func39,ntmps39;go_wp2_with fail
 go_quiet (first
  | (go_at_call_of 66 a;refine lw<|M _<|ee h2 _)
  | (go_at_call_of 66 b;refine lw<|N _<|ee h2 _))
 go_wp2_with fail;have o:=ee h2 nq;have q0:(((w.alloc<|Obj.cells #[Value.bool n1,a,c] 30).alloc<|Obj.cells #[Value.bool n2,b,d] 30).drewN nq).cell? ⟨w.1.size,0,none⟩=some (.bool n1):=by simp
 have q2:(((w.alloc<|Obj.cells #[Value.bool n1,a,c] 30).alloc<|Obj.cells #[Value.bool n2,b,d] 30).drewN nq).cell? ⟨w.1.size,2,none⟩=some c:=by simp
 have r0:(((w.alloc<|Obj.cells #[Value.bool n1,a,c] 30).alloc<|Obj.cells #[Value.bool n2,b,d] 30).drewN nq).cell? ⟨w.1.size+1,0,none⟩=some (.bool n2):=by simp
 have P:(((w.alloc<|Obj.cells #[Value.bool n1,a,c] 30).alloc<|Obj.cells #[Value.bool n2,b,d] 30).drewN nq).cell? ⟨w.1.size+1,2,none⟩=some d:=by simp
 have s2:(((w.alloc<|Obj.cells #[Value.bool n1,a,c] 30).alloc<|Obj.cells #[Value.bool n2,b,d] 30).drewN nq).1.size=w.1.size+2:=by simp
 generalize (((w.alloc<|Obj.cells #[Value.bool n1,a,c] 30).alloc<|Obj.cells #[Value.bool n2,b,d] 30).drewN nq)=l at o q0 q2 r0 P s2 ⊢;clear h2 M N
 go_quiet (first
  | (go_at_call_of 66 c;refine lw<|O _<|ee o _)
  | (go_at_call_of 66 d;refine lw<|kd _<|ee o _))
 clear O kd q2 P;have za:((q.length:Int)==0)=false:=by simp;intro h;apply J;simp[h]
 have zb:((r.length:Int)==0)=false:=by simp;intro h;apply K;simp[h]
 have zc:((yc.length:Int)==0)=true:=by simp[af]
 have zd:((s.length:Int)==0)=false:=by simp;intro h;apply L;simp[h]
 have na:q≠[]:=λe=>J (by rw[e];rfl);have nb:r≠[]:=λe=>K (by rw[e];rfl);have nd:s≠[]:=λe=>L (by rw[e];rfl);have m:Below w.1.size w ((l.drewN nq).alloc<|Obj.cells #[Value.int IntKind.u32 1] 120):=(ee o nq).alloc o.size _;have R:Sl ((l.drewN nq).alloc<|Obj.cells #[Value.int IntKind.u32 1] 120) (Value.slice (some ⟨w.1.size+2,0,none⟩) 1 1) [1]:=by have:=Jf<|l.drewN nq;rw[show (l.drewN nq).1.size=w.1.size+2 from s2] at this;exact this
 have F:=BL (sa.below m) (sd.below m) na nd (by omega);generalize u:(l.drewN nq).alloc (Obj.cells #[Value.int IntKind.u32 1] 120)=am at m F R
 cases E:n1==n2 with
 | false=>subst u;go_wp2_with fail;go_ret;exact⟨by rw[E];rfl,m⟩
 | true=>
  subst u
  go_wp2_with (first
   | (go_at_call_of 68 (Value.slice qa q.length ag);refine F.mono ?_;rintro e w3 ⟨r1,z1,rfl,G,ab,ae,A⟩
      have t:=cV m A
      have ad:=BL (Q.below t) (R.below<|A.mono<|kF _) nb (by simp)<|by simp;omega)
   | (go_at_call_of 68 (Value.slice qb r.length ah);refine ad.mono ?_;rintro e w4 ⟨ap,z2,rfl,H,ac,I,B⟩
      have he:=GC (G.below B) H)
   | (go_at_call 67;refine jR he λw5 aa=>?_))
  go_ret;have Z:=cV t B;refine⟨?_,cV Z aa⟩;have U:z1=z2↔val q*val s=val r*1:=by have v1:val [1]=1:=(by decide);rw[v1] at I;rw[<-ae,<-I];exact⟨λh=>by rw[h],λh=>C1 G.1 H.1 ab ac h⟩
  rw[E];simp[U]
theorem Qc (w:World) (n1 n2:Bool) (a b c d:Value) (f g j k:List Int) (y:Sl w a f) (z:Sl w b g) (C:Sl w c j) (D:Sl w d k) (R:f.length<=68719476736) (S:g.length<=68719476736) (_bc:j.length<=68719476736) (_bd:k.length<=68719476736)
  (K:¬(bE f).length=0) (L:¬(bE g).length=0) (ad:(bE j).length=0) (ae:(bE k).length=0):
  bF w 39 #[.agg #[.bool n1,a,c],.agg #[.bool n2,b,d]] (.bool<|(n1==n2)&&decide (val (bE f)*1=val (bE g)*1)):=by
 obtain⟨ta,sa,M⟩:=oH y;obtain⟨tb,Q,N⟩:=oH z;obtain⟨tc,sc,O⟩:=oH C;obtain⟨td,sd,kd⟩:=oH D;have la:=ed f;have ah:=fp f f.length;have lb:=ed g;have ai:=fp g g.length;have lc:=ed j;have aj:=fp j j.length;have ld:=ed k;have ak:=fp k k.length;have pa:(bE f).length<=68719476736:=by omega
 have pb:(bE g).length<=68719476736:=by omega
 have pc:(bE j).length<=68719476736:=by omega
 have pd:(bE k).length<=68719476736:=by omega
 clear la lb lc ld ah ai aj ak R S _bc _bd y z C D;generalize bE f=q at*;generalize bE g=r at*;generalize bE j=yc at*;generalize bE k=yd at*;have U:=sa;have V:=Q;have W:=sc;have X:=sd;obtain⟨_,_,qa,af,rfl,_⟩:=U;obtain⟨_,_,qb,ag,rfl,_⟩:=V;obtain⟨_,_,qc,am,rfl,_⟩:=W;obtain⟨_,_,qd,an,rfl,_⟩:=X;have h2:=dF w (Obj.cells #[.bool n1,a,c] 30)<|Obj.cells #[.bool n2,b,d] 30;go_enter func39,ntmps39;go_wp2_with fail
 go_quiet (first
  | (go_at_call_of 66 a;refine lw<|M _<|ee h2 _)
  | (go_at_call_of 66 b;refine lw<|N _<|ee h2 _))
 go_wp2_with fail;have m:=ee h2 nq;have q0:(((w.alloc<|Obj.cells #[Value.bool n1,a,c] 30).alloc<|Obj.cells #[Value.bool n2,b,d] 30).drewN nq).cell? ⟨w.1.size,0,none⟩=some (.bool n1):=by simp
 have q2:(((w.alloc<|Obj.cells #[Value.bool n1,a,c] 30).alloc<|Obj.cells #[Value.bool n2,b,d] 30).drewN nq).cell? ⟨w.1.size,2,none⟩=some c:=by simp
 have r0:(((w.alloc<|Obj.cells #[Value.bool n1,a,c] 30).alloc<|Obj.cells #[Value.bool n2,b,d] 30).drewN nq).cell? ⟨w.1.size+1,0,none⟩=some (.bool n2):=by simp
 have P:(((w.alloc<|Obj.cells #[Value.bool n1,a,c] 30).alloc<|Obj.cells #[Value.bool n2,b,d] 30).drewN nq).cell? ⟨w.1.size+1,2,none⟩=some d:=by simp
 have s2:(((w.alloc<|Obj.cells #[Value.bool n1,a,c] 30).alloc<|Obj.cells #[Value.bool n2,b,d] 30).drewN nq).1.size=w.1.size+2:=by simp
 generalize (((w.alloc<|Obj.cells #[Value.bool n1,a,c] 30).alloc<|Obj.cells #[Value.bool n2,b,d] 30).drewN nq)=l at m q0 q2 r0 P s2 ⊢;clear h2 M N
 go_quiet (first
  | (go_at_call_of 66 c;refine lw<|O _<|ee m _)
  | (go_at_call_of 66 d;refine lw<|kd _<|ee m _))
 clear O kd q2 P;have za:((q.length:Int)==0)=false:=by simp;intro h;apply K;simp[h]
 have zb:((r.length:Int)==0)=false:=by simp;intro h;apply L;simp[h]
 have zc:((yc.length:Int)==0)=true:=by simp[ad]
 have zd:((yd.length:Int)==0)=true:=by simp[ae]
 have na:q≠[]:=λe=>K (by rw[e];rfl);have nb:r≠[]:=λe=>L (by rw[e];rfl);have o:Below w.1.size w ((l.drewN nq).alloc<|Obj.cells #[Value.int IntKind.u32 1] 120):=(ee m nq).alloc m.size _;have s:Sl ((l.drewN nq).alloc<|Obj.cells #[Value.int IntKind.u32 1] 120) (Value.slice (some ⟨w.1.size+2,0,none⟩) 1 1) [1]:=by have:=Jf<|l.drewN nq;rw[show (l.drewN nq).1.size=w.1.size+2 from s2] at this;exact this
 have F:=BL (sa.below o) s na (by simp) (by simp;omega);generalize u:(l.drewN nq).alloc (Obj.cells #[Value.int IntKind.u32 1] 120)=al at o F s
 cases E:n1==n2 with
 | false=>subst u;go_wp2_with fail;go_ret;exact⟨by rw[E];rfl,o⟩
 | true=>
  subst u
  go_wp2_with (first
   | (go_at_call_of 68 (Value.slice qa q.length af);refine F.mono ?_;rintro e w3 ⟨r1,z1,rfl,G,aa,I,A⟩
      have t:=cV o A
      have ac:=BL (Q.below t) (s.below<|A.mono<|kF _) nb (by simp)<|by simp;omega)
   | (go_at_call_of 68 (Value.slice qb r.length ag);refine ac.mono ?_;rintro e w4 ⟨ao,z2,rfl,H,ab,J,B⟩
      have he:=GC (G.below B) H)
   | (go_at_call 67;refine jR he λw5 Z=>?_))
  go_ret;have Y:=cV t B;refine⟨?_,cV Y Z⟩;have T:z1=z2↔val q*1=val r*1:=by have v1:val [1]=1:=(by decide);rw[v1] at I J;rw[<-I,<-J];exact⟨λh=>by rw[h],λh=>C1 G.1 H.1 aa ab h⟩
  rw[E];simp[T]
theorem GD (h:cB xs):(bE xs).length=0↔val xs=0:=by rw[<-xj h,rn]
theorem Jg {n1 n2:Bool} {a b c d:Value} {f g k j:List Int} (l:Sl w a f) (m:Sl w b g) (o:Sl w c k) (q:Sl w d j) (u:f.length<=68719476736) (y:g.length<=68719476736) (bc:k.length<=68719476736) (bd:j.length<=68719476736):
  bF w 39 #[.agg #[.bool n1,a,c],.agg #[.bool n2,b,d]] (.bool<|eo n1 f k n2 g j):=by
 have s:=GD l.1;have t:=GD m.1;have D:=GD o.1;have z:=GD q.1;by_cases r:(bE f).length=0\/(bE g).length=0
 .refine(P9 w n1 n2 a b c d f g k j l m o q r).mono λe w' E=>⟨?_,E.2⟩;rw[E.1];congr 2;have C:val f=0\/val g=0:=by rw[<-s,<-t];exact r
  rw[eo,kU C,nX];constructor
  .intro h
   rcases r with h0 | h0
   .exact⟨s.1 h0,t.1<|by omega⟩
   exact⟨s.1<|by omega,t.1 h0⟩
  intro h;rw[s.2 h.1,t.2 h.2]
 have A:¬(bE f).length=0:=λh=>r<|.inl h;have B:¬(bE g).length=0:=λh=>r<|.inr h;have C:¬(val f=0\/val g=0):=by rw[<-s,<-t];exact r
 unfold eo;rw[kZ C];by_cases h1:(bE k).length=0
 .rw[kU<|D.1 h1];by_cases h2:(bE j).length=0
  .rw[kU<|z.1 h2];have:=Qc w n1 n2 a b c d f g k j l m o q u y bc bd A B h1 h2
   rwa [ji,ji] at this
  rw[kZ λh=>h2<|z.2 h];have:=Qb w n1 n2 a b c d f g k j l m o q u y bc bd A B h1 h2
  rwa [ji,ji,ji] at this
 rw[kZ λh=>h1<|D.2 h];by_cases h2:(bE j).length=0
 .rw[kU<|z.1 h2];have:=Qa w n1 n2 a b c d f g k j l m o q u y bc bd A B h1 h2
  rwa [ji,ji,ji] at this
 rw[kZ λh=>h2<|z.2 h];have:=P' w n1 n2 a b c d f g k j l m o q u y bc bd A B h1 h2
 rwa [ji,ji,ji,ji] at this
def bA:List Int->Int
 | []=>0
 | d::r=>d+65536*bA r
def bI (l:List Int):Prop:=∀j:Nat,0<=l.getD j 0/\l.getD j 0<=65535
theorem GE:∀(l:List Int) (j:Nat) (d:Int),j<l.length->bA (l.set j d)=bA l+(d - l.getD j 0)*65536^j
 | [],j,d,h=>by simp at h
 | x::l,0,d,h=>by simp[bA];omega
 | x::l,j+1,d,h=>by have:=GE l j d (by simpa using h);simp only[sr,bA,this,qP];rw[lH];generalize (65536:Int)^j=p;generalize d - l.getD j 0=q;rw[lT,<-kH,<-kH,kI 65536 q,kH q 65536 p,kI 65536 p,<-kH q p];omega
theorem Ff:∀(l:List Int) (k:Nat),k<l.length->bA (l.take<|k+1)=bA (l.take k)+l.getD k 0*65536^k
 | [],k,h=>by simp at h
 | x::l,0,h=>by simp[bA]
 | x::l,k+1,h=>by have:=Ff l k (by simpa using h);simp only[rV,bA,this,qP];rw[lH];generalize (65536:Int)^k=p;generalize l.getD k 0=q;rw[lT,kI 65536<|q*p,kH q p 65536];omega
theorem Fg {l:List Int} (h:bI l) {j:Nat} {d:Int} (a:0<=d/\d<=65535):bI (l.set j d):=by
 intro i;have:=h i;simp only[ll,nC] at this ⊢;split
 .split
  .simpa using a
  simp
 exact this
theorem Fh {a b:Int} (e:0<=a/\a<=65535) (d:0<=b/\b<=65535):0<=a*b/\a*b<=4294836225:=by refine⟨nj e.1 d.1,?_⟩;have h:=sY e.2 d.2 d.1 (by omega);exact sH h<|by decide
structure In16 (x:Int) (ys os0:List Int) (i k n:Nat) (os:List Int) (c:Int):Prop where
 len:os.length=n
 dig:bI os
 c0:0<=c/\c<=65535
 eq:bA os+c*65536^(i+k)=bA os0+x*bA (ys.take k)*65536^i
 rest:∀j,i+k<=j->os.getD j 0=os0.getD j 0
theorem LW {y d:Int} (a:0<=x/\x<=65535) (b:0<=y/\y<=65535) (f:0<=d/\d<=65535) (e:0<=c/\c<=65535):0<=x*y+d+c/\x*y+d+c<=4294967295:=by have:=Fh a b;omega
theorem In16.step {b:List Int} {k:Nat} (h:In16 x ys b i k n os c) (m:0<=x/\x<=65535) (o:bI ys) (g:k<ys.length) (u:i+ys.length<=n):
  In16 x ys b i (k+1) n (os.set (i+k)<|(x*ys.getD k 0+os.getD (i+k) 0+c) % 65536) ((x*ys.getD k 0+os.getD (i+k) 0+c) / 65536):=by
 have a:=LW m (o k) (h.dig<|i+k) h.c0;have hv:=GE os (i+k) ((x*ys.getD k 0+os.getD (i+k) 0+c) % 65536) (by rw[h.len];omega);have ht:=Ff ys k g;refine⟨by simp[h.len],Fg h.dig ?_,?_,?_,λj t=>?_⟩
 .generalize x*ys.getD k 0+os.getD (i+k) 0+c=s at a;omega
 .generalize x*ys.getD k 0+os.getD (i+k) 0+c=s at a;omega
 .have e:=h.eq;rw[hv,ht];have l:(65536:Int)^(i+(k+1))=65536^(i+k)*65536:=by rw[<-pW,lH]
  have hq:(65536:Int)^(i+k)=65536^k*65536^i:=by rw[mw,kI]
  have f:=l9 (x*ys.getD k 0+os.getD (i+k) 0+c) 65536;rw[l];generalize d:x*ys.getD k 0+os.getD (i+k) 0+c=S at f ⊢;generalize r:os.getD (i+k) 0=D at d ⊢;have q:bA os+(S % 65536 - D)*65536^(i+k)+S / 65536*(65536^(i+k)*65536)=bA os+c*65536^(i+k)+x*ys.getD k 0*65536^(i+k):=by have e1:S / 65536*(65536^(i+k)*65536)=(65536*(S / 65536))*65536^(i+k):=(by rw[kI (65536^(i+k)) 65536,<-kH,kI (S / 65536) 65536]);rw[e1,qN,<-kW,qN<|bA os,<-kW];congr 2;omega
  rw[q,e,hq,lT,kW,<-kH,<-kH,qN]
 have:=h.rest j (by omega);rw[<-this];simp only[ll,nC];rw[kZ<|by omega]
structure Out16 (xs ys:List Int) (n i:Nat) (os:List Int):Prop where
 len:os.length=n
 dig:bI os
 eq:bA os=bA (xs.take i)*bA ys
 rest:∀j,i+ys.length<=j->os.getD j 0=0
theorem Out16.start (h:Out16 xs ys n i os):In16 (xs.getD i 0) ys os i 0 n os 0:=
 ⟨h.len,h.dig,by decide,by simp[bA],λ_ _=>rfl⟩
theorem Out16.row {a:List Int} (h0:Out16 xs ys n i a) (hi:i<xs.length) (e:xs.length+ys.length=n) (h:In16 (xs.getD i 0) ys a i ys.length n os c):
  Out16 xs ys n (i+1) (os.set (i+ys.length) c):=by
 have b:os.getD (i+ys.length) 0=0:=by rw[h.rest _<|kF _];exact h0.rest _<|kF _
 have hv:=GE os (i+ys.length) c (by rw[h.len];omega);refine⟨by simp[h.len],Fg h.dig h.c0,?_,λj d=>?_⟩
 .rw[hv,b,sI,h.eq,h0.eq,Ff xs i hi,lQ,kW];rw[kH<|xs.getD i 0,kI<|bA ys,<-kH]
 have:=h.rest j (by omega);have h1:=h0.rest j (by omega);simp only[ll,nC] at this h1 ⊢;rw[kZ<|by omega,this,h1]
theorem Out16.zero (xs ys:List Int) (n:Nat):Out16 xs ys n 0 (List.replicate n 0):=by
 have a:∀j,(List.replicate n (0:Int)).getD j 0=0:=by intro j;simp only[ll,nK];split<;>rfl
 have hv:∀n:Nat,bA (List.replicate n 0)=0:=by
  intro n
  induction n with
  | zero=>rfl
  | succ n b=>simp[nV,bA,b]
 exact⟨by simp,λj=>by rw[a j];decide,by simp[hv,bA],λj _=>a j⟩
theorem BM:∀(a b:List Int),bA (a++b)=bA a+65536^a.length*bA b
 | [],b=>by simp[bA]
 | x::a,b=>by simp only[mZ,bA,BM a b,lF,lH];rw[lT,<-kH,kI 65536<|65536^a.length];omega
theorem LX (xs:List Int):∀n,n<=xs.length->bA (xs.take<|bK xs n)=bA (xs.take n)
 | 0,_=>rfl
 | n+1,h=>by
  unfold bK;split
  .rename_i h0;rw[LX xs n<|by omega,Ff xs n<|by omega,h0];simp
  rfl
theorem o4 (xs:List Int):bA (bE xs)=bA xs:=by unfold bE;rw[LX xs xs.length<|kF _,lQ]
theorem uK (h:bI xs):bI (bE xs):=by
 intro j;have:=h j;simp only[bE,ll,mD] at this ⊢;split
 .exact this
 simp
theorem Fi (h:bI (x::xs)):bI xs:=λj=>by simpa using h (j+1)
theorem gD:∀{xs:List Int},bI xs->0<=bA xs
 | [],_=>Int.le_refl _
 | x::xs,h=>by have h0:=(h 0).1;have:=gD<|Fi h;simp only[nz] at h0;simp only[bA];omega
theorem xl:∀{xs:List Int},bI xs->bD xs->xs≠[]->0<bA xs
 | [],_,_,h=>absurd rfl h
 | [x],hd,hc,_=>by have h1:=hc 0 rfl;have h0:=(hd 0).1;simp at h1 h0;simp[bA];omega
 | x::y::xs,hd,hc,_=>by have:=xl (Fi hd) (Ea hc) (by simp);have h0:=(hd 0).1;simp only[nz] at h0;rw[bA];omega
theorem Jh:∀{xs ys:List Int},bI xs->bI ys->bD xs->bD ys->bA xs=bA ys->xs=ys
 | [],[],_,_,_,_,_=>rfl
 | [],y::ys,_,hd,_,hc,h=>by have:=xl hd hc (by simp);rw[<-h] at this;simp[bA] at this
 | x::xs,[],hd,_,hc,_,h=>by have:=xl hd hc (by simp);rw[h] at this;simp[bA] at this
 | x::xs,y::ys,hx,hy,cx,cy,h=>by
  have h1:=hx 0;have h2:=hy 0;simp only[nz] at h1 h2;simp only[bA] at h;have e1:x=y:=by omega
  have e2:bA xs=bA ys:=by omega
  rw[e1,Jh (Fi hx) (Fi hy) (Ea cx) (Ea cy) e2]
theorem Qd (a:bI xs) (b:bI ys):bE xs=bE ys↔bA xs=bA ys:=by
 constructor
 .intro h;rw[<-o4 xs,<-o4 ys,h]
 intro h;exact Jh (uK a) (uK b) (jH xs) (jH ys)<|by rw[o4,o4,h]
theorem GF (h:bI xs):bE xs=[]↔bA xs=0:=by rw[show ([]:List Int)=bE [] from rfl,Qd h λj=>by simp];simp[bA]
theorem C2 (b o len cap:Nat) (xs:List Int) (w:World) (g:∀i,i<len->w.cell? ⟨b,o+i,none⟩=some (.int .u32<|xs.getD i 0)) (j:len<=cap) (l:len<=1099511627776):
  cN 109 #[.slice (some ⟨b,o,none⟩) len cap] w λe w'=>e=.returned (.slice (some ⟨b,o,none⟩) (bK xs len) cap)/\w'=w:=by
 go_enter func109,ntmps109;go_wp2
 go_loop [3] (λi=>∃k:Nat,k<=len/\i=.int .i64 k/\bK xs k=bK xs len) (λi=>(intOf i).toNat)
 case atStart=>exact⟨len,kF _,rfl,rfl⟩
 case round=>
  obtain⟨k,f,rfl,ht⟩:=hrel;have a:Hid (bK xs k=bK xs len):=ht;clear ht
  match k,f,a with
  | 0,f,a=>go_wp2;go_ret;have h0:bK xs len=0:=a.out.symm;refine⟨?_,rfl⟩;simp[h0]
  | k+1,f,a=>
   have h:w.cell? ⟨b,o+k,none⟩=some (.int .u32<|xs.getD k 0):=g k (by omega);go_wp2
   .go_round
    case rel=>have d:(xs[k]?.getD 0==0)=true:=(by assumption);have h0:xs[k]?.getD 0=0:=(by simpa using d);refine⟨k,by omega,by go_num,?_⟩;rw[<-a.out];simp[bK,h0]
    case measure=>simp[intOf]
   go_ret;have d:(xs[k]?.getD 0==0)=false:=(by assumption);have h0:¬xs[k]?.getD 0=0:=(by simpa using d);refine⟨?_,rfl⟩;rw[<-a.out];simp[bK,h0]
theorem GG (q:Option Addr) (cap:Nat) (w:World):cN 109 #[.slice q 0 cap] w λe w'=>e=.returned (.slice q 0 cap)/\w'=w:=by go_enter func109,ntmps109;go_wp2;refine my ?_;go_wp2;go_ret;exact⟨rfl,rfl⟩
theorem Qe (b o cap q D T n:Nat) (xs ys:List Int) (w:World) (Q:xs.length+ys.length=n) (hn:n<=1099511627776) (ac:bI xs) (J:bI ys)
  (Y:∀i,i<xs.length->w.cell? ⟨b,o+i,none⟩=some (.int .u32<|xs.getD i 0)) (Z:∀i,i<ys.length->w.cell? ⟨q,D+i,none⟩=some (.int .u32<|ys.getD i 0)) (V:b<w.1.size) (W:q<w.1.size) (nx:((xs.length:Int)==0)=false) (ny:((ys.length:Int)==0)=false):
  cN 80 #[.slice (some ⟨b,o,none⟩) xs.length cap,.slice (some ⟨q,D,none⟩) ys.length T] w λe w'=>∃os,Out16 xs ys n xs.length os/\e=.returned (.slice (some ⟨w.1.size,0,none⟩) (bK os n) n)/\Blk w' w.1.size os/\Below w.1.size w w':=by
 obtain⟨i0,hi,L,M,N⟩:=mE (show(prog.info? 120).map (λi=>(i.zero,i.size,i.bytes))=some (some<|.int .u32 0,1,4) by kernel_rfl);go_enter func80,ntmps80;go_wp2_with (at_make;refine nM _ rfl _ _ 78 rfl w.1.size 120 i0 (.int .u32 0) 1 underlying78 hi L M _ _ _ _ n rfl rfl (by omega) (by omega) (by rw[N];omega) (by unfold maxLen;omega) (kF _) ?_);intro O G E;have R:Blk O w.1.size (List.replicate n 0):=zz G;have S:Below w.1.size w O:=(kE _ _).grown E (kF _) (λ_ h=>by cases h);clear G E hi L M N;go_wp2
 go_loopw [28] (λi wr=>∃(k:Nat) (os:List Int),k<=xs.length/\i=.int .i64 k/\Out16 xs ys n k os/\Blk wr w.1.size os/\Below w.1.size w wr) (λi _=>xs.length - (intOf i).toNat)
 case atStart=>exact⟨0,_,kL _,rfl,Out16.zero xs ys n,R,S⟩
 case round=>
  obtain⟨k,os,hk,rfl,r,y,z⟩:=hrel;have U:k<xs.length->wr.cell? ⟨b,o+k,none⟩=some (.int .u32<|xs.getD k 0):=λh=>fg z V<|Y k h;have H:=C2 w.1.size 0 n n os wr (λi hi=>by simpa using y.cell (by rw[r.len];exact hi)) (kF _) hn;go_wp2_with (go_at_call 109;refine H.mono ?_;rintro e w9 ⟨rfl,rfl⟩)
  .have hlt:k<xs.length:=(by assumption);clear H U;have B:xs.getD k 0=xs[k]:=(by simp[hlt]);have l:=ac k;rw[B] at l;have A:=r.start;rw[B] at A;have t:=λa cc=>Out16.row (os:=a) (c:=cc) r hlt Q;rw[B] at t;generalize xs[k]=x at l A t ⊢;have I:decide (k<xs.length)=true:=(by simp[hlt]);rw[I];clear I
   go_loopw [35,8] (λi c P=>∃(m:Nat) (a:List Int) (cc:Int),m<=ys.length/\i=.int .i64 m/\c=.int .u64 cc/\In16 x ys os k m n a cc/\Blk P w.1.size a/\Below w.1.size w P) (λi _ _=>ys.length - (intOf i).toNat)
   case atStart=>exact⟨0,os,0,kL _,rfl,rfl,A,y,z⟩
   case round=>
    obtain⟨m,a,cc,hm,rfl,rfl,g,f,u⟩:=hrel;have fX:m<ys.length->wr.cell? ⟨q,D+m,none⟩=some (.int .u32<|ys.getD m 0):=λh=>fg u W<|Z m h;have fY:m<ys.length->wr.cell? ⟨w.1.size,k+m,none⟩=some (.int .u32<|a.getD (k+m) 0):=λh=>f.cell (by rw[g.len];omega);have ai:=f.frozen<|k+m;have fL:wr.cell? ⟨w.1.size,k+ys.length,none⟩=some (.int .u32<|a.getD (k+ys.length) 0):=f.cell (by rw[g.len];omega);have ic:=f.frozen<|k+ys.length;have C:=J m;have K:=g.dig<|k+m;have X:=g.c0;go_wp2
    .have s:m<ys.length:=(by assumption);go_roundw
     case rel=>have ag:ys.getD m 0=ys[m]:=(by simp[s]);have F:=g.step l J s (by omega);rw[ag] at F C;have hp:=Fh l C;have j:=LW l C K X;have ae:a[k+m]?.getD 0=a.getD (k+m) 0:=(by simp);rw[ae];have gk:IntKind.u64.wrap (IntKind.u64.wrap (IntKind.u64.wrap (a.getD (k+m) 0)+IntKind.u64.wrap (x*IntKind.u64.wrap ys[m]))+cc)=x*ys[m]+a.getD (k+m) 0+cc:=(by have af:IntKind.u64.wrap ys[m]=ys[m]:=(by rw[nL];omega);rw[af];generalize x*ys[m]=p at hp j ⊢;generalize a.getD (k+m) 0=d at K j ⊢;simp only[nL];omega);rw[gk];have aa:IntKind.u64.wrap ((x*ys[m]+a.getD (k+m) 0+cc).tdiv 65536)=(x*ys[m]+a.getD (k+m) 0+cc) / 65536:=(by rw[nk j.1,nL];generalize x*ys[m]+a.getD (k+m) 0+cc=p at j ⊢;omega);have ab:(x*ys[m]+a.getD (k+m) 0+cc).tmod 65536 % 4294967296=(x*ys[m]+a.getD (k+m) 0+cc) % 65536:=(by rw[nR j.1];generalize x*ys[m]+a.getD (k+m) 0+cc=p at j ⊢;omega);rw[aa,ab];exact⟨m+1,_,_,by omega,by go_num,rfl,F,f.set _ _,u.setCell (p:=⟨w.1.size,k+m,none⟩) (kF _) _⟩
     case measure=>simp[intOf];omega
    have s:m=ys.length:=(by omega);subst s;go_round
    case rel=>exact⟨k+1,_,by omega,by go_num,t _ _ g,f.set _ _,u.setCell (p:=⟨w.1.size,k+ys.length,none⟩) (kF _) _⟩
    case measure=>simp[intOf];omega
  go_ret;have ad:k=xs.length:=(by omega);subst ad;exact⟨os,r,rfl,y,z⟩
theorem Qf (b o cap d g y:Nat) (xs ys:List Int) (w:World) (s:xs.length=ys.length) (J:xs.length<=1099511627776)
  (B:∀i,i<xs.length->w.cell? ⟨b,o+i,none⟩=some (.int .u32<|xs.getD i 0)) (C:∀i,i<ys.length->w.cell? ⟨d,g+i,none⟩=some (.int .u32<|ys.getD i 0)) (z:b<w.1.size) (A:d<w.1.size):
  cN 79 #[.slice (some ⟨b,o,none⟩) xs.length cap,.slice (some ⟨d,g,none⟩) xs.length y] w λe w'=>∃c:Int,e=.returned (.int .i64 c)/\(c=0↔xs=ys)/\Below w.1.size w w':=by
 go_enter func79,ntmps79;go_wp2
 go_loopw [5] (λi wr=>∃k:Nat,k<=xs.length/\i=.int .i64 ((k:Int) - 1)/\(∀j,k<=j->j<xs.length->xs.getD j 0=ys.getD j 0)/\Below w.1.size w wr) (λi _=>(intOf i+1).toNat)
 case atStart=>exact⟨xs.length,kF _,by simp[s],λj h1 h2=>by omega,kE _ _⟩
 case round=>
  obtain⟨k,m,rfl,r,f⟩:=hrel;have a:=bC r;clear r
  match k,m,a with
  | 0,m,a=>go_wp2;go_ret;have e:=Fe s λj D=>a.out j (kL _) D;exact⟨0,rfl,by simp[e],f⟩
  | k+1,m,a=>
   have e1:((k+1:Nat):Int) - 1=(k:Int):=(by omega);rw[e1];have c1:wr.cell? ⟨b,o+k,none⟩=some (.int .u32<|xs.getD k 0):=fg f z (B k<|by omega);have c2:wr.cell? ⟨d,g+k,none⟩=some (.int .u32<|ys.getD k 0):=fg f A (C k<|by omega);generalize G:xs.getD k 0=X at c1;generalize H:ys.getD k 0=Y at c2;have I:(k:Int)<(xs.length:Int):=(by omega);go_wp2
   go_quiet (fail)
   have l:Below w.1.size w (wr.drewN nq):=ee f _;have t:(wr.drewN nq).cell? ⟨b,o+k,none⟩=some (.int .u32 X):=c1;have u:(wr.drewN nq).cell? ⟨d,g+k,none⟩=some (.int .u32 Y):=c2;generalize wr.drewN nq=F at l t u ⊢;clear c1 c2;go_wp2
   .go_ret;have E:X<Y:=(by assumption);have e:=Ae (xs:=xs) (ys:=ys) (j:=k) (by omega);exact⟨-1,rfl,by simp[e],l⟩
   go_quiet (fail)
   have q:Below w.1.size w (F.drewN nq):=ee l _;go_wp2
   .go_ret;have E:X > Y:=(by assumption);have e:=Ae (xs:=xs) (ys:=ys) (j:=k) (by omega);exact⟨1,rfl,by simp[e],q⟩
   go_roundw
   case rel=>
    refine⟨k,by omega,by go_num,λj h1 h2=>?_,q⟩
    rcases kS k j with h | h
    .exact a.out j h h2
    have:j=k:=(by omega);subst this;omega
   case measure=>simp[intOf]
theorem Qg (q q':Option Addr) (m n cap cap':Nat) (w:World) (_hm:m<=1099511627776) (_hn:n<=1099511627776) (h:¬m=n):cN 79 #[.slice q m cap,.slice q' n cap'] w λe w'=>(∃c:Int,e=.returned (.int .i64 c)/\¬c=0)/\w'=w:=by
 have a:¬(m:Int)=(n:Int):=by omega
 go_enter func79,ntmps79;go_wp2
 .go_ret;exact⟨⟨-1,rfl,by decide⟩,rfl⟩
 go_ret;exact⟨⟨1,rfl,by decide⟩,rfl⟩
theorem LY (q q':Option Addr) (cap cap':Nat) (w:World):cN 79 #[.slice q 0 cap,.slice q' 0 cap'] w λe w'=>e=.returned (.int .i64 0)/\w'=w:=by go_enter func79,ntmps79;go_wp2;refine my ?_;go_wp2;go_ret;exact⟨rfl,rfl⟩
def bH:List Int->List Int
 | []=>[]
 | x::xs=>x % 65536::x / 65536::bH xs
theorem LZ:∀(a b:List Int),bH (a++b)=bH a++bH b
 | [],_=>rfl
 | x::xs,b=>by simp[bH,LZ xs b]
theorem Fj:∀(a:List Int),(bH a).length=2*a.length
 | []=>rfl
 | x::xs=>by have:=Fj xs;simp[bH,this];omega
theorem Qh (xs:List Int) (k:Nat) (h:k<xs.length):bH (xs.take<|k+1)=bH (xs.take k)++[xs.getD k 0 % 65536,xs.getD k 0 / 65536]:=by rw[List.take_add_one,LZ];simp[bH,h]
theorem xm:∀(xs:List Int),bA (bH xs)=val xs
 | []=>rfl
 | x::xs=>by have:=xm xs;simp only[bH,bA,val,this];generalize val xs=v;omega
theorem Ag:∀{xs:List Int},cB xs->bI (bH xs)
 | [],_=>λj=>by simp[bH]
 | x::xs,h=>λj=>by
  have h0:=h 0;simp at h0
  match j with
  | 0=>simp[bH];omega
  | 1=>simp[bH];omega
  | j+2=>simpa [bH] using Ag (D9 h) j
def Sl16 (w:World) (v:Value) (xs:List Int):Prop:=
 bI xs/\xs.length<=549755813888/\∃q cap,v=.slice q xs.length cap/\xs.length<=cap/\(xs=[]\/∃b o,q=some ⟨b,o,none⟩/\b<w.1.size/\∀i,i<xs.length->w.cell? ⟨b,o+i,none⟩=some (.int .u32<|xs.getD i 0))
theorem Sl16.below {w':World} (h:Sl16 w v xs) (a:Below w.1.size w w'):Sl16 w' v xs:=by obtain⟨h1,h2,q,cap,h3,h4,h5⟩:=h;refine⟨h1,h2,q,cap,h3,h4,h5.imp id ?_⟩;rintro⟨b,o,e,d,f⟩;exact⟨b,o,e,kw d a.size,λi hi=>fg a d<|f i hi⟩
theorem Qi (w:World) (x y:Value) (t:TypeId):∀j u,[x,y][j]?=some u->(w.alloc<|.cells #[x,y] t).cell? ((⟨w.1.size,0,none⟩:Addr).add j)=some u:=by
 intro j u a
 match j,a with
 | 0,a=>simp at a;subst a;simp[Addr.add]
 | 1,a=>simp at a;subst a;simp[Addr.add]
theorem Qj (b o cap:Nat) (xs:List Int) (w:World) (l:cB xs) (Q:xs.length<=274877906944)
  (D:∀i,i<xs.length->w.cell? ⟨b,o+i,none⟩=some (.int .u32<|xs.getD i 0)) (C:b<w.1.size) (R:0<xs.length):
  cN 77 #[.slice (some ⟨b,o,none⟩) xs.length cap] w λe w'=>∃r,e=.returned r/\Sl16 w' r (bE<|bH xs)/\Below w.1.size w w':=by
 obtain⟨L,hi,I,J,K⟩:=mE (show(prog.info? 120).map (λi=>(i.zero,i.size,i.bytes))=some (some<|.int .u32 0,1,4) by kernel_rfl);go_enter func77,ntmps77;go_wp2
 go_loopw [3,8] (λv i wr=>∃k:Nat,k<=xs.length/\i=.int .i64 k/\wr.ownsRow w.1.size 120 1 v (2*k) ((bH<|xs.take k).map<|Value.int .u32)/\Below w.1.size w wr) (λ_ i _=>xs.length - (intOf i).toNat)
 case atStart=>exact⟨0,kL _,rfl,mH _ _ _ _,kE _ _⟩
 case round=>
  obtain⟨k,P,rfl,a,d⟩:=hrel;by_cases q:k<xs.length
  .have c1:wr.cell? ⟨b,o+k,none⟩=some (.int .u32<|xs.getD k 0):=fg d C<|D k q;have N:(k:Int)<(xs.length:Int):=(by omega);have E:=l k;have s:=Qh xs k q;generalize xs.getD k 0=X at c1 E s;have H:=d.size;go_wp2_with (at_builtin;refine lm _ rfl _ _ 78 rfl w.1.size 120 L (.int .u32 0) 1 4 underlying78 hi I J K rfl (by decide) _ _ _ rfl (a.alloc _) ⟨wr.1.size,0,none⟩ 2 2 [.int .u32<|X % 65536,.int .u32<|X / 65536] rfl rfl (Qi _ _ _ _) (mG .u32 [X % 65536,X / 65536]) (by unfold maxLen;omega) (by omega) (by simp;omega) ?_;intro T U z u S);go_roundw
   case rel=>
    refine⟨k+1,by omega,by go_num,?_,?_⟩
    .rw[s,lN];exact z
    exact(d.alloc H _).grown u (by simp;omega) (λg m=>(a.lt g m).1)
   case measure=>simp[intOf];omega
  have G:k=xs.length:=(by omega);subst G;have t:=Fj xs;rw[lQ] at a;have B:=a
  obtain⟨_,⟨_,h0⟩ | ⟨g,j,O,rfl,m,A,h4,h5,h6,h7⟩⟩:=a
  .omega
  have f:∀i,i<2*xs.length->wr.cell? ⟨g,0+i,none⟩=some (.int .u32<|(bH xs).getD i 0):=by
   intro i hi;have F:i<(bH xs).length:=(by omega);have h:=B.cells (g:=g) rfl i (.int .u32<|(bH xs).getD i 0) (by simp[F]);by_cases h0:i=0
   .subst h0;simpa [Addr.add] using h
   simpa [Addr.add,h0] using h
  have y:=C2 g 0 (2*xs.length) j (bH xs) wr f h4 (by omega);go_wp2_with (go_at_call 109;refine y.mono ?_;rintro e M ⟨rfl,rfl⟩);go_ret;refine⟨_,rfl,⟨uK<|Ag l,by rw[ed];have:=fp (bH xs) (bH xs).length;omega,some ⟨g,0,none⟩,j,by rw[ed,t];rfl,by rw[ed];have:=fp (bH xs) (bH xs).length;omega,.inr ⟨g,0,rfl,?_,λi hi=>?_⟩⟩,d⟩
  .rcases kS g M.1.size with hh | hh
   .exact hh
   simp[pE hh] at A
  rw[zD _ i hi];exact f i<|by rw[ed] at hi;have:=fp (bH xs) (bH xs).length;omega
theorem L0 (q:Option Addr) (cap:Nat) (w:World):cN 77 #[.slice q 0 cap] w λe w'=>e=.returned (.slice none 0 0)/\w'=w:=by have ht:=GG none 0 w;go_enter func77,ntmps77;go_wp2;refine my ?_;go_wp2_with (go_at_call 109;refine ht.mono ?_;rintro e a ⟨rfl,rfl⟩);go_ret;exact⟨rfl,rfl⟩
theorem Ah (h:Sl w v xs) (g:xs.length<=274877906944):cN 77 #[v] w λe w'=>∃r,e=.returned r/\Sl16 w' r (bE<|bH xs)/\Below w.1.size w w':=by
 obtain⟨h1,h2,q,cap,rfl,h4,h5⟩:=h
 rcases h5 with rfl | ⟨b,o,rfl,f,d⟩
 .refine(L0 q cap w).mono ?_;rintro e w' ⟨rfl,rfl⟩;exact⟨_,rfl,⟨λj=>by simp[bH,bE,bK],by simp[bH,bE],none,0,by simp[bH,bE],by simp[bH,bE],.inl<|by simp[bH,bE]⟩,kE _ _⟩
 by_cases a:xs=[]
 .subst a;refine(L0 _ cap w).mono ?_;rintro e w' ⟨rfl,rfl⟩;exact⟨_,rfl,⟨λj=>by simp[bH,bE,bK],by simp[bH,bE],none,0,by simp[bH,bE],by simp[bH,bE],.inl<|by simp[bH,bE]⟩,kE _ _⟩
 exact Qj b o cap xs w h1 g d f<|lG.2 a
theorem xn {base:Nat} (h:w.ownsRow base 120 1 v n (xs.map<|Value.int .u32)) (b:bI xs) (d:xs.length<=549755813888):Sl16 w v xs:=by
 have k:=h
 obtain⟨e,⟨rfl,h0⟩ | ⟨g,j,l,rfl,m,f,h4,h5,h6,h7⟩⟩:=h
 .have a:xs=[]:=kM (by simpa [h0] using e);subst a;exact⟨b,d,none,0,rfl,kF _,.inl rfl⟩
 have a:n=xs.length:=by simpa using e.symm
 subst a;refine⟨b,d,some ⟨g,0,none⟩,j,rfl,h4,.inr ⟨g,0,rfl,?_,λi hi=>?_⟩⟩
 .rcases kS g w.1.size with hh | hh
  .exact hh
  simp[pE hh] at f
 have h:=k.cells (g:=g) rfl i (.int .u32<|xs.getD i 0) (by simp[hi]);by_cases h0:i=0
 .subst h0;simpa [Addr.add] using h
 simpa [Addr.add,h0] using h
theorem Qk:bI [1]:=λj=>by
 match j with
 | 0=>simp
 | j+1=>simp
theorem L3 (w:World):cN 60 #[.int .u64 1] w λe w'=>∃r,e=.returned r/\Sl16 w' r [1]/\Below w.1.size w w':=by
 obtain⟨k,hi,f,h,j⟩:=mE (show(prog.info? 120).map (λi=>(i.zero,i.size,i.bytes))=some (some<|.int .u32 0,1,4) by kernel_rfl);go_enter func60,ntmps60;go_wp2
 go_loopw [0,3] (λi v wr=>(i=.int .u64 1/\v=.slice none 0 0/\wr=w)\/(i=.int .u64 0/\wr.ownsRow w.1.size 120 1 v 1 [.int .u32 1]/\Below w.1.size w wr)) (λi _ _=>(intOf i).toNat)
 case atStart=>exact .inl ⟨rfl,rfl,rfl⟩
 case round=>
  rcases hrel with⟨rfl,rfl,rfl⟩ | ⟨rfl,ah,hbw⟩
  .go_wp2_with (at_builtin;refine lm _ rfl _ _ 78 rfl wr.1.size 120 k (.int .u32 0) 1 4 underlying78 hi f h j rfl (by decide) _ _ _ rfl (mH _ _ _ _) ⟨wr.1.size,0,none⟩ 1 1 [.int .u32 1] rfl rfl (cell_one_new _ _ _) (mG .u32 [1]) (by unfold maxLen;omega) (by omega) (by simp) ?_;intro m o b a l);go_roundw
   case rel=>exact .inr ⟨rfl,b,((kE _ _).alloc (kF _) _).grown a (by simp) λg d=>by cases d⟩
   case measure=>simp[intOf]
  go_wp2;go_ret;exact⟨_,rfl,xn (xs:=[1]) ah Qk<|by simp,hbw⟩
def cR (xs:List Int):List Int:=if xs=[] then [1] else xs
theorem xo (h:Sl16 w v xs):cN 78 #[.agg #[.bool false,.slice none 0 0,v]] w λe w'=>∃r,e=.returned r/\Sl16 w' r (cR xs)/\Below w.1.size w w':=by
 have b:=L3<|w.alloc<|Obj.cells #[.bool false,.slice none 0 0,v] 80;have j:=h;obtain⟨h1,h2,q,cap,rfl,h4,h5⟩:=h;by_cases a:xs=[]
 .subst a;go_enter func78,ntmps78;go_wp2_with (go_at_call 60;refine b.mono ?_;rintro e l ⟨r,rfl,g,d⟩);go_ret;exact⟨_,rfl,g,((kE _ _).alloc (kF _) _).trans<|d.mono<|by simp⟩
 have k:¬(xs.length:Int)=0:=by have:=lG.2 a;omega
 go_enter func78,ntmps78;go_wp2;go_ret;have f:cR xs=xs:=by simp[cR,a]
 exact⟨_,rfl,by rw[f];exact j.below<|(kE _ _).alloc (kF _) _,(kE _ _).alloc (kF _) _⟩
theorem Ji {u:Value} (t:Sl16 w v xs) (y:Sl16 w u ys) (nx:xs≠[]) (f:ys≠[]) (G:xs.length+ys.length<=549755813888):
  cN 80 #[v,u] w λe w'=>∃r zs,e=.returned r/\Sl16 w' r zs/\bD zs/\bA zs=bA xs*bA ys/\Below w.1.size w w':=by
 obtain⟨z,H,q,cap,rfl,I,A⟩:=t;obtain⟨B,J,q',cap',rfl,K,C⟩:=y
 rcases A with e | ⟨b,o,rfl,m,k⟩
 .exact absurd e nx
 rcases C with e | ⟨h,o',rfl,g,l⟩
 .exact absurd e f
 have D:((xs.length:Int)==0)=false:=by simp[nx]
 have E:((ys.length:Int)==0)=false:=by simp[f]
 refine(Qe b o cap h o' cap' (xs.length+ys.length) xs ys w rfl (by omega) z B k l m g D E).mono ?_;rintro e w' ⟨os,d,rfl,a,j⟩;have s:=d.len;have F:=fp os os.length;refine⟨_,bE os,rfl,⟨uK d.dig,by rw[ed];omega,_,_,by rw[ed,s],by rw[ed];omega,.inr ⟨w.1.size,0,rfl,?_,λi hi=>?_⟩⟩,jH os,by rw[o4,d.eq,lQ],j⟩
 .rcases kS w.1.size w'.1.size with hh | hh
  .exact hh
  unfold Blk at a;simp[pE hh] at a
 rw[zD os i hi,mF];exact a.cell<|by rw[ed] at hi;omega
theorem Ql {u:Value} (m:Sl16 w v xs) (r:Sl16 w u ys):
  cN 79 #[v,u] w λe w'=>∃c:Int,e=.returned (.int .i64 c)/\(c=0↔xs=ys)/\Below w.1.size w w':=by
 obtain⟨y,z,q,cap,rfl,A,s⟩:=m;obtain⟨B,C,q',cap',rfl,D,t⟩:=r;by_cases a:xs.length=ys.length
 .by_cases hx0:xs=[]
  .subst hx0;have d:ys=[]:=kM a.symm;subst d;refine(LY q q' cap cap' w).mono ?_;rintro e w' ⟨rfl,rfl⟩;exact⟨0,rfl,by simp,kE _ _⟩
  have d:ys≠[]:=λh=>hx0<|kM<|by rw[a,h];rfl
  rcases s with h | ⟨b,o,rfl,l,j⟩
  .exact absurd h hx0
  rcases t with h | ⟨g,o',rfl,f,k⟩
  .exact absurd h d
  rw[<-a];exact Qf b o cap g o' cap' xs ys w a (by omega) j k l f
 refine(Qg q q' xs.length ys.length cap cap' w (by omega) (by omega) a).mono ?_;rintro e w' ⟨⟨c,rfl,h0⟩,rfl⟩;exact⟨c,rfl,⟨λh=>absurd h h0,λh=>absurd (by rw[h]) a⟩,kE _ _⟩
