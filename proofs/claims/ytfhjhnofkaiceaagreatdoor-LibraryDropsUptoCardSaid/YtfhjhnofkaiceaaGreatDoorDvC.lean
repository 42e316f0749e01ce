import Derived.Test.YtfhjhnofkaiceaaGreatDoorDvB
import Derived.Deep.RegionHeld3
namespace Go.Proofs.YtfhjhnofkaiceaaGreatDoor
open Go Go.RowKit
end Go.Proofs.YtfhjhnofkaiceaaGreatDoor
namespace Go.Proofs.YtfhjhnofkaiceaaGreatDoor
open Go Go.RowKit
structure Nd where
 k:Int
 f:Int
 neg:Bool
 aq:Option Addr
 an:Nat
 ac:Nat
 cq:Option Addr
 cn:Nat
 cc:Nat
 m:ByteArray
 sq:Option Addr
 sn:Nat
 sc:Nat
def Nd.val (d:Nd):Value:=.agg #[.int .i64 d.k,.int .i64 d.f,.bool d.neg,.slice d.aq d.an d.ac,.slice d.cq d.cn d.cc,.string d.m,.slice d.sq d.sn d.sc]
structure NdAt (w:World) (b o:Nat) (d:Nd):Prop where
 h0:w.cell? ⟨b,o,none⟩=some (.int .i64 d.k)
 h1:w.cell? ⟨b,o+1,none⟩=some (.int .i64 d.f)
 h2:w.cell? ⟨b,o+2,none⟩=some (.bool d.neg)
 h3:w.cell? ⟨b,o+3,none⟩=some (.slice d.aq d.an d.ac)
 h4:w.cell? ⟨b,o+4,none⟩=some (.slice d.cq d.cn d.cc)
 h5:w.cell? ⟨b,o+5,none⟩=some (.string d.m)
 h6:w.cell? ⟨b,o+6,none⟩=some (.slice d.sq d.sn d.sc)
theorem NdAt.below {w w':World} {B b o:Nat} {d:Nd} (h:NdAt w b o d) (hb:Below B w w') (hB:b<B):NdAt w' b o d:=
 ⟨(hb.cell (by exact hB)).trans h.h0,(hb.cell (by exact hB)).trans h.h1,(hb.cell (by exact hB)).trans h.h2,(hb.cell (by exact hB)).trans h.h3,(hb.cell (by exact hB)).trans h.h4,(hb.cell (by exact hB)).trans h.h5,(hb.cell (by exact hB)).trans h.h6⟩
end Go.Proofs.YtfhjhnofkaiceaaGreatDoor
namespace Go.Proofs.YtfhjhnofkaiceaaGreatDoor
open Go Go.RowKit
set_option maxRecDepth 100000 in
theorem eqExpr_len (q q':Option Addr) (m n cap cap':Nat) (fv:Value) (w:World) (_hm:m<=1099511627776) (_hn:n<=1099511627776) (h:¬m=n):Calls Tryz.prog 481 #[.slice q m cap,.slice q' n cap',fv] w fun e w'=>e=.returned (.bool false)/\w'=w:=by
 have h':¬(m:Int)=(n:Int):=by omega
 go_enter Tryz.func481,Tryz.ntmps481
 go_wp2
 go_ret
 exact⟨rfl,rfl⟩
inductive Ex where
 | non
 | mk (k f:Int) (ng:Bool) (nu de:List Int) (m:ByteArray) (n:Nat) (ar:Nat->Ex)
def Ex.eq:Ex->Ex->Bool
 | .mk k f ng nu de m n ar,.mk k' f' ng' nu' de' m' n' ar'=>
  decide (k=k')&&decide (f=f')&&decide (m.toList=m'.toList)&&ratEq ng nu de ng' nu' de'&&(decide (n=n')&&(List.range n).all fun i=>(ar i).eq (ar' i))
 | .non,.non=>true
 | _,_=>false
def ExOk (w:World):Ex->Nd->Prop
 | .non,_=>False
 | .mk k f ng nu de m n ar,d=>(d.k=k/\d.f=f/\d.neg=ng/\d.m=m/\d.sn=n)/\Sl w (.slice d.aq d.an d.ac) nu/\Sl w (.slice d.cq d.cn d.cc) de/\nu.length<=1048576/\de.length<=1048576/\n<=1099511627776/\
  (n=0\/∃b o,d.sq=some ⟨b,o,none⟩/\b<w.heap.size/\∃ds:Nat->Nd,∀i,i<n->NdAt w b (o+i*7) (ds i)/\ExOk w (ar i) (ds i))
theorem ExOk.below {w w':World} (hb:Below w.heap.size w w'):∀{x:Ex} {d:Nd},ExOk w x d->ExOk w' x d:=by
 intro x
 induction x with
 | non=>exact fun h=>h.elim
 | mk k f ng nu de m n ar ih=>
  intro d h
  unfold ExOk at h ⊢
  obtain⟨h1,h2,h3,h4,h5,h6,h7⟩:=h
  refine⟨h1,h2.below hb,h3.below hb,h4,h5,h6,h7.imp id ?_⟩
  rintro⟨b,o,e,hlt,ds,hds⟩
  exact⟨b,o,e,Nat.lt_of_lt_of_le hlt hb.size,ds,fun i hi=>⟨(hds i hi).1.below hb hlt,ih i (hds i hi).2⟩⟩
end Go.Proofs.YtfhjhnofkaiceaaGreatDoor
namespace Go.Proofs.YtfhjhnofkaiceaaGreatDoor
open Go Go.RowKit
set_option maxRecDepth 100000 in
theorem alike_walk (k1 f1 k2 f2:Int) (g1 g2:Bool) (aq1 cq1 aq2 cq2:Option Addr) (an1 ac1 cn1 cc1 an2 ac2 cn2 cc2:Nat) (m1 m2:ByteArray) (n p1 p2 b o b2 o2:Nat) (ds es:Nat->Nd) (P:Nat->Bool) (w:World) (hn:n<=1099511627776)
  (hcx:∀i,i<n->NdAt w b (o+i*7) (ds i)) (hcy:∀i,i<n->NdAt w b2 (o2+i*7) (es i)) (hb1:b<w.heap.size) (hb2:b2<w.heap.size)
  (hR:∀w1,Below w.heap.size w w1->Calls Tryz.prog 78 #[.agg #[.bool g1,.slice aq1 an1 ac1,.slice cq1 cn1 cc1],.agg #[.bool g2,.slice aq2 an2 ac2,.slice cq2 cn2 cc2]] w1 fun e w'=>e=.returned (.bool true)/\Below w1.heap.size w1 w')
  (hP:∀i,i<n->∀w1,Below w.heap.size w w1->Calls Tryz.prog 76 #[(ds i).val,(es i).val] w1 fun e w'=>e=.returned (.bool (P i))/\Below w1.heap.size w1 w')
  (hk:k1=k2) (hf:f1=f2) (hm:m1.toList=m2.toList):
  Calls Tryz.prog 76 #[.agg #[.int .i64 k1,.int .i64 f1,.bool g1,.slice aq1 an1 ac1,.slice cq1 cn1 cc1,.string m1,.slice (some ⟨b,o,none⟩) n p1],.agg #[.int .i64 k2,.int .i64 f2,.bool g2,.slice aq2 an2 ac2,.slice cq2 cn2 cc2,.string m2,.slice (some ⟨b2,o2,none⟩) n p2]] w
   fun e w'=>e=.returned (.bool ((List.range n).all P))/\Below w.heap.size w w':=by
 subst hk hf
 have h2:∀o o2,Below w.heap.size w ((w.alloc o).alloc o2):=fun o o2=>below_two w o o2
 go_enter Tryz.func76,Tryz.ntmps76
 go_wp2_with (go_at_call 78;refine(hR _ ?_).mono ?_;exact h2 _ _;rintro e w1 ⟨rfl,hb1'⟩
              have q6:w1.cell? ⟨w.heap.size,6,none⟩=some (.slice (some ⟨b,o,none⟩) n p1):=(hb1'.cell (by show w.heap.size<_;simp;omega)).trans (by simp)
              have r6:w1.cell? ⟨w.heap.size+1,6,none⟩=some (.slice (some ⟨b2,o2,none⟩) n p2):=(hb1'.cell (by show w.heap.size+1<_;simp)).trans (by simp)
              have hs1:w.heap.size+2<=w1.heap.size:=by have:=hb1'.size;simpa using this
              have hW1:=(h2 _ _).trans (hb1'.mono (h2 _ _).size))
 go_loopw [45] (fun i wr=>∃k:Nat,k<=n/\i=.int .i64 k/\(∀j,j<k->P j=true)/\Below w1.heap.size w1 wr) (fun i _=>n - (intOf i).toNat)
 case atStart=>exact⟨0,Nat.zero_le _,rfl,fun j hj=>by omega,Below.refl _ _⟩
 case round=>
  obtain⟨k,hk,rfl,hag,hbw⟩:=hrel
  have hHid:Hid (∀j,j<k->P j=true):=hag
  clear hag
  have hW:Below w.heap.size w wr:=hW1.trans (hbw.mono hW1.size)
  by_cases hlt:k<n
  ·have hlt':(k:Int)<(n:Int):=by omega
   obtain⟨x0,x1,x2,x3,x4,x5,x6⟩:=(hcx k hlt).below hW hb1
   obtain⟨y0,y1,y2,y3,y4,y5,y6⟩:=(hcy k hlt).below hW hb2
   have q6r:=(hbw.cell (p:=⟨w.heap.size,6,none⟩) (by show w.heap.size<_;omega)).trans q6
   have r6r:=(hbw.cell (p:=⟨w.heap.size+1,6,none⟩) (by show w.heap.size+1<_;omega)).trans r6
   have hPk:=hP k hlt
   simp only[Nd.val] at hPk
   have hws:=hbw.size
   clear q6 r6 hR
   go_wp2_with fail
   go_region_held3 (fun z=>z.cell? ⟨w.heap.size,6,none⟩=some (.slice (some ⟨b,o,none⟩) n p1)/\z.cell? ⟨w.heap.size+1,6,none⟩=some (.slice (some ⟨b2,o2,none⟩) n p2)/\z.cell? ⟨b,o+k*7,none⟩=some (.int .i64 (ds k).k)/\z.cell? ⟨b,o+k*7+1,none⟩=some (.int .i64 (ds k).f)/\z.cell? ⟨b,o+k*7+2,none⟩=some (.bool (ds k).neg)/\z.cell? ⟨b,o+k*7+3,none⟩=some (.slice (ds k).aq (ds k).an (ds k).ac)/\z.cell? ⟨b,o+k*7+4,none⟩=some (.slice (ds k).cq (ds k).cn (ds k).cc)/\z.cell? ⟨b,o+k*7+5,none⟩=some (.string (ds k).m)/\z.cell? ⟨b,o+k*7+6,none⟩=some (.slice (ds k).sq (ds k).sn (ds k).sc)/\z.cell? ⟨b2,o2+k*7,none⟩=some (.int .i64 (es k).k)/\z.cell? ⟨b2,o2+k*7+1,none⟩=some (.int .i64 (es k).f)/\z.cell? ⟨b2,o2+k*7+2,none⟩=some (.bool (es k).neg)/\z.cell? ⟨b2,o2+k*7+3,none⟩=some (.slice (es k).aq (es k).an (es k).ac)/\z.cell? ⟨b2,o2+k*7+4,none⟩=some (.slice (es k).cq (es k).cn (es k).cc)/\z.cell? ⟨b2,o2+k*7+5,none⟩=some (.string (es k).m)/\z.cell? ⟨b2,o2+k*7+6,none⟩=some (.slice (es k).sq (es k).sn (es k).sc)) (first | exact⟨q6r,r6r,x0,x1,x2,x3,x4,x5,x6,y0,y1,y2,y3,y4,y5,y6⟩ | exact hS5)
    (first
      | (go_at_call 76;refine(hPk _ ?_).mono ?_;exact hW.drew;rintro e w5 ⟨rfl,hb5⟩
         have hs5:wr.heap.size<=wr.drew.heap.size:=Nat.le_refl _
         have hbl:b<wr.drew.heap.size:=by omega
         have hbl2:b2<wr.drew.heap.size:=by omega
         have hc5:w.heap.size<wr.drew.heap.size:=by omega
         have hc6:w.heap.size+1<wr.drew.heap.size:=by omega
         have hS5:w5.cell? ⟨w.heap.size,6,none⟩=some (.slice (some ⟨b,o,none⟩) n p1)/\w5.cell? ⟨w.heap.size+1,6,none⟩=some (.slice (some ⟨b2,o2,none⟩) n p2)/\w5.cell? ⟨b,o+k*7,none⟩=some (.int .i64 (ds k).k)/\w5.cell? ⟨b,o+k*7+1,none⟩=some (.int .i64 (ds k).f)/\w5.cell? ⟨b,o+k*7+2,none⟩=some (.bool (ds k).neg)/\w5.cell? ⟨b,o+k*7+3,none⟩=some (.slice (ds k).aq (ds k).an (ds k).ac)/\w5.cell? ⟨b,o+k*7+4,none⟩=some (.slice (ds k).cq (ds k).cn (ds k).cc)/\w5.cell? ⟨b,o+k*7+5,none⟩=some (.string (ds k).m)/\w5.cell? ⟨b,o+k*7+6,none⟩=some (.slice (ds k).sq (ds k).sn (ds k).sc)/\w5.cell? ⟨b2,o2+k*7,none⟩=some (.int .i64 (es k).k)/\w5.cell? ⟨b2,o2+k*7+1,none⟩=some (.int .i64 (es k).f)/\w5.cell? ⟨b2,o2+k*7+2,none⟩=some (.bool (es k).neg)/\w5.cell? ⟨b2,o2+k*7+3,none⟩=some (.slice (es k).aq (es k).an (es k).ac)/\w5.cell? ⟨b2,o2+k*7+4,none⟩=some (.slice (es k).cq (es k).cn (es k).cc)/\w5.cell? ⟨b2,o2+k*7+5,none⟩=some (.string (es k).m)/\w5.cell? ⟨b2,o2+k*7+6,none⟩=some (.slice (es k).sq (es k).sn (es k).sc):=⟨(hb5.cell (by exact hc5)).trans q6r,(hb5.cell (by exact hc6)).trans r6r,(hb5.cell (by exact hbl)).trans x0,(hb5.cell (by exact hbl)).trans x1,(hb5.cell (by exact hbl)).trans x2,(hb5.cell (by exact hbl)).trans x3,(hb5.cell (by exact hbl)).trans x4,(hb5.cell (by exact hbl)).trans x5,(hb5.cell (by exact hbl)).trans x6,(hb5.cell (by exact hbl2)).trans y0,(hb5.cell (by exact hbl2)).trans y1,(hb5.cell (by exact hbl2)).trans y2,(hb5.cell (by exact hbl2)).trans y3,(hb5.cell (by exact hbl2)).trans y4,(hb5.cell (by exact hbl2)).trans y5,(hb5.cell (by exact hbl2)).trans y6⟩))
   have hW5:Below w.heap.size w w5:=hW.drew.trans (hb5.mono hW.drew.size)
   have hW15:Below w1.heap.size w1 w5:=hbw.drew.trans (hb5.mono hbw.drew.size)
   clear hS5 x0 x1 x2 x3 x4 x5 x6 y0 y1 y2 y3 y4 y5 y6 q6r r6r hb5
   cases hp:P k with
   | false=>
    go_wp2_with fail
    go_ret
    have hall:(List.range n).all P=false:=by
     rw[List.all_eq_false]
     exact⟨k,List.mem_range.2 hlt,by simp[hp]⟩
    rw[hall]
    exact⟨rfl,hW5⟩
   | true=>
    go_wp2_with fail
    go_roundw
    case rel=>
     refine⟨k+1,by omega,by go_num,fun j hj=>?_,hW15⟩
     rcases Nat.lt_or_ge j k with h | h
     ·exact hHid.out j h
     ·have:j=k:=by omega
      subst this
      exact hp
    case measure=>simp[intOf];omega
  ·have hk':k=n:=by omega
   subst hk'
   go_wp2_with fail
   go_ret
   refine⟨?_,hW⟩
   have:(List.range k).all P=true:=by
    rw[List.all_eq_true]
    intro j hj
    exact hHid.out j (List.mem_range.1 hj)
   rw[this]
   rfl
end Go.Proofs.YtfhjhnofkaiceaaGreatDoor
namespace Go.Proofs.YtfhjhnofkaiceaaGreatDoor
open Go Go.RowKit
set_option maxRecDepth 100000 in
theorem alike_none (k1 f1 k2 f2:Int) (g1 g2:Bool) (aq1 cq1 aq2 cq2 q1 q2:Option Addr) (an1 ac1 cn1 cc1 an2 ac2 cn2 cc2:Nat) (m1 m2:ByteArray) (p1 p2:Nat) (w:World)
  (hR:∀w1,Below w.heap.size w w1->Calls Tryz.prog 78 #[.agg #[.bool g1,.slice aq1 an1 ac1,.slice cq1 cn1 cc1],.agg #[.bool g2,.slice aq2 an2 ac2,.slice cq2 cn2 cc2]] w1 fun e w'=>e=.returned (.bool true)/\Below w1.heap.size w1 w')
  (hk:k1=k2) (hf:f1=f2) (hm:m1.toList=m2.toList):
  Calls Tryz.prog 76 #[.agg #[.int .i64 k1,.int .i64 f1,.bool g1,.slice aq1 an1 ac1,.slice cq1 cn1 cc1,.string m1,.slice q1 0 p1],.agg #[.int .i64 k2,.int .i64 f2,.bool g2,.slice aq2 an2 ac2,.slice cq2 cn2 cc2,.string m2,.slice q2 0 p2]] w
   fun e w'=>e=.returned (.bool true)/\Below w.heap.size w w':=by
 subst hk hf
 have h2:∀o o2,Below w.heap.size w ((w.alloc o).alloc o2):=fun o o2=>below_two w o o2
 go_enter Tryz.func76,Tryz.ntmps76
 go_wp2_with (go_at_call 78;refine(hR _ ?_).mono ?_;exact h2 _ _;rintro e w1 ⟨rfl,hb1'⟩
              have q6:w1.cell? ⟨w.heap.size,6,none⟩=some (.slice q1 0 p1):=(hb1'.cell (by show w.heap.size<_;simp;omega)).trans (by simp)
              have hW1:=(h2 _ _).trans (hb1'.mono (h2 _ _).size))
 refine wp_loop_once ?_
 go_wp2_with fail
 go_ret
 exact⟨rfl,hW1⟩
set_option maxRecDepth 100000 in
theorem alike_false (k1 f1 k2 f2:Int) (g1 g2 R:Bool) (aq1 cq1 aq2 cq2 q1 q2:Option Addr) (an1 ac1 cn1 cc1 an2 ac2 cn2 cc2:Nat) (m1 m2:ByteArray) (n1 n2 p1 p2:Nat) (w:World) (_b1:n1<=1099511627776) (b2:n2<=1099511627776)
  (hR:∀w1,Below w.heap.size w w1->Calls Tryz.prog 78 #[.agg #[.bool g1,.slice aq1 an1 ac1,.slice cq1 cn1 cc1],.agg #[.bool g2,.slice aq2 an2 ac2,.slice cq2 cn2 cc2]] w1 fun e w'=>e=.returned (.bool R)/\Below w1.heap.size w1 w')
  (h:¬(k1=k2/\f1=f2/\m1.toList=m2.toList/\n1=n2/\R=true)):
  Calls Tryz.prog 76 #[.agg #[.int .i64 k1,.int .i64 f1,.bool g1,.slice aq1 an1 ac1,.slice cq1 cn1 cc1,.string m1,.slice q1 n1 p1],.agg #[.int .i64 k2,.int .i64 f2,.bool g2,.slice aq2 an2 ac2,.slice cq2 cn2 cc2,.string m2,.slice q2 n2 p2]] w
   fun e w'=>e=.returned (.bool false)/\Below w.heap.size w w':=by
 have h2:∀o o2,Below w.heap.size w ((w.alloc o).alloc o2):=fun o o2=>below_two w o o2
 by_cases hk:k1=k2
 ·subst hk
  by_cases hf:f1=f2
  ·subst hf
   by_cases hm:m1.toList=m2.toList
   ·by_cases hn:n1=n2
    ·subst hn
     have hr:R=false:=by
      cases R
      ·rfl
      ·exact absurd ⟨rfl,rfl,hm,rfl,rfl⟩ h
     subst hr
     clear h
     go_enter Tryz.func76,Tryz.ntmps76
     go_wp2_with (go_at_call 78;refine(hR _ ?_).mono ?_;exact h2 _ _;rintro e w1 ⟨rfl,hb1'⟩)
     go_ret
     exact⟨rfl,(h2 _ _).trans (hb1'.mono (h2 _ _).size)⟩
    ·clear h
     have hn':¬(n1:Int)=(n2:Int):=by omega
     go_enter Tryz.func76,Tryz.ntmps76
     go_wp2_with fail
     go_ret
     exact⟨rfl,h2 _ _⟩
   ·clear h
    go_enter Tryz.func76,Tryz.ntmps76
    go_wp2_with fail
    go_ret
    exact⟨rfl,h2 _ _⟩
  ·clear h
   go_enter Tryz.func76,Tryz.ntmps76
   go_wp2_with fail
   go_ret
   exact⟨rfl,h2 _ _⟩
 ·clear h
  go_enter Tryz.func76,Tryz.ntmps76
  go_wp2_with fail
  go_ret
  exact⟨rfl,h2 _ _⟩
theorem alike_ok:∀(x y:Ex) (d e:Nd) (w:World),ExOk w x d->ExOk w y e->
  Calls Tryz.prog 76 #[d.val,e.val] w fun r w'=>r=.returned (.bool (x.eq y))/\Below w.heap.size w w':=by
 intro x
 induction x with
 | non=>exact fun y d e w hx=>hx.elim
 | mk k f ng nu de m n ar ih=>
  intro y d e w hx hy
  cases y with
  | non=>exact hy.elim
  | mk k' f' ng' nu' de' m' n' ar'=>
  unfold ExOk at hx hy
  obtain⟨⟨rfl,rfl,rfl,rfl,rfl⟩,x2,x3,x4,x5,x6,x7⟩:=hx
  obtain⟨⟨rfl,rfl,rfl,rfl,rfl⟩,y2,y3,y4,y5,y6,y7⟩:=hy
  unfold Ex.eq
  have hR:∀w1,Below w.heap.size w w1->Calls Tryz.prog 78 #[.agg #[.bool d.neg,.slice d.aq d.an d.ac,.slice d.cq d.cn d.cc],.agg #[.bool e.neg,.slice e.aq e.an e.ac,.slice e.cq e.cn e.cc]] w1 fun r w'=>r=.returned (.bool (ratEq d.neg nu de e.neg nu' de'))/\Below w1.heap.size w1 w':=
   fun w1 h1=>refEqual_ok (x2.below h1) (x3.below h1) (y2.below h1) (y3.below h1) x4 y4 x5 y5
  by_cases ht:d.k=e.k/\d.f=e.f/\d.m.toList=e.m.toList/\d.sn=e.sn/\ratEq d.neg nu de e.neg nu' de'=true
  ·obtain⟨t1,t2,t3,t4,t5⟩:=ht
   rw[t5] at hR
   have hres:(decide (d.k=e.k)&&decide (d.f=e.f)&&decide (d.m.toList=e.m.toList)&&ratEq d.neg nu de e.neg nu' de'&&(decide (d.sn=e.sn)&&(List.range d.sn).all fun i=>(ar i).eq (ar' i)))=(List.range d.sn).all fun i=>(ar i).eq (ar' i):=by
    simp[t1,t2,t3,t4,t5]
   rw[hres]
   by_cases h0:d.sn=0
   ·have h0':e.sn=0:=by omega
    unfold Nd.val
    rw[h0,h0']
    exact alike_none _ _ _ _ _ _ _ _ _ _ _ _ _ _ _ _ _ _ _ _ _ _ _ _ w hR t1 t2 t3
   ·rcases x7 with h | ⟨b,o,hq,hlt,ds,hds⟩
    ·exact absurd h h0
    rcases y7 with h | ⟨b',o',hq',hlt',es,hes⟩
    ·omega
    unfold Nd.val
    rw[hq,hq',<-t4]
    exact alike_walk _ _ _ _ _ _ _ _ _ _ _ _ _ _ _ _ _ _ _ _ d.sn _ _ b o b' o' ds es (fun i=>(ar i).eq (ar' i)) w x6 (fun i hi=>(hds i hi).1) (fun i hi=>(hes i (by omega)).1) hlt hlt' hR
     (fun i hi w2 h2=>ih i (ar' i) (ds i) (es i) w2 ((hds i hi).2.below h2) ((hes i (by omega)).2.below h2)) t1 t2 t3
  ·have hres:(decide (d.k=e.k)&&decide (d.f=e.f)&&decide (d.m.toList=e.m.toList)&&ratEq d.neg nu de e.neg nu' de'&&(decide (d.sn=e.sn)&&(List.range d.sn).all fun i=>(ar i).eq (ar' i)))=false:=by
    rw[Bool.eq_false_iff]
    intro hh
    simp only[Bool.and_eq_true,decide_eq_true_eq] at hh
    exact ht ⟨hh.1.1.1.1,hh.1.1.1.2,hh.1.1.2,hh.2.1,hh.1.2⟩
   rw[hres]
   unfold Nd.val
   exact alike_false _ _ _ _ _ _ _ _ _ _ _ _ _ _ _ _ _ _ _ _ _ _ _ _ _ _ _ w x6 y6 hR ht
end Go.Proofs.YtfhjhnofkaiceaaGreatDoor
