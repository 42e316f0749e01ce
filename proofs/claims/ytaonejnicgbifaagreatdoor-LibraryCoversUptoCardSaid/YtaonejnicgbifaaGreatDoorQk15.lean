import Derived.Test.YtaonejnicgbifaaGreatDoorQk14
namespace Go.Proofs.YtaonejnicgbifaaGreatDoor
open Go Go.RowKit
set_option maxRecDepth 100000
set_option maxHeartbeats 16000000
def FNew (w:World) (N:Nat):Prop:=w.heap[N]?=some (.cells zC 107 (0,0))
theorem FNew.made (w:World):FNew (w.alloc (.cells zC 107)) w.heap.size:=heap_alloc_new w _
theorem FNew.below {w w':World} {N:Nat} (h:FNew w N) (hb:Below w.heap.size w w'):FNew w' N:=by
 unfold FNew at h ⊢
 rw[hb.block N (Array.getElem?_eq_some_iff.1 h).1]
 exact h
theorem FNew.c0 {w:World} {N:Nat} (h:FNew w N):w.cell? ⟨N,0,none⟩=some (.bool false):=by unfold FNew at h;simp[World.cell?,h]
theorem FNew.c1 {w:World} {N:Nat} (h:FNew w N):w.cell? ⟨N,1,none⟩=some (.slice none 0 0):=by unfold FNew at h;simp[World.cell?,h]
theorem FNew.c2 {w:World} {N:Nat} (h:FNew w N):w.cell? ⟨N,2,none⟩=some (.slice none 0 0):=by unfold FNew at h;simp[World.cell?,h]
theorem FNew.fr {w:World} {N:Nat} (h:FNew w N) (j:Nat):w.frozen? ⟨N,j,none⟩=false:=by unfold FNew at h;simp[World.frozen?,h]
theorem FNew.no {w:World} {N:Nat} (h:FNew w N) (j:Nat) (x:Int):w.cell? ⟨N,j,none⟩≠some (.int .u32 x):=by
 unfold FNew at h
 simp only[World.cell?,h]
 match j with
 | 0=>simp
 | 1=>simp
 | 2=>simp
 | j+3=>simp
theorem Sl.notF {w:World} {v:Value} {xs:List Int} {N:Nat} (h:Sl w v xs) (hN:FNew w N):SlN N w v xs:=by
 obtain⟨h1,h2,q,cap,h3,h4,h5⟩:=h
 refine⟨h1,h2,q,cap,h3,h4,?_⟩
 by_cases hx:xs=[]
 ·exact .inl hx
 ·rcases h5 with h5 | ⟨b,o,e,hlt,hc⟩
  ·exact absurd h5 hx
  ·refine .inr ⟨b,o,e,hlt,?_,hc⟩
   rintro rfl
   exact hN.no _ _ (hc 0 (List.length_pos_iff.2 hx))
theorem setF_row {w:World} {N:Nat} (h:FNew w N) (x0 x1 x2:Value):(((w.setCell ⟨N,0,none⟩ x0).setCell ⟨N,1,none⟩ x1).setCell ⟨N,2,none⟩ x2).rangeAt N 0 [x0,x1,x2]/\Sav N w (((w.setCell ⟨N,0,none⟩ x0).setCell ⟨N,1,none⟩ x1).setCell ⟨N,2,none⟩ x2):=by
 refine⟨fun j v hv=>?_,((Sav.of (Below.refl _ _)).setCell 0 x0 |>.setCell 1 x1).setCell 2 x2⟩
 match j,hv with
 | 0,hv=>
  simp only[List.getElem?_cons_zero,Option.some.injEq] at hv
  subst hv
  rw[World.cell?_setCell_other _ _ _ _ (by simp),World.cell?_setCell_other _ _ _ _ (by simp),World.cell?_setCell_same _ _ _ h.c0]
 | 1,hv=>
  simp only[List.getElem?_cons_succ,List.getElem?_cons_zero,Option.some.injEq] at hv
  subst hv
  rw[World.cell?_setCell_other _ _ _ _ (by simp),World.cell?_setCell_same _ _ _ (by rw[World.cell?_setCell_other _ _ _ _ (by simp)];exact h.c1)]
 | 2,hv=>
  simp only[List.getElem?_cons_succ,List.getElem?_cons_zero,Option.some.injEq] at hv
  subst hv
  rw[World.cell?_setCell_same _ _ _ (by rw[World.cell?_setCell_other _ _ _ _ (by simp),World.cell?_setCell_other _ _ _ _ (by simp)];exact h.c2)]
theorem f_row:∃d,Tryz.prog.underlying 107=some d/\d.isRow=true:=⟨_,Tryz.underlying107,rfl⟩
theorem zdv:(Tryz.prog.info? 107).map (·.size)=some 3:=by kernel_rfl
theorem zgr {w W0 w1:World} {N:Nat} {g:Bool} {a b:Value} {ns ds:List Int} {n d:Int} (hN:w.heap.size<=N) (h0:FNew W0 N) (hb0:Below w.heap.size w W0) (hb1:Below W0.heap.size W0 w1) (ha:Sl w1 a ns) (ca:Canon ns) (va:val ns=n) (hb:Sl w1 b ds) (cb:Canon ds) (vb:val ds=d) (la:ns.length<=274877906000) (lb:ds.length<=274877906000):
  Hid (FAt (((w1.setCell ⟨N,0,none⟩ (.bool g)).setCell ⟨N,1,none⟩ a).setCell ⟨N,2,none⟩ b) (.agg #[.bool g,a,b]) g n d/\Below w.heap.size w (((w1.setCell ⟨N,0,none⟩ (.bool g)).setCell ⟨N,1,none⟩ a).setCell ⟨N,2,none⟩ b))/\
  (((w1.setCell ⟨N,0,none⟩ (.bool g)).setCell ⟨N,1,none⟩ a).setCell ⟨N,2,none⟩ b).rangeAt N 0 [.bool g,a,b]:=by
 have h1:=h0.below hb1
 obtain⟨h2,h3⟩:=setF_row h1 (.bool g) a b
 exact⟨⟨⟨a,b,ns,ds,rfl,((ha.notF h1).sav h3).sl,ca,va,((hb.notF h1).sav h3).sl,cb,vb,la,lb⟩,(hb0.trans (hb1.mono hb0.size)).trans (h3.below hN (Nat.le_trans hb0.size hb1.size))⟩,h2⟩
theorem zfs {a b:Nat} (h:a<=b):(2:Int)^a<=2^b:=by
 obtain⟨d,rfl⟩:∃d,b=a+d:=⟨b - a,by omega⟩
 have hp:=zaq a
 have hq:=zaq d
 rw[Int.pow_add]
 have h2:(2:Int)^a*1<=2^a*2^d:=Int.mul_le_mul_of_nonneg_left hq (by omega)
 omega
theorem TwosIs.some:∀(n:Nat),0<n->∃t,TwosIs (n:Int) t:=by
 intro n
 induction n using Nat.strongRecOn with
 | ind n ih=>
  intro h
  by_cases h2:n % 2=1
  ·exact⟨0,n / 2,by simp;omega⟩
  ·obtain⟨t,m,hm⟩:=ih (n / 2) (by omega) (by omega)
   refine⟨t+1,m,?_⟩
   rw[Int.pow_succ,Int.mul_right_comm,<-hm]
   omega
theorem TwosIs.ex {x:Int} (h:0<x):∃t,TwosIs x t:=by
 obtain⟨n,rfl⟩:=Int.eq_ofNat_of_zero_le (by omega:0<=x)
 exact TwosIs.some n (by omega)
theorem zgs {w:World} {v:Value} {xs:List Int} {t:Nat} (h:Sl w v xs) (ht:TwosIs (val xs) t) (lx:xs.length<=274877906944) (hT:Tb w):
  t<=8796093022208->Calls Tryz.prog 167 #[v] w fun e w'=>e=.returned (.int .i64 t)/\w'=w:=by
 intro _
 refine(zks h ht.pos lx hT).mono ?_
 rintro e w' ⟨s,rfl,hs,_,rfl⟩
 rw[hs.unique ht]
 exact⟨rfl,rfl⟩
theorem TwosIs.le {x:Int} {t n:Nat} (h:TwosIs x t) (hx:x<2^n):t<n:=by
 obtain⟨m,rfl⟩:=h
 rcases Nat.lt_or_ge t n with h | h
 ·exact h
 ·obtain⟨d,rfl⟩:∃d,t=n+d:=⟨t - n,by omega⟩
  have hp:=zaq n
  have hq:=zaq d
  rw[Int.pow_add,Int.mul_assoc] at hx
  have h1:(1:Int)<=2^d*(2*(m:Int)+1):=Int.mul_pos hq (by omega)
  have h2:(2:Int)^n*1<=2^n*(2^d*(2*(m:Int)+1)):=Int.mul_le_mul_of_nonneg_left h1 (by omega)
  omega
theorem ze7 {xs:List Int} (dx:Dig xs):val xs<2^(32*xs.length):=by
 have h:=za3 dx
 rw[Int.pow_mul]
 exact h
theorem TwosIs.lt {xs:List Int} {t:Nat} (dx:Dig xs) (h:TwosIs (val xs) t):t<32*xs.length:=h.le (ze7 dx)
theorem zin {X Y:Int} {tx ty k:Nat} (hx:TwosIs X tx) (hy:TwosIs Y ty) (hk:k=min tx ty):
  X / gcdI X Y=X / 2^k / gcdI (X / 2^k) (Y / 2^k)/\Y / gcdI X Y=Y / 2^k / gcdI (X / 2^k) (Y / 2^k)/\0<X / 2^k/\0<Y / 2^k/\TwosIs (X / 2^k) (tx - k)/\TwosIs (Y / 2^k) (ty - k):=by
 have h1:=hx.div (k:=k) (by omega)
 have h2:=hy.div (k:=k) (by omega)
 obtain⟨a,b,c,d⟩:=zhn hx.pos hy.pos h1.1 h2.1
 exact⟨a,b,c,d,h1.2,h2.2⟩
theorem red_pow {X Y:Int} {tx ty k n:Nat} (hx:TwosIs X tx) (hy:TwosIs Y ty) (hk:k=min tx ty) (h2:Y / 2^k<2^(n+1)) (he:ty - k=n):
  gcdI (X / 2^k) (Y / 2^k)=1:=by
 obtain⟨_,_,c,d,e,f⟩:=zin hx hy hk
 subst he
 rw[f.pow h2]
 refine gcdI_pow (by omega) ?_
 rcases Nat.eq_zero_or_pos (ty - k) with h | h
 ·exact .inl h
 ·right
  have:tx - k=0:=by omega
  rw[this] at e
  obtain⟨m,hm⟩:=e
  exact⟨m,by simpa using hm⟩
structure RedT (w:World) (va vb:Value) (ns ds:List Int) (X Y:Int) (t:Nat):Prop where
 sn:Sl w va ns
 sd:Sl w vb ds
 cn:Canon ns
 cd:Canon ds
 vn:val ns=X
 vd:val ds=Y
 px:0<X
 py:0<Y
 ln:ns.length<=274877906000
 ld:ds.length<=274877906000
 tw:TwosIs Y t
 tb:Tb w
theorem RedT.nn {w:World} {va vb:Value} {ns ds:List Int} {X Y:Int} {t:Nat} (h:RedT w va vb ns ds X Y t):ns≠[]/\ds≠[]:=by
 have h1:=h.vn
 have h2:=h.vd
 have h3:=h.px
 have h4:=h.py
 constructor
 ·rintro rfl
  simp only[val] at h1
  omega
 ·rintro rfl
  simp only[val] at h2
  omega
theorem RedT.twos {w:World} {va vb:Value} {ns ds:List Int} {X Y:Int} {t:Nat} (h:RedT w va vb ns ds X Y t):Calls Tryz.prog 167 #[vb] w fun e w'=>e=.returned (.int .i64 t)/\w'=w:=
 zgs h.sd (by rw[h.vd];exact h.tw) (by have:=h.ld;omega) h.tb (by
  have h1:=h.tw
  rw[<-h.vd] at h1
  have:=h1.lt h.sd.1
  have:=h.ld
  omega)
theorem RedT.bits {w:World} {va vb:Value} {ns ds:List Int} {X Y:Int} {t:Nat} (h:RedT w va vb ns ds X Y t) {n:Nat} (h1:2^n<=Y) (h2:Y<2^(n+1)):Calls Tryz.prog 169 #[vb] w fun e w'=>e=.returned (.int .i64 (n+1))/\w'=w:=by
 refine(zkr h.sd h.cd h.nn.2 (by have:=h.ld;omega)).mono ?_
 rintro e w' ⟨m,rfl,h3,h4,_,rfl⟩
 rw[h.vd] at h3 h4
 have:m=n:=by
  rcases Nat.lt_trichotomy m n with hh | hh | hh
  ·have:=zfs (by omega:m+1<=n)
   omega
  ·exact hh
  ·have:=zfs (by omega:n+1<=m)
   omega
 subst this
 exact⟨rfl,rfl⟩
theorem RedT.bn {w:World} {va vb:Value} {ns ds:List Int} {X Y:Int} {t:Nat} (h:RedT w va vb ns ds X Y t) {n:Nat} (h1:2^n<=Y):n<=8796093022208:=by
 have h2:=ze7 h.sd.1
 rw[h.vd] at h2
 have h3:=h.ld
 rcases Nat.lt_or_ge n (32*ds.length) with h | h
 ·omega
 ·have:=zfs h
  omega
theorem bits_ex {Y:Int} (h:0<Y):∃n:Nat,2^n<=Y/\Y<2^(n+1):=by
 have key:∀k:Nat,Y<2^k->∃n:Nat,2^n<=Y/\Y<2^(n+1):=by
  intro k
  induction k with
  | zero=>intro h1;simp at h1;omega
  | succ k ih=>
   intro h1
   by_cases h2:Y<2^k
   ·exact ih h2
   ·exact⟨k,by omega,h1⟩
 refine key Y.toNat ?_
 have:Y.toNat<2^Y.toNat:=Nat.lt_two_pow_self
 have e:((2^Y.toNat:Nat):Int)=(2:Int)^Y.toNat:=by simp
 omega
theorem red_zero {w:World} {g:Bool} {q q':Option Addr} {n cap cap':Nat}:
  Calls Tryz.prog 145 (qA g q 0 cap q' n cap') w fun e w'=>∃f,e=.returned f/\FAt w' f false 0 1/\Below w.heap.size w w':=by
 have hof:=fun z=>zdm z 1 (by omega) (by omega)
 have fA:=fun z=>zb0 q 0 cap z
 have aF:=FNew.made w
 have hb0:Below w.heap.size w (w.alloc (.cells zC 107)):=zaa w _
 obtain⟨dd,hu,hd⟩:=f_row
 have hs1:=zed (x:=1) (by omega) (by omega)
 go_enter Tryz.func145,Tryz.ntmps145
 go_wp2_with (first
  | (go_at_call 109;with_reducible refine(fA _).mono ?_;rintro e w1 ⟨rfl,rfl⟩)
  | (go_at_call 144;with_reducible refine(hof _).mono ?_;rintro e w1 ⟨r,rfl,hz,hb1⟩
     obtain⟨qr,cr,rfl⟩:=hz.form
     obtain⟨hk,ap⟩:=zgr (g:=false) (Nat.le_refl _) aF hb0 hb1 (Sl.nil _) zbb rfl hz hs1.2.1 hs1.2.2.1 (by simp) (by have:=hs1.2.2.2;omega)
     have h9:=aF.below hb1
     have c0:=h9.c0
     have c1:=h9.c1
     have c2:=h9.c2
     have fr:=h9.fr
     clear hb1 h9 aF hb0))
 refine bodyPost_ret (zae rfl _ _ w.heap.size _ dd rfl ap hu hd zdv) rfl ?_
 exact⟨_,rfl,hk.out⟩
theorem red_walk {w:World} {g:Bool} {q q':Option Addr} {m n cap cap':Nat} {xs ys:List Int} {X Y:Int} {tx ty k:Nat} (hm:m≠0) (hR0:RedT (w.alloc (.cells zC 107)) (.slice q m cap) (.slice q' n cap') xs ys X Y ty) (hx:TwosIs X tx) (hk:k=min tx ty) (hkk:min (tx:Int) (ty:Int)=(k:Int)):
  Calls Tryz.prog 145 (qA g q m cap q' n cap') w fun e w'=>∃f,e=.returned f/\FAt w' f g (X / gcdI X Y) (Y / gcdI X Y)/\Below w.heap.size w w':=by
 have fA:∀z,Calls Tryz.prog 109 #[.slice q m cap] z fun e w'=>e=.returned (.bool false)/\w'=z:=fun z=>by
  have:=zb0 q m cap z
  rwa [decide_eq_false hm] at this
 have aF:=FNew.made w
 have hb0:Below w.heap.size w (w.alloc (.cells zC 107)):=zaa w _
 obtain⟨dd,hu,hd⟩:=f_row
 have hrv:Hid (_/\_/\_/\_/\_/\_):=zin hx hR0.tw hk
 have hty:=hR0.twos
 have htx:Calls Tryz.prog 167 #[.slice q m cap] (w.alloc (.cells zC 107)) fun e w'=>e=.returned (.int .i64 tx)/\w'=(w.alloc (.cells zC 107)):=
  zgs hR0.sn (by rw[hR0.vn];exact hx) (by have:=hR0.ln;omega) hR0.tb (by
   have h1:=hx
   rw[<-hR0.vn] at h1
   have:=h1.lt hR0.sn.1
   have:=hR0.ln
   omega)
 have hkb:k<=8796093022208:=by
  have h1:=hR0.tw
  rw[<-hR0.vd] at h1
  have:=h1.lt hR0.sd.1
  have:=hR0.ld
  omega
 have hpw:Hid (k=min tx ty/\TwosIs X tx/\TwosIs Y ty):=⟨hk,hx,hR0.tw⟩
 have hR':=zac hR0
 have aR:Hid (FNew (w.alloc (.cells zC 107)) w.heap.size):=aF
 have aQ:=zac hb0
 obtain⟨t,ht⟩:∃t,Hid (ty - k=t):=⟨_,rfl⟩
 clear hR0 hx hk aF hb0
 go_enter Tryz.func145,Tryz.ntmps145
 go_upto_if 19 with(first
  | (go_at_call 109;with_reducible refine(fA _).mono ?_;rintro e w1 ⟨rfl,rfl⟩)
  | (go_at_call 167;with_reducible refine htx.mono ?_;rintro e w1 ⟨rfl,rfl⟩)
  | (go_at_call 167;with_reducible refine hty.mono ?_;rintro e w1 ⟨rfl,rfl⟩))
 go_cut [1,2] from 19 to 25 (fun v1 v2 wx=>∃q1 n1 c1 q2 n2 c2 ns ds,v1=.slice q1 n1 c1/\v2=.slice q2 n2 c2/\Hid (RedT wx (.slice q1 n1 c1) (.slice q2 n2 c2) ns ds (X / 2^k) (Y / 2^k) t/\Below (w.alloc (.cells zC 107)).heap.size (w.alloc (.cells zC 107)) wx))
 case first=>
  by_cases hk0:k=0
  ·have aZ:Hid (RedT (w.alloc (.cells zC 107)) (.slice q m cap) (.slice q' n cap') xs ys (X / 2^k) (Y / 2^k) t/\Below (w.alloc (.cells zC 107)).heap.size (w.alloc (.cells zC 107)) (w.alloc (.cells zC 107))):=by
    refine⟨?_,Below.refl _ _⟩
    rw[<-ht.out,hk0]
    simpa using hR'.out
   have hkn:¬0<k:=by omega
   clear hk0
   go_wp2_with fail
   go_meet
   case rel=>exact⟨_,_,_,_,_,_,xs,ys,rfl,rfl,aZ⟩
  ·have hkn:0<k:=by omega
   have hs1:=zfj hR'.out.sn (by have:=hR'.out.ln;omega) k hkb
   have hs2:∀z,Below (w.alloc (.cells zC 107)).heap.size (w.alloc (.cells zC 107)) z->_:=fun z hz=>zfj (hR'.out.sd.below hz) (by have:=hR'.out.ld;omega) k hkb
   go_wp2_with (first
    | (go_at_call 168;with_reducible refine hs1.mono ?_;rintro e w2 ⟨r1,ns,rfl,z1,z2,z3,z4,hb2⟩
       obtain⟨qa,ca,rfl⟩:=z1.form)
    | (go_at_call 168;with_reducible refine(hs2 _ hb2).mono ?_;rintro e w3 ⟨r2,ds,rfl,y1,y2,y3,y4,hb3⟩
       obtain⟨qb,cb,rfl⟩:=y1.form))
   have hr:=hrv.out
   have hh:=hR'.out
   have iI:=hb2.trans (hb3.mono hb2.size)
   have aZ:Hid (RedT w3 (.slice qa ns.length ca) (.slice qb ds.length cb) ns ds (X / 2^k) (Y / 2^k) t/\Below (w.alloc (.cells zC 107)).heap.size (w.alloc (.cells zC 107)) w3):=
    ⟨⟨z1.below hb3,y1,z2,y2,by rw[z3,hh.vn],by rw[y3,hh.vd],hr.2.2.1,hr.2.2.2.1,by have:=hh.ln;omega,by have:=hh.ld;omega,by rw[<-ht.out];exact hr.2.2.2.2.2,hh.tb.below iI⟩,iI⟩
   go_meet
   case rel=>exact⟨_,_,_,_,_,_,ns,ds,rfl,rfl,aZ⟩
 case rest=>
  obtain⟨q1,n1,c1,q2,n2,c2,ns,ds,rfl,rfl,hcc⟩:=hcut
  clear htx hty hR' hkk fA
  obtain⟨bn,b1,b2⟩:=bits_ex hcc.out.1.py
  have hbn:=hcc.out.1.bn b1
  have htw:=hcc.out.1.twos
  have hbt:=hcc.out.1.bits b1 b2
  have hl1:=hcc.out.1.sn.form
  have hl2:=hcc.out.1.sd.form
  by_cases hp:t=bn
  ·have hg1:gcdI (X / 2^k) (Y / 2^k)=1:=red_pow hpw.out.2.1 hpw.out.2.2 hpw.out.1 b2 (ht.out.trans hp)
   have hmb:((t:Int) != (bn:Int))=false:=by simp[hp]
   have e1:X / 2^k=X / gcdI X Y:=by rw[hrv.out.1,hg1,Int.ediv_one]
   have e2:Y / 2^k=Y / gcdI X Y:=by rw[hrv.out.2.1,hg1,Int.ediv_one]
   have ee:Hid (X / 2^k=X / gcdI X Y/\Y / 2^k=Y / gcdI X Y):=⟨e1,e2⟩
   clear hp hg1 e1 e2 b1 b2
   go_wp2_with (first
    | (go_at_call 167;with_reducible refine htw.mono ?_;rintro e w4 ⟨rfl,rfl⟩)
    | (go_at_call 169;with_reducible refine hbt.mono ?_;rintro e w4 ⟨rfl,rfl⟩
       have hh:=hcc.out.1
       have bk:=hcc.out.2
       obtain⟨hk,ap⟩:=zgr (g:=g) (Nat.le_refl _) aR.out aQ.out bk hh.sn hh.cn (hh.vn.trans ee.out.1) hh.sd hh.cd (hh.vd.trans ee.out.2) hh.ln hh.ld
       have h9:=aR.out.below bk
       have c0:=h9.c0
       have c1:=h9.c1
       have c2:=h9.c2
       have fr:=h9.fr
       clear h9
       clear hh bk))
   refine bodyPost_ret (zae rfl _ _ w.heap.size _ dd rfl ap hu hd zdv) rfl ?_
   exact⟨_,rfl,hk.out⟩
  ·have hmb:((t:Int) != (bn:Int))=true:=by simp;omega
   obtain⟨G,hG⟩:∃G,gcdI (X / 2^k) (Y / 2^k)=G:=⟨_,rfl⟩
   have hgp:=zcc (b:=Y / 2^k) hcc.out.1.px
   have di:=gcd32_ok hcc.out.1.sn hcc.out.1.sd hcc.out.1.cn hcc.out.1.cd hcc.out.1.ln hcc.out.1.ld
   rw[hcc.out.1.vn,hcc.out.1.vd,hG] at di
   rw[hG] at hgp
   have ee:Hid (X / 2^k / G=X / gcdI X Y/\Y / 2^k / G=Y / gcdI X Y):=⟨by rw[hrv.out.1,hG],by rw[hrv.out.2.1,hG]⟩
   have fj:Hid (0<G):=hgp
   clear hG hgp b1 b2 hp
   go_upto_region 8 with(first
    | (go_at_call 167;with_reducible refine htw.mono ?_;rintro e w4 ⟨rfl,rfl⟩)
    | (go_at_call 169;with_reducible refine hbt.mono ?_;rintro e w4 ⟨rfl,rfl⟩)
    | (go_at_call 170;with_reducible refine di.mono ?_;rintro e w5 ⟨rg,gs,rfl,hg,cg,vg,lg,hb5⟩
       have dj:=one32_ok hg
       have ng:gs≠[]:=by
        rintro rfl
        have:=fj.out
        simp only[val] at vg
        omega))
   by_cases h1:gs=[1]
   ·have vg1:G=1:=by
     rw[h1] at vg
     simpa [val] using vg.symm
    have e3:Hid (X / 2^k=X / gcdI X Y/\Y / 2^k=Y / gcdI X Y):=by
     have:=ee.out
     rw[vg1,Int.ediv_one,Int.ediv_one] at this
     exact this
    rw[decide_eq_true h1] at dj
    go_wp2_with (go_at_call 171;with_reducible refine dj.mono ?_;rintro e w6 ⟨rfl,hb6⟩
                 have hh:=hcc.out.1
                 have cW:=hb5.trans (hb6.mono hb5.size)
                 have bk:=hcc.out.2.trans (cW.mono hcc.out.2.size)
                 obtain⟨hk,ap⟩:=zgr (g:=g) (Nat.le_refl _) aR.out aQ.out bk (hh.sn.below cW) hh.cn (hh.vn.trans e3.out.1) (hh.sd.below cW) hh.cd (hh.vd.trans e3.out.2) hh.ln hh.ld
                 have h9:=aR.out.below bk
                 have c0:=h9.c0
                 have c1:=h9.c1
                 have c2:=h9.c2
                 have fr:=h9.fr
                 clear h9
                 clear hh bk cW hb5 hb6)
    refine bodyPost_ret (zae rfl _ _ w.heap.size _ dd rfl ap hu hd zdv) rfl ?_
    exact⟨_,rfl,hk.out⟩
   ·rw[decide_eq_false h1] at dj
    go_wp2_with (first
     | (go_at_call 171;with_reducible refine dj.mono ?_;rintro e w6 ⟨rfl,hb6⟩
        have cW:=hb5.trans (hb6.mono hb5.size)
        have hd1:=zfx (hcc.out.1.sn.below cW) (hg.below hb6) hcc.out.1.cn cg ng hcc.out.1.ln)
     | (go_at_call 172;with_reducible refine hd1.mono ?_;rintro e w7 ⟨r1,r2,na,rs,rfl,hn,cn,vn,_,_,_,hb7⟩
        obtain⟨qn,kn,rfl⟩:=hn.form
        have hd2:=zfx ((hcc.out.1.sd.below cW).below hb7) ((hg.below hb6).below hb7) hcc.out.1.cd cg ng hcc.out.1.ld)
     | (go_at_call 172;with_reducible refine hd2.mono ?_;rintro e w8 ⟨r3,r4,da,rs',rfl,hdd,cd,vd,_,_,_,hb8⟩
        rw[vg] at vn vd
        rw[hcc.out.1.vn] at vn
        rw[hcc.out.1.vd] at vd
        obtain⟨qd,kd,rfl⟩:=hdd.form
        have hh:=hcc.out.1
        have iJ:=hb7.trans (hb8.mono hb7.size)
        have iK:=cW.trans (iJ.mono cW.size)
        have bk:=hcc.out.2.trans (iK.mono hcc.out.2.size)
        have l1:na.length<=274877906000:=by
         have h0:=Int.ediv_le_self G (by have:=hh.px;omega:(0:Int)<=X / 2^k)
         have:=zbd hn.1 hh.sn.1 cn (by rw[vn,hh.vn];exact h0)
         have:=hh.ln
         omega
        have l2:da.length<=274877906000:=by
         have h0:=Int.ediv_le_self G (by have:=hh.py;omega:(0:Int)<=Y / 2^k)
         have:=zbd hdd.1 hh.sd.1 cd (by rw[vd,hh.vd];exact h0)
         have:=hh.ld
         omega
        obtain⟨hk,ap⟩:=zgr (g:=g) (Nat.le_refl _) aR.out aQ.out bk (hn.below hb8) cn (vn.trans ee.out.1) hdd cd (vd.trans ee.out.2) l1 l2
        have h9:=aR.out.below bk
        have c0:=h9.c0
        have c1:=h9.c1
        have c2:=h9.c2
        have fr:=h9.fr
        clear h9
        clear hh bk iK iJ hb7 hb8 hd1 hd2))
    refine bodyPost_ret (zae rfl _ _ w.heap.size _ dd rfl ap hu hd zdv) rfl ?_
    exact⟨_,rfl,hk.out⟩
theorem zhx {w:World} {a b:Value} {g:Bool} {xs ys:List Int} (hx:Sl w a xs) (hy:Sl w b ys) (cx:Canon xs) (cy:Canon ys) (ny:ys≠[]) (lx:xs.length<=274877906000) (ly:ys.length<=274877906000) (hT:Tb w):
  Calls Tryz.prog 145 #[.bool g,a,b] w fun e w'=>∃f,e=.returned f/\FAt w' f (mkG g (val xs) (val ys)) (mkN (val xs) (val ys)) (mkD (val xs) (val ys))/\Below w.heap.size w w':=by
 obtain⟨q,cap,rfl⟩:=hx.form
 obtain⟨q',cap',rfl⟩:=hy.form
 by_cases hx0:xs=[]
 ·subst hx0
  simpa [mkG,mkN,mkD,val] using red_zero (g:=g) (q:=q) (q':=q') (n:=ys.length) (cap:=cap) (cap':=cap') (w:=w)
 ·have vx:=zca hx.1 cx hx0
  have vy:=zca hy.1 cy ny
  obtain⟨tx,htx⟩:=TwosIs.ex vx
  obtain⟨ty,hty⟩:=TwosIs.ex vy
  have hb0:Below w.heap.size w (w.alloc (.cells zC 107)):=zaa w _
  have hne:¬(val xs=0\/val ys=0):=by omega
  simp only[mkG,mkN,mkD,if_neg hne]
  exact red_walk (k:=min tx ty) (by have:=List.length_pos_iff.2 hx0;omega) ⟨hx.below hb0,hy.below hb0,cx,cy,rfl,rfl,vx,vy,lx,ly,hty,hT.below hb0⟩ htx rfl (by omega)
theorem zap {P:Program} {fn:Func} {p u:Tmp} {ty:TypeId} (h:fn.results=#[.cell p ty,.tmp u]) (tmps:Array Value) (w:World) (b:Nat) (cs:List Value) (d:TypeDesc)
  (hp:tmps.getD p undef=.pointer (some ⟨b,0,none⟩)) (hc:w.rangeAt b 0 cs) (hu:P.underlying ty=some d) (hd:d.isRow=true) (hi:(P.info? ty).map (·.size)=some cs.length):
  (results fn tmps).run P w=.ok (.tuple #[.agg cs.toArray,tmps.getD u undef]) w:=by
 rw[results_cell_tmp h,hp]
 simp[asAddr,run_loadVar_mid w b 0 ty cs d hc hu hd hi]
def pw (k:Nat):Int:=4294967296^k
theorem zio {xs:List Int} (dx:Dig xs) (cx:Canon xs) (k:Nat):xs.length<=k↔val xs<pw k:=by
 constructor
 ·intro h
  have h1:=za3 dx
  have h2:=zdr h
  unfold pw
  omega
 ·intro h
  exact ze3 dx cx h
def large (n d:Int):Bool:=!(decide (n<pw 256)&&decide (d<pw 256)&&decide (mkN n (denI d)<pw 64)&&decide (mkD n (denI d)<pw 64))
theorem zlv {w:World} {v:Value} {g:Bool} {n d:Int} (h:FAt w v g n d):
  Calls Tryz.prog 146 #[v] w fun e w'=>e=.returned (.bool (decide (n<pw 64)&&decide (d<pw 64)))/\Below w.heap.size w w':=by
 obtain⟨a,b,ns,ds,rfl,h2,h3,rfl,h5,h6,rfl,h8,h9⟩:=h
 have e1:decide (val ns<pw 64)=decide (ns.length<=64):=decide_eq_decide.2 (zio h2.1 h3 64).symm
 have e2:decide (val ds<pw 64)=decide (ds.length<=64):=decide_eq_decide.2 (zio h5.1 h6 64).symm
 rw[e1,e2]
 clear e1 e2
 obtain⟨q,cap,rfl⟩:=h2.form
 obtain⟨q',cap',rfl⟩:=h5.form
 clear h2 h3 h5 h6
 by_cases h1:ns.length<=64
 ·have h1':(ns.length:Int)<=64:=by omega
  by_cases h2:ds.length<=64
  ·have h2':(ds.length:Int)<=64:=by omega
   go_enter Tryz.func146,Tryz.ntmps146
   go_wp2
   go_ret
   exact⟨by simp[h1,h2],zaa _ _⟩
  ·have h2':¬(ds.length:Int)<=64:=by omega
   go_enter Tryz.func146,Tryz.ntmps146
   go_wp2
   go_ret
   exact⟨by simp,zaa _ _⟩
 ·have h1':¬(ns.length:Int)<=64:=by omega
  go_enter Tryz.func146,Tryz.ntmps146
  go_wp2
  go_ret
  exact⟨by simp,zaa _ _⟩
theorem zd6 {w:World} {v:Value} {g:Bool} {n d:Int} (h:FAt w v g n d):
  Calls Tryz.prog 87 #[v] w fun e w'=>e=.returned (.int .i64 (if n=0 then 0 else if g then -1 else 1))/\Below w.heap.size w w':=by
 obtain⟨a,b,ns,ds,rfl,h2,h3,rfl,h5,h6,rfl,h8,h9⟩:=h
 obtain⟨q,cap,rfl⟩:=h2.form
 obtain⟨q',cap',rfl⟩:=h5.form
 have hz:=fun z=>zb0 q ns.length cap z
 by_cases h1:ns=[]
 ·have hv:val ns=0:=by rw[h1];rfl
  have hl:ns.length=0:=by rw[h1];rfl
  rw[hl] at hz ⊢
  rw[hv]
  clear h2 h5
  go_enter Tryz.func87,Tryz.ntmps87
  go_wp2_with (go_at_call 109;with_reducible refine(hz _).mono ?_;rintro e w1 ⟨rfl,rfl⟩)
  go_ret
  exact⟨rfl,zaa _ _⟩
 ·have hp:=zca h2.1 h3 h1
  have hl:¬ns.length=0:=by have:=List.length_pos_iff.2 h1;omega
  have hz':∀z,Calls Tryz.prog 109 #[.slice q ns.length cap] z fun e w'=>e=.returned (.bool false)/\w'=z:=fun z=>by
   have:=hz z
   rwa [decide_eq_false hl] at this
  have hn:¬val ns=0:=by omega
  rw[if_neg hn]
  clear h2 h5 hz hn hp
  cases g with
  | false=>
   go_enter Tryz.func87,Tryz.ntmps87
   go_wp2_with (go_at_call 109;with_reducible refine(hz' _).mono ?_;rintro e w1 ⟨rfl,rfl⟩)
   go_ret
   exact⟨rfl,zaa _ _⟩
  | true=>
   go_enter Tryz.func87,Tryz.ntmps87
   go_wp2_with (go_at_call 109;with_reducible refine(hz' _).mono ?_;rintro e w1 ⟨rfl,rfl⟩)
   go_ret
   exact⟨rfl,zaa _ _⟩
theorem FNew.drew {w:World} {N nq:Nat} (h:FNew w N):FNew (w.drewN nq) N:=h
theorem zde {n d:Int} (h:¬n<pw 256\/¬d<pw 256):large n d=true:=by
 unfold large
 rcases h with h | h<;>simp[h]
theorem zlw {n d:Int} (h1:n<pw 256) (h2:d<pw 256):(decide (mkN n (denI d)<pw 64)&&decide (mkD n (denI d)<pw 64))=!large n d:=by
 unfold large
 simp[h1,h2]
theorem zbu {w:World} {g:Bool} {q1 p1:Option Addr} {c1 e1:Nat} {nu de:List Int} (h1:Sl w (.slice q1 nu.length c1) nu) (h2:Sl w (.slice p1 de.length e1) de) (ln:nu.length<=274877906000) (ld:de.length<=274877906000) (hT:Tb w):
  Calls Tryz.prog 110 #[.agg (qA g q1 nu.length c1 p1 de.length e1)] w fun e w'=>∃f g' n' d',e=.returned (.tuple #[f,.bool (!large (val nu) (val de))])/\FAt w' f g' n' d'/\(large (val nu) (val de)=false->g'=mkG g (val nu) (denI (val de))/\n'=mkN (val nu) (denI (val de))/\d'=mkD (val nu) (denI (val de)))/\Below w.heap.size w w':=by
 obtain⟨u1,s1,k1⟩:=zdl h1
 obtain⟨u2,s2,k2⟩:=zdl h2
 obtain⟨qa,ca,rfl⟩:=s1.form
 obtain⟨qb,cb,rfl⟩:=s2.form
 have v1:val (trim nu)=val nu:=zbl nu
 have v2:val (trim de)=val de:=zbl de
 have cn:=zak nu
 have cd:=zak de
 have l1:(trim nu).length<=274877906000:=by
  have:=zam nu nu.length
  rw[zai];omega
 have l2:(trim de).length<=274877906000:=by
  have:=zam de de.length
  rw[zai];omega
 have L1:=zio s1.1 cn 256
 have L2:=zio s2.1 cd 256
 rw[v1] at L1
 rw[v2] at L2
 generalize trim nu=N at*
 generalize trim de=D at*
 generalize val nu=X at*
 generalize val de=Y at*
 have hs:Hid (Sl w (.slice qa N.length ca) N/\Sl w (.slice qb D.length cb) D/\val N=X/\val D=Y/\Canon N/\Canon D/\N.length<=274877906000/\D.length<=274877906000/\Tb w):=⟨s1,s2,v1,v2,cn,cd,l1,l2,hT⟩
 have hb:=zah w (Obj.cells (qA g q1 nu.length c1 p1 de.length e1) 27) (Obj.cells zC 107)
 obtain⟨dd,hu,hd⟩:=f_row
 have hL:Hid ((N.length<=256↔X<pw 256)/\(D.length<=256↔Y<pw 256)):=⟨L1,L2⟩
 clear s1 s2 v1 v2 cn cd hT h1 h2 L1 L2
 go_enter Tryz.func110,Tryz.ntmps110
 go_wp2_with fail
 go_quiet (first
  | (go_at_call_of 108 (Value.slice q1 nu.length c1);refine Calls.quiet_of_same (k1 _ (zaj hb _)))
  | (go_at_call_of 108 (Value.slice p1 de.length e1);refine Calls.quiet_of_same (k2 _ (zaj hb _))))
 clear k1 k2
 have hb1:=zaj hb nq
 have x0:(((w.alloc (Obj.cells (qA g q1 nu.length c1 p1 de.length e1) 27)).alloc (Obj.cells zC 107)).drewN nq).cell? ⟨w.heap.size,0,none⟩=some (.bool g):=by simp
 have hsz:(((w.alloc (Obj.cells (qA g q1 nu.length c1 p1 de.length e1) 27)).alloc (Obj.cells zC 107)).drewN nq).heap.size=w.heap.size+2:=by simp
 have aF:FNew (((w.alloc (Obj.cells (qA g q1 nu.length c1 p1 de.length e1) 27)).alloc (Obj.cells zC 107)).drewN nq) (w.heap.size+1):=by
  have:=FNew.made (w.alloc (Obj.cells (qA g q1 nu.length c1 p1 de.length e1) 27))
  have e:(w.alloc (Obj.cells (qA g q1 nu.length c1 p1 de.length e1) 27)).heap.size=w.heap.size+1:=by simp
  rw[e] at this
  exact this.drew
 clear hb
 generalize (((w.alloc (Obj.cells (qA g q1 nu.length c1 p1 de.length e1) 27)).alloc (Obj.cells zC 107)).drewN nq)=W1 at hb1 x0 hsz aF ⊢
 have aR:Hid (FNew W1 (w.heap.size+1)):=aF
 have aV:Hid (Below w.heap.size w W1):=hb1
 have c0:=aF.c0
 have c1:=aF.c1
 have c2:=aF.c2
 have fr:=aF.fr
 clear aF hb1
 by_cases hA:N.length<=256
 ·have hA':((N.length:Int) > 256)=False:=by simp;omega
  by_cases hB:D.length<=256
  ·have hB':((D.length:Int) > 256)=False:=by simp;omega
   have hz:=fun z=>zb0 qb D.length cb z
   obtain⟨bz,hbz⟩:∃bz,Hid (decide (D.length=0)=bz):=⟨_,rfl⟩
   simp only[hbz.out] at hz
   have hof:=fun z=>zdm z 1 (by omega) (by omega)
   have hs1:Hid _:=zed (x:=1) (by omega) (by omega)
   go_upto_if 23 with(go_at_call 109;with_reducible refine(hz _).mono ?_;rintro e w1 ⟨rfl,hw1⟩;subst w1)
   go_cut [5] from 23 to 24 (fun v5 wx=>∃qd nd cd ds,v5=.slice qd nd cd/\Hid (Sl wx (.slice qd nd cd) ds/\Canon ds/\val ds=denI Y/\ds≠[]/\ds.length<=274877906000)/\Hid (Below W1.heap.size W1 wx))
   case first=>
    cases bz with
    | true=>
     have hY:denI Y=1:=by
      have:=hs.out.2.2.2.1
      rw[List.eq_nil_of_length_eq_zero (of_decide_eq_true hbz.out)] at this
      simp[denI,<-this,val]
     go_wp2_with (go_at_call 144;with_reducible refine(hof _).mono ?_;rintro e w2 ⟨r,rfl,hz2,hb2⟩
                  obtain⟨qr,cr,rfl⟩:=hz2.form)
     have aZ:Hid (Sl w2 (.slice qr (smallW 1).length cr) (smallW 1)/\Canon (smallW 1)/\val (smallW 1)=denI Y/\smallW 1≠[]/\(smallW 1).length<=274877906000):=⟨hz2,hs1.out.2.1,by rw[hY];exact hs1.out.2.2.1,by decide,by have:=hs1.out.2.2.2;omega⟩
     go_meet
     case rel=>exact⟨_,_,_,_,rfl,aZ,hb2⟩
    | false=>
     have hD:Hid (D≠[]):=by
      rintro rfl
      exact of_decide_eq_false hbz.out rfl
     have hY:denI Y=Y:=by
      have:=zca hs.out.2.1.1 hs.out.2.2.2.2.2.1 hD.out
      rw[hs.out.2.2.2.1] at this
      simp[denI];omega
     have aZ:Hid (Sl (W1) (.slice qb D.length cb) D/\Canon D/\val D=denI Y/\D≠[]/\D.length<=274877906000):=⟨hs.out.2.1.below aV.out,hs.out.2.2.2.2.2.1,by rw[hY];exact hs.out.2.2.2.1,hD.out,hs.out.2.2.2.2.2.2.2.1⟩
     go_wp2_with fail
     go_meet
     case rel=>exact⟨_,_,_,_,rfl,aZ,Below.refl _ _⟩
   case rest=>
    obtain⟨qd,nd,cd,ds,rfl,hds,hbw⟩:=hcut
    have gJ:=zhx (g:=g) ((hs.out.1.below aV.out).below hbw.out) hds.out.1 hs.out.2.2.2.2.1 hds.out.2.1 hds.out.2.2.2.1 hs.out.2.2.2.2.2.2.1 hds.out.2.2.2.2 ((hs.out.2.2.2.2.2.2.2.2.below aV.out).below hbw.out)
    rw[hs.out.2.2.1,hds.out.2.2.1] at gJ
    have hlf:Hid _:=zlw (hL.out.1.1 hA) (hL.out.2.1 hB)
    have x0':wc.cell? ⟨w.heap.size,0,none⟩=some (.bool g):=(hbw.out.cell (by show w.heap.size<_;omega)).trans x0
    clear x0 hz hof hs1 c0 c1 c2 fr
    go_wp2_with (go_at_call 145;with_reducible refine gJ.mono ?_;rintro e w3 ⟨f,rfl,hf,hb3⟩
                 have hf':=hf
                 obtain⟨fa,fb,ns,dsf,rfl,z1,z2,z3,z4,z5,z6,z7,z8⟩:=hf'
                 obtain⟨qn,kn,rfl⟩:=z1.form
                 obtain⟨qm,km,rfl⟩:=z4.form
                 have hzz:Hid (Sl w3 (.slice qn ns.length kn) ns/\Canon ns/\val ns=mkN X (denI Y)/\Sl w3 (.slice qm dsf.length km) dsf/\Canon dsf/\val dsf=mkD X (denI Y)/\ns.length<=274877906000/\dsf.length<=274877906000):=⟨z1,z2,z3,z4,z5,z6,z7,z8⟩
                 clear z1 z2 z3 z4 z5 z6 z7 z8 gJ)
    have hB4:Below w3.heap.size w3 (w3.alloc (.cells #[.bool (mkG g X (denI Y)),.slice qn ns.length kn,.slice qm dsf.length km] 107)):=zaa _ _
    have cJ:=zlv ((hf.below hB4).below (Below.refl _ _).drew)
    rw[hlf.out] at cJ
    have y0:(w3.alloc (.cells #[.bool (mkG g X (denI Y)),.slice qn ns.length kn,.slice qm dsf.length km] 107)).cell? ⟨w3.heap.size,0,none⟩=some (.bool (mkG g X (denI Y))):=by simp
    have y1:(w3.alloc (.cells #[.bool (mkG g X (denI Y)),.slice qn ns.length kn,.slice qm dsf.length km] 107)).cell? ⟨w3.heap.size,1,none⟩=some (.slice qn ns.length kn):=by simp
    have y2:(w3.alloc (.cells #[.bool (mkG g X (denI Y)),.slice qn ns.length kn,.slice qm dsf.length km] 107)).cell? ⟨w3.heap.size,2,none⟩=some (.slice qm dsf.length km):=by simp
    have y5:(w3.alloc (.cells #[.bool (mkG g X (denI Y)),.slice qn ns.length kn,.slice qm dsf.length km] 107)).heap.size=w3.heap.size+1:=by simp
    have hlt:w.heap.size+1<w3.heap.size:=by
     have:=hbw.out.size
     have:=hb3.size
     omega
    have cK:w3.heap.size≠w.heap.size+1:=by omega
    have iL:Below W1.heap.size W1 (w3.alloc (.cells #[.bool (mkG g X (denI Y)),.slice qn ns.length kn,.slice qm dsf.length km] 107)):=(hbw.out.trans (hb3.mono hbw.out.size)).trans (hB4.mono (Nat.le_trans hbw.out.size hb3.size))
    generalize (w3.alloc (.cells #[.bool (mkG g X (denI Y)),.slice qn ns.length kn,.slice qm dsf.length km] 107))=W4 at*
    have hS4:(fun z=>z.cell? ⟨w3.heap.size,0,none⟩=some (.bool (mkG g X (denI Y)))/\z.cell? ⟨w3.heap.size,1,none⟩=some (.slice qn ns.length kn)/\z.cell? ⟨w3.heap.size,2,none⟩=some (.slice qm dsf.length km)) W4.drew:=⟨y0,y1,y2⟩
    have y5':W4.drew.heap.size=w3.heap.size+1:=y5
    clear y0 y1 y2 hf x0'
    go_region_held3 (fun z=>z.cell? ⟨w3.heap.size,0,none⟩=some (.bool (mkG g X (denI Y)))/\z.cell? ⟨w3.heap.size,1,none⟩=some (.slice qn ns.length kn)/\z.cell? ⟨w3.heap.size,2,none⟩=some (.slice qm dsf.length km)) (first | exact hSs | exact hS5 | exact hS4)
     (first
       | (go_at_call 146;with_reducible refine cJ.mono ?_;rintro e w5 ⟨rfl,hb5⟩
          have hS5:(fun z=>z.cell? ⟨w3.heap.size,0,none⟩=some (.bool (mkG g X (denI Y)))/\z.cell? ⟨w3.heap.size,1,none⟩=some (.slice qn ns.length kn)/\z.cell? ⟨w3.heap.size,2,none⟩=some (.slice qm dsf.length km)) w5:=⟨(hb5.cell (by show w3.heap.size<_;omega)).trans hS4.1,(hb5.cell (by show w3.heap.size<_;omega)).trans hS4.2.1,(hb5.cell (by show w3.heap.size<_;omega)).trans hS4.2.2⟩
          have gK:Below W4.heap.size W4 w5:=(Below.refl _ _).drew.trans hb5
          have gL:Below W1.heap.size W1 w5:=iL.trans (gK.mono iL.size)
          have cX:=hzz.out
          have gM:Below w3.heap.size w3 w5:=hB4.trans (gK.mono hB4.size)
          obtain⟨hk,ap⟩:=zgr (g:=mkG g X (denI Y)) (by omega) aR.out aV.out gL (cX.1.below gM) cX.2.1 cX.2.2.1 (cX.2.2.2.1.below gM) cX.2.2.2.2.1 cX.2.2.2.2.2.1 cX.2.2.2.2.2.2.1 cX.2.2.2.2.2.2.2
          have h9:=aR.out.below gL
          have f0:=h9.c0
          have f1:=h9.c1
          have f2:=h9.c2
          have fr:=h9.fr
          have hSs:(fun z=>z.cell? ⟨w3.heap.size,0,none⟩=some (.bool (mkG g X (denI Y)))/\z.cell? ⟨w3.heap.size,1,none⟩=some (.slice qn ns.length kn)/\z.cell? ⟨w3.heap.size,2,none⟩=some (.slice qm dsf.length km)) (((w5.setCell ⟨w.heap.size+1,0,none⟩ (.bool (mkG g X (denI Y)))).setCell ⟨w.heap.size+1,1,none⟩ (.slice qn ns.length kn)).setCell ⟨w.heap.size+1,2,none⟩ (.slice qm dsf.length km)):=by
           exact⟨(World.cell?_setCell_far _ _ _ _ (by simp;omega)).trans ((World.cell?_setCell_far _ _ _ _ (by simp;omega)).trans ((World.cell?_setCell_far _ _ _ _ (by simp;omega)).trans hS5.1)),(World.cell?_setCell_far _ _ _ _ (by simp;omega)).trans ((World.cell?_setCell_far _ _ _ _ (by simp;omega)).trans ((World.cell?_setCell_far _ _ _ _ (by simp;omega)).trans hS5.2.1)),(World.cell?_setCell_far _ _ _ _ (by simp;omega)).trans ((World.cell?_setCell_far _ _ _ _ (by simp;omega)).trans ((World.cell?_setCell_far _ _ _ _ (by simp;omega)).trans hS5.2.2))⟩
          clear h9 gK gM gL hb5 cX))
    go_wp2_with fail
    refine bodyPost_ret (zap rfl _ _ (w.heap.size+1) _ dd rfl ap hu hd zdv) rfl ?_
    exact⟨_,_,_,_,rfl,hk.out.1,fun _=>⟨rfl,rfl,rfl⟩,hk.out.2⟩
  ·have hB':(D.length:Int) > 256:=by omega
   have hl:=zde (n:=X) (d:=Y) (.inr (fun h=>hB (hL.out.2.2 h)))
   obtain⟨hk,ap⟩:=zgr (g:=false) (by omega) aR.out aV.out (Below.refl _ _) (Sl.nil _) zbb rfl (Sl.nil _) zbb rfl (by simp) (by simp)
   go_wp2_with fail
   refine bodyPost_ret (zap rfl _ _ (w.heap.size+1) _ dd rfl ap hu hd zdv) rfl ?_
   exact⟨_,false,0,0,by rw[hl];rfl,hk.out.1,fun h=>(by rw[hl] at h;cases h),hk.out.2⟩
 ·have hA':(N.length:Int) > 256:=by omega
  have hl:=zde (n:=X) (d:=Y) (.inl (fun h=>hA (hL.out.1.2 h)))
  obtain⟨hk,ap⟩:=zgr (g:=false) (by omega) aR.out aV.out (Below.refl _ _) (Sl.nil _) zbb rfl (Sl.nil _) zbb rfl (by simp) (by simp)
  go_wp2_with fail
  refine bodyPost_ret (zap rfl _ _ (w.heap.size+1) _ dd rfl ap hu hd zdv) rfl ?_
  exact⟨_,false,0,0,by rw[hl];rfl,hk.out.1,fun h=>(by rw[hl] at h;cases h),hk.out.2⟩
theorem ze8 {Y:Int} (h:0<=Y):0<denI Y:=by
 unfold denI
 split<;>omega
theorem ziq {X Y:Int} (hX:0<=X) (hY:0<=Y):mkN X (denI Y)=0↔X=0:=by
 have hd:=ze8 hY
 unfold mkN
 by_cases h:X=0
 ·simp[h]
 ·rw[if_neg (by omega)]
  have hg:=zcc (b:=denI Y) (by omega:0<X)
  obtain⟨⟨p,hp⟩,_⟩:=zfk hX (by omega:0<=denI Y)
  have hp2:X / gcdI X (denI Y)=p:=by
   conv=>lhs;lhs;rw[hp]
   exact Int.mul_ediv_cancel_left _ (by omega)
  rw[hp2]
  constructor
  ·rintro rfl;omega
  ·intro h2;exact absurd h2 h
def sgnQ (g:Bool) (X _Y:Int):Int:=if X=0 then 0 else if g then -1 else 1
theorem zir {g:Bool} {X Y:Int} (hX:0<=X) (hY:0<=Y):(if mkN X (denI Y)=0 then 0 else if mkG g X (denI Y) then -1 else 1:Int)=sgnQ g X Y:=by
 have hd:=ze8 hY
 unfold sgnQ
 by_cases h:X=0
 ·rw[if_pos ((ziq hX hY).2 h),if_pos h]
 ·rw[if_neg (fun e=>h ((ziq hX hY).1 e)),if_neg h]
  have:mkG g X (denI Y)=g:=by
   unfold mkG
   rw[if_neg (by omega)]
  rw[this]
end Go.Proofs.YtaonejnicgbifaaGreatDoor
