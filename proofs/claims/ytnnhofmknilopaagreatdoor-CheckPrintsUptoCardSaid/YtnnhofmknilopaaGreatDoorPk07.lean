import Derived.Test.YtnnhofmknilopaaGreatDoorPk06
namespace Go.Proofs.YtnnhofmknilopaaGreatDoor
open Go Go.RowKit
set_option maxRecDepth 100000
set_option maxHeartbeats 16000000
theorem zf0 (xs:List Int):(trim (halves xs)).length<=2*xs.length:=by
 rw[zag]
 have:=zan (halves xs) (halves xs).length
 rw[zce] at this ⊢
 exact this
theorem zki {de:List Int} (hd:Dig de) (h:trim (halves de)=[]):denI (val de)=1:=by
 have:=(zdz (zbk hd)).1 h
 rw[zbd] at this
 simp[denI,this]
theorem zkj {de:List Int} (hd:Dig de) (h:¬trim (halves de)=[]):denI (val de)=val de:=by
 have:¬val de=0:=fun e=>h ((zdz (zbk hd)).2 (by rw[zbd];exact e))
 simp[denI,this]
abbrev SWx (w:World) (g:Bool) (q1:Option Addr) (l1:Nat) (c1:Nat) (p1:Option Addr) (m1:Nat) (e1:Nat):World->Prop:=fun z=>Below w.heap.size w z/\w.heap.size+2<=z.heap.size/\z.cell? ⟨w.heap.size,0,none⟩=some (.bool g)/\z.cell? ⟨w.heap.size,1,none⟩=some (.slice q1 l1 c1)/\z.cell? ⟨w.heap.size,2,none⟩=some (.slice p1 m1 e1)
theorem zfa {w:World} {g:Bool} {q1 p1:Option Addr} {l1 c1 m1 e1:Nat} {nu de:List Int} (h1:Sl w (.slice q1 l1 c1) nu) (h2:Sl w (.slice p1 m1 e1) de) (ln:nu.length<=34359738000) (ld:de.length<=34359738000):
  Calls Tryz.prog 106 #[.agg #[.bool g,.slice q1 l1 c1,.slice p1 m1 e1]] w fun e w'=>∃v,e=.returned v/\QAt w' v (mkG g (val nu) (denI (val de))) (mkN (val nu) (denI (val de))) (mkD (val nu) (denI (val de)))/\Below w.heap.size w w':=by
 have kw1:∀z,Below w.heap.size w z->Calls Tryz.prog 184 #[.slice q1 l1 c1] z fun e w'=>∃r,e=.returned r/\Sl16 w' r (trim (halves nu))/\Below z.heap.size z w':=fun z hz=>zdj (h1.below hz) (by omega)
 have kw2:∀z,Below w.heap.size w z->Calls Tryz.prog 184 #[.slice p1 m1 e1] z fun e w'=>∃r,e=.returned r/\Sl16 w' r (trim (halves de))/\Below z.heap.size z w':=fun z hz=>zdj (h2.below hz) (by omega)
 have lw1:(trim (halves nu)).length<=274877906000:=by have:=zf0 nu;omega
 have lw2:(trim (halves de)).length<=274877906000:=by have:=zf0 de;omega
 have hdn:trim (halves de)=[]->Hid (denI (val de)=1):=fun h=>zki h2.1 h
 have hds:¬trim (halves de)=[]->Hid (denI (val de)=val16 (trim (halves de))):=fun h=>by rw[zaq,zbd];exact zkj h2.1 h
 have hcn:=zal (halves de)
 generalize trim (halves de)=D at*
 have fW:Hid (Canon D):=hcn
 have hof:=fun z=>zbs z 1 (by omega) (by omega)
 obtain⟨dd,hu,hd⟩:=zlw
 clear h1 h2 hcn
 go_enter Tryz.func106,Tryz.ntmps106
 go_wp2_with fail
 have am:QNew ((w.alloc (.cells #[.bool g,.slice q1 l1 c1,.slice p1 m1 e1] 24)).alloc (.cells #[.bool false,.slice none 0 0,.slice none 0 0] 92)) (w.heap.size+1):=by
  have:=QNew.made (w.alloc (.cells #[.bool g,.slice q1 l1 c1,.slice p1 m1 e1] 24))
  simpa using this
 have hb0:Below w.heap.size w ((w.alloc (.cells #[.bool g,.slice q1 l1 c1,.slice p1 m1 e1] 24)).alloc (.cells #[.bool false,.slice none 0 0,.slice none 0 0] 92)):=zdg w _ _
 have hsz:((w.alloc (.cells #[.bool g,.slice q1 l1 c1,.slice p1 m1 e1] 24)).alloc (.cells #[.bool false,.slice none 0 0,.slice none 0 0] 92)).heap.size=w.heap.size+2:=by simp
 have x0:((w.alloc (.cells #[.bool g,.slice q1 l1 c1,.slice p1 m1 e1] 24)).alloc (.cells #[.bool false,.slice none 0 0,.slice none 0 0] 92)).cell? ⟨w.heap.size,0,none⟩=some (.bool g):=by simp
 have x1:((w.alloc (.cells #[.bool g,.slice q1 l1 c1,.slice p1 m1 e1] 24)).alloc (.cells #[.bool false,.slice none 0 0,.slice none 0 0] 92)).cell? ⟨w.heap.size,1,none⟩=some (.slice q1 l1 c1):=by simp
 have x2:((w.alloc (.cells #[.bool g,.slice q1 l1 c1,.slice p1 m1 e1] 24)).alloc (.cells #[.bool false,.slice none 0 0,.slice none 0 0] 92)).cell? ⟨w.heap.size,2,none⟩=some (.slice p1 m1 e1):=by simp
 generalize ((w.alloc (.cells #[.bool g,.slice q1 l1 c1,.slice p1 m1 e1] 24)).alloc (.cells #[.bool false,.slice none 0 0,.slice none 0 0] 92))=W0 at*
 have hS1:(SWx w g q1 l1 c1 p1 m1 e1) W0:=⟨hb0,by omega,x0,x1,x2⟩
 have tr:∀z z',(SWx w g q1 l1 c1 p1 m1 e1) z->Below z.heap.size z z'->(SWx w g q1 l1 c1 p1 m1 e1) z':=by
  rintro z z' ⟨a0,a1,a2,a3,a4⟩ hb
  have hs:=hb.size
  exact⟨a0.trans (hb.mono a0.size),by omega,(hb.cell (by show w.heap.size<_;omega)).trans a2,(hb.cell (by show w.heap.size<_;omega)).trans a3,(hb.cell (by show w.heap.size<_;omega)).trans a4⟩
 have ts:∀z j u,(SWx w g q1 l1 c1 p1 m1 e1) z->(SWx w g q1 l1 c1 p1 m1 e1) (z.setCell ⟨w.heap.size+1,j,none⟩ u):=by
  rintro z j u ⟨a0,a1,a2,a3,a4⟩
  exact⟨a0.setCell (by show _<=w.heap.size+1;omega) u,by simp;omega,(World.cell?_setCell_far _ _ _ _ (by simp)).trans a2,(World.cell?_setCell_far _ _ _ _ (by simp)).trans a3,(World.cell?_setCell_far _ _ _ _ (by simp)).trans a4⟩
 have tr':=zab tr
 have ts':=zab ts
 have bg:Hid (QNew W0 (w.heap.size+1)):=am
 have cI:Hid (Below w.heap.size w W0):=hb0
 have hJ:=zab hS1
 clear tr ts am hb0 hS1
 have kw2':=kw2 W0 cI.out
 clear kw2
 by_cases hD:D=[]
 ·subst hD
  have hd1:=hdn rfl
  clear hdn hds
  go_wp2_with (first
   | (go_at_call 184;with_reducible refine kw2'.mono ?_;rintro e w1 ⟨r1,rfl,hr1,hb1⟩
      obtain⟨qd,kd,rfl⟩:=hr1.form)
   | (go_at_call 64;with_reducible refine(hof _).mono ?_;rintro e w2 ⟨r2,ds,rfl,hz,hzc,hzv,hzl,hb2⟩))
  have dA:Hid (Below W0.heap.size W0 w2):=hb1.trans (hb2.mono hb1.size)
  have hS4:(SWx w g q1 l1 c1 p1 m1 e1) w2.drew:=by
   have:=tr'.out _ _ hJ.out dA.out
   exact⟨this.1.drew,this.2⟩
  have hdd:Hid (Sl16 w2 r2 ds/\Canon ds/\val16 ds=denI (val de)/\ds.length<=274877906000):=⟨hz,hzc,by rw[hd1.out,hzv],by omega⟩
  clear hz hzc hzv hzl hb2 hb1 hd1 hr1
  go_region_held3 (SWx w g q1 l1 c1 p1 m1 e1) (first | exact ts'.out _ _ _ (ts'.out _ _ _ (ts'.out _ _ _ hSd)) | exact hSd | exact hSb | exact hS4)
   (first
     | (go_at_call 184;with_reducible refine(kw1 _ ?_).mono ?_;exact hS4.1;rintro e wa ⟨ra,rfl,ha,hba⟩
        have hSb:=tr'.out _ _ hS4 hba
        have km:=zgg (g:=g) ha (hdd.out.1.below ((Below.refl w2.heap.size w2).drew.trans hba)) (zal _) hdd.out.2.1 lw1 hdd.out.2.2.2
        rw[zaq,zbd,hdd.out.2.2.1] at km)
     | (go_at_call 63;with_reducible refine km.mono ?_;rintro e wd ⟨rd,rfl,hq,hbd⟩
        have hSd:=tr'.out _ _ hSb hbd
        obtain⟨u1,u2,nsq,dsq,rfl,k2,k3,k4,k5,k6,k7⟩:=hq
        obtain⟨qn,kn,rfl⟩:=k2.form
        obtain⟨qd,kd,rfl⟩:=k5.form
        have eD:Below W0.heap.size W0 wd:=dA.out.trans (((Below.refl w2.heap.size w2).drew.trans (hba.trans (hbd.mono hba.size))).mono dA.out.size)
        obtain⟨hk,af⟩:=q_endN (N:=w.heap.size+1) (g:=mkG g (val nu) (denI (val de))) (by omega) bg.out cI.out eD k2 k3 k4 k5 k6 k7
        have hq9:=bg.out.below eD
        have f0:=hq9.c0
        have f1:=hq9.c1
        have f2:=hq9.c2
        have fr:=hq9.fr
        clear hq9))
  go_wp2_with fail
  refine bodyPost_ret (zaj rfl _ _ (w.heap.size+1) _ dd rfl af hu hd zdq) rfl ?_
  exact⟨_,rfl,hk.out.1,hk.out.2⟩
 ·have hd1:=hds hD
  have hDl:¬(D.length:Int)=0:=by have:=List.length_pos_iff.2 hD;omega
  clear hdn hds
  go_wp2_with (go_at_call 184;with_reducible refine kw2'.mono ?_;rintro e w2 ⟨r2,rfl,hr1,hb1⟩
               have hr1':Hid (Sl16 w2 r2 D):=hr1
               obtain⟨qd,kd,rfl⟩:=hr1.form)
  have dA:Hid (Below W0.heap.size W0 w2):=hb1
  have hS4:(SWx w g q1 l1 c1 p1 m1 e1) w2.drew:=by
   have:=tr'.out _ _ hJ.out dA.out
   exact⟨this.1.drew,this.2⟩
  have hdd:Hid (Sl16 w2 (.slice qd D.length kd) D/\Canon D/\val16 D=denI (val de)/\D.length<=274877906000):=⟨hr1,fW.out,by rw[hd1.out],lw2⟩
  clear hb1 hd1 hr1
  go_region_held3 (SWx w g q1 l1 c1 p1 m1 e1) (first | exact ts'.out _ _ _ (ts'.out _ _ _ (ts'.out _ _ _ hSd)) | exact hSd | exact hSb | exact hS4)
   (first
     | (go_at_call 184;with_reducible refine(kw1 _ ?_).mono ?_;exact hS4.1;rintro e wa ⟨ra,rfl,ha,hba⟩
        have hSb:=tr'.out _ _ hS4 hba
        have km:=zgg (g:=g) ha (hdd.out.1.below ((Below.refl w2.heap.size w2).drew.trans hba)) (zal _) hdd.out.2.1 lw1 hdd.out.2.2.2
        rw[zaq,zbd,hdd.out.2.2.1] at km)
     | (go_at_call 63;with_reducible refine km.mono ?_;rintro e wd ⟨rd,rfl,hq,hbd⟩
        have hSd:=tr'.out _ _ hSb hbd
        obtain⟨u1,u2,nsq,dsq,rfl,k2,k3,k4,k5,k6,k7⟩:=hq
        obtain⟨qn,kn,rfl⟩:=k2.form
        obtain⟨qd,kd,rfl⟩:=k5.form
        have eD:Below W0.heap.size W0 wd:=dA.out.trans (((Below.refl w2.heap.size w2).drew.trans (hba.trans (hbd.mono hba.size))).mono dA.out.size)
        obtain⟨hk,af⟩:=q_endN (N:=w.heap.size+1) (g:=mkG g (val nu) (denI (val de))) (by omega) bg.out cI.out eD k2 k3 k4 k5 k6 k7
        have hq9:=bg.out.below eD
        have f0:=hq9.c0
        have f1:=hq9.c1
        have f2:=hq9.c2
        have fr:=hq9.fr
        clear hq9))
  go_wp2_with fail
  refine bodyPost_ret (zaj rfl _ _ (w.heap.size+1) _ dd rfl af hu hd zdq) rfl ?_
  exact⟨_,rfl,hk.out.1,hk.out.2⟩
theorem zat (l:List Int) (k:Nat):val (l.take (k+1))=val (l.take k)+l.getD k 0*4294967296^k:=by
 by_cases h:k<l.length
 ·exact zf5 l k h
 ·have h0:l.getD k 0=0:=by simp[List.getD,List.getElem?_eq_none (by omega:l.length<=k)]
  rw[List.take_of_length_le (by omega),List.take_of_length_le (by omega),h0]
  omega
theorem za4:∀{xs:List Int},Dig xs->val xs<4294967296^xs.length
 | [],_=>by simp[val]
 | x::xs,h=>by
  have h0:=h 0
  have h1:=za4 (zcr h)
  have h2:val (x::xs)=x+4294967296*val xs:=rfl
  rw[h2,List.length_cons,Int.pow_succ]
  simp only[List.getD_cons_zero] at h0
  omega
theorem zfb {l:List Int} (h:Dig l) {d:Int} (hd:0<=d/\d<=4294967295):Dig (l++[d]):=fun j=>by
 by_cases hj:j<l.length
 ·have:=h j
  rwa [show (l++[d]).getD j 0=l.getD j 0 by simp[List.getD,List.getElem?_append_left hj]]
 ·by_cases hj2:j=l.length
  ·subst hj2
   simpa [List.getD] using hd
  ·have:(l++[d]).getD j 0=0:=by
    simp only[List.getD]
    rw[List.getElem?_eq_none (by simp;omega)]
    rfl
   rw[this]
   omega
theorem zfc (l:List Int) (d:Int):val (l++[d])=val l+d*4294967296^l.length:=by
 rw[za5]
 have:val [d]=d:=by simp[val]
 rw[this,Int.mul_comm]
theorem zao {xs:List Int} (h:Dig xs) (k:Nat):Dig (xs.take k):=fun j=>by
 have:=h j
 simp only[List.getD,List.getElem?_take] at this ⊢
 split
 ·exact this
 ·simp
theorem zbg {xs:List Int} (h:Dig xs) (k:Nat):Dig (xs.drop k):=fun j=>by
 have:=h (k+j)
 simpa [List.getD,List.getElem?_drop] using this
theorem zav (k:Nat):(0:Int)<4294967296^k:=Int.pow_pos (by decide)
theorem zcq {us:List Int} {m:Nat} (h:us.length=m+2):val us=val (us.take m)+(us.getD (m+1) 0*4294967296+us.getD m 0)*4294967296^m:=by
 have h1:=zat us m
 have h2:=zat us (m+1)
 rw[List.take_of_length_le (by omega:us.length<=m+1+1),h1,Int.pow_succ] at h2
 rw[h2,Int.add_mul,Int.mul_assoc,Int.mul_comm (4294967296^m) 4294967296]
 omega
theorem zbb {vs:List Int} {m:Nat} (h:vs.length=m+1):val vs=val (vs.take m)+vs.getD m 0*4294967296^m:=by
 have h1:=zat vs m
 rwa [List.take_of_length_le (by omega:vs.length<=m+1)] at h1
theorem zmt {us vs:List Int} {m:Nat} (du:Dig us) (dv:Dig vs) (hu:us.length=m+2) (hv:vs.length=m+1) (ht:0<vs.getD m 0):
  val us / val vs<=(us.getD (m+1) 0*4294967296+us.getD m 0) / vs.getD m 0:=by
 have e1:=zcq hu
 have e2:=zbb hv
 have l1:=za4 (zao du m)
 have l2:=zae (zao dv m)
 rw[List.length_take,Nat.min_eq_left (by omega)] at l1
 have hp:=zav m
 generalize us.getD (m+1) 0*4294967296+us.getD m 0=top at*
 generalize vs.getD m 0=vt at*
 generalize (4294967296:Int)^m=p at*
 have hvp:0<vt*p:=Int.mul_pos ht hp
 have hd:top<(top / vt+1)*vt:=by
  have:=Int.emod_add_mul_ediv top vt
  have:=Int.emod_lt_of_pos top ht
  rw[Int.add_mul,Int.one_mul,Int.mul_comm (top / vt)]
  omega
 generalize top / vt=g at*
 have h3:(top+1)*p<=(g+1)*vt*p:=Int.mul_le_mul_of_nonneg_right (by omega) (by omega)
 rw[Int.add_mul top 1 p,Int.one_mul] at h3
 have hg:0<=g+1\/g+1<0:=by omega
 have h4:val us<(g+1)*val vs:=by
  rw[e2,Int.mul_add]
  have h5:0<=(g+1)*val (vs.take m):=by
   rcases hg with hg | hg
   ·exact Int.mul_nonneg hg l2
   ·exfalso
    have h7:(g+1)*vt<0:=Int.mul_neg_of_neg_of_pos hg ht
    have h8:(g+1)*vt*p<0:=Int.mul_neg_of_neg_of_pos h7 hp
    have h9:=zae du
    have h10:=zae (zao du m)
    have d1:=du (m+1)
    have d2:=du m
    omega
  rw[Int.mul_assoc] at h3
  omega
 have:=Int.ediv_lt_of_lt_mul (by omega:0<val vs) h4
 omega
theorem zf1 {xs ys:List Int} {k:Nat} (hl:xs.length=ys.length) (dx:Dig xs) (dy:Dig ys) (hk:k<xs.length) (h:xs.getD k 0<ys.getD k 0) (hag:∀j,k+1<=j->j<xs.length->xs.getD j 0=ys.getD j 0):val xs<val ys:=by
 have key:∀m,k+1+m<=xs.length->val (xs.take (k+1+m))<val (ys.take (k+1+m)):=by
  intro m
  induction m with
  | zero=>
   intro _
   have dt:∀l:List Int,Dig l->Dig (l.take k):=fun l hd j=>by
    have:=hd j
    simp only[List.getD,List.getElem?_take]
    split
    ·exact this
    ·simp
   have h1:=za4 (dt xs dx)
   have h2:=zae (dt ys dy)
   rw[Nat.add_zero,zat,zat]
   rw[List.length_take,Nat.min_eq_left (by omega)] at h1
   generalize (4294967296:Int)^k=p at*
   have h3:(xs.getD k 0+1)*p<=ys.getD k 0*p:=Int.mul_le_mul_of_nonneg_right (by omega) (by have:=zae (dt xs dx);omega)
   rw[Int.add_mul,Int.one_mul] at h3
   omega
  | succ m ih=>
   intro hm
   have h1:=ih (by omega)
   rw[<-Nat.add_assoc,zat,zat,hag (k+1+m) (by omega) (by omega)]
   omega
 have:=key (xs.length - (k+1)) (by omega)
 rwa [show k+1+(xs.length - (k+1))=xs.length by omega,List.take_length,hl,List.take_length] at this
theorem zc8 {xs ys:List Int} (dx:Dig xs) (dy:Dig ys) (cy:Canon ys) (hl:xs.length<ys.length):val xs<val ys:=by
 obtain⟨m,hm⟩:∃m,ys.length=m+1:=⟨ys.length - 1,by omega⟩
 have h0:=cy m hm
 have h1:=dy m
 have hv:=zat ys m
 rw[<-hm,List.take_length] at hv
 have dt:Dig (ys.take m):=fun j=>by
  have:=dy j
  simp only[List.getD,List.getElem?_take]
  split
  ·exact this
  ·simp
 have h2:=zae dt
 have h3:=za4 dx
 obtain⟨d,hd⟩:∃d,m=xs.length+d:=⟨m - xs.length,by omega⟩
 have h4:(4294967296:Int)^xs.length<=4294967296^m:=by
  rw[hd,Int.pow_add]
  have a1:(0:Int)<4294967296^d:=Int.pow_pos (by decide)
  have a2:(0:Int)<4294967296^xs.length:=Int.pow_pos (by decide)
  have:=Int.mul_le_mul_of_nonneg_left (by omega:(1:Int)<=4294967296^d) (by omega:(0:Int)<=4294967296^xs.length)
  rwa [Int.mul_one] at this
 have h5:(1:Int)*4294967296^m<=ys.getD m 0*4294967296^m:=Int.mul_le_mul_of_nonneg_right (by omega) (by have:(0:Int)<4294967296^m:=Int.pow_pos (by decide);omega)
 rw[Int.one_mul] at h5
 omega
theorem zc9 {a b:List Int} (ha:Dig a) (hb:Dig b):Dig (a++b):=fun j=>by
 by_cases h:j<a.length
 ·have:=ha j
  rwa [show (a++b).getD j 0=a.getD j 0 by simp[List.getD,List.getElem?_append_left h]]
 ·have:=hb (j - a.length)
  rwa [show (a++b).getD j 0=b.getD (j - a.length) 0 by simp[List.getD,List.getElem?_append_right (by omega:a.length<=j)]]
theorem zeb {a b:Nat} (h:a<=b):(4294967296:Int)^a<=4294967296^b:=by
 obtain⟨d,rfl⟩:∃d,b=a+d:=⟨b - a,by omega⟩
 rw[Int.pow_add]
 have:=Int.mul_le_mul_of_nonneg_left (by have:=zav d;omega:(1:Int)<=4294967296^d) (by have:=zav a;omega:(0:Int)<=4294967296^a)
 rwa [Int.mul_one] at this
theorem zbc {xs ys:List Int} (dx:Dig xs) (dy:Dig ys) (cx:Canon xs) (h:val xs<=val ys):xs.length<=ys.length:=by
 rcases Nat.lt_or_ge ys.length xs.length with h1 | h1
 ·have:=zc8 dy dx cx h1
  omega
 ·exact h1
theorem zhq {xs:List Int} {k:Nat} (dx:Dig xs) (cx:Canon xs) (h1:xs.length=k+1):4294967296^k<=val xs:=by
 have h2:=cx k h1
 have h3:=dx k
 have h4:=zbb h1
 have h5:=zae (zao dx k)
 have h6:=Int.mul_le_mul_of_nonneg_right (by omega:1<=xs.getD k 0) (by have:=zav k;omega:(0:Int)<=4294967296^k)
 omega
theorem zf2 {xs:List Int} {k:Nat} (dx:Dig xs) (cx:Canon xs) (h:val xs<4294967296^k):xs.length<=k:=by
 rcases Nat.lt_or_ge k xs.length with h1 | h1
 ·obtain⟨m,hm⟩:∃m,xs.length=m+1:=⟨xs.length - 1,by omega⟩
  have h2:=zhq dx cx hm
  have h3:=zeb (by omega:k<=m)
  omega
 ·exact h1
theorem zcb:∀(xs:List Int) (k:Nat),k<xs.length->val (xs.drop k)=xs.getD k 0+4294967296*val (xs.drop (k+1))
 | [],k,h=>by simp at h
 | x::l,0,h=>by simp[val]
 | x::l,k+1,h=>by
  have:=zcb l k (by simpa using h)
  simpa using this
structure Smb (xs:List Int) (B:Int) (k:Nat) (os:List Int) (r:Int):Prop where
 len:os.length=xs.length
 dig:Dig os
 r0:0<=r/\r<B
 eq:val (xs.drop k)=B*val (os.drop k)+r
theorem Smb.zero (xs:List Int) {B:Int} (hB:0<B):Smb xs B xs.length (List.replicate xs.length 0) 0:=by
 refine⟨by simp,fun j=>?_,⟨by decide,hB⟩,?_⟩
 ·have:(List.replicate xs.length (0:Int)).getD j 0=0:=by
   simp only[List.getD_eq_getElem?_getD,List.getElem?_replicate]
   split<;>rfl
  rw[this]
  omega
 ·rw[List.drop_length,List.drop_of_length_le (by simp)]
  simp[val]
theorem Smb.step {xs os:List Int} {B r S:Int} {k:Nat} (h:Smb xs B (k+1) os r) (hk:k<xs.length) (dx:Dig xs) (hS:S=r*4294967296+xs.getD k 0):Smb xs B k (os.set k (S / B)) (S % B):=by
 have hr:=h.r0
 have hB:0<B:=by omega
 have hx:=dx k
 have hS0:0<=S:=by omega
 have hd0:=Int.ediv_nonneg hS0 (by omega:0<=B)
 have hd1:S / B<4294967296:=Int.ediv_lt_of_lt_mul hB (by omega)
 refine⟨by simp[h.len],zdy h.dig (by omega),⟨Int.emod_nonneg _ (by omega),Int.emod_lt_of_pos _ hB⟩,?_⟩
 have hdm:=Int.emod_add_mul_ediv S B
 have he:=h.eq
 rw[zcb xs k hk,zcb (os.set k (S / B)) k (by simp[h.len,hk]),za3 (by rw[h.len];exact hk),zcg,he,Int.mul_add,Int.mul_add,<-Int.mul_assoc,<-Int.mul_assoc,Int.mul_comm 4294967296 B]
 omega
structure Dvb (u0 vs:List Int) (k:Nat) (us q:List Int):Prop where
 len:us.length=u0.length
 dig:Dig us
 qlen:q.length+vs.length=u0.length
 qdig:Dig q
 qz:∀i,i<k->q.getD i 0=0
 eq:val us+val vs*val q=val u0
 top:val (us.drop k)<val vs
theorem Dvb.window {u0 vs us q:List Int} {k:Nat} (h:Dvb u0 vs (k+1) us q) (hk:k<q.length) (dv:Dig vs):
  val us=val (us.take k)+4294967296^k*val ((us.drop k).take (vs.length+1))/\val (us.drop (k+(vs.length+1)))=0/\val ((us.drop k).take (vs.length+1))<val vs*4294967296:=by
 have hq:=h.qlen
 have hl:=h.len
 have h1:=zcb us k (by omega)
 have h2:=(h.dig k)
 have h3:=h.top
 have dp:us.drop k=(us.drop k).take (vs.length+1)++us.drop (k+(vs.length+1)):=by
  rw[<-List.drop_drop]
  exact(List.take_append_drop _ _).symm
 have hw:((us.drop k).take (vs.length+1)).length=vs.length+1:=by rw[List.length_take,List.length_drop];omega
 have h4:val (us.drop k)=val ((us.drop k).take (vs.length+1))+4294967296^(vs.length+1)*val (us.drop (k+(vs.length+1))):=by
  conv=>lhs;rw[dp]
  rw[za5,hw]
 have c0:=zae (zbg h.dig (k+(vs.length+1)))
 have w0:=zae (zao (zbg h.dig k) (vs.length+1))
 have hv:=za4 dv
 have hz:val (us.drop (k+(vs.length+1)))=0:=by
  refine zch (zav (vs.length+1)) c0 (v:=val (us.drop k)) (by omega) ?_
  rw[Int.pow_succ]
  omega
 have h5:val us=val (us.take k)+4294967296^k*val (us.drop k):=by
  conv=>lhs;rw[<-List.take_append_drop k us]
  rw[za5,List.length_take,Nat.min_eq_left (by omega)]
 rw[hz,Int.mul_zero,Int.add_zero] at h4
 exact⟨by rw[h5,h4],hz,by omega⟩
theorem Dvb.step {u0 vs us q W:List Int} {k:Nat} (h:Dvb u0 vs (k+1) us q) (hk:k<q.length) (dv:Dig vs) (hv:0<val vs) (hW:W.length=vs.length+1) (dW:Dig W)
  (cK:val W=val ((us.drop k).take (vs.length+1)) % val vs):
  Dvb u0 vs k (us.take k++W++us.drop (k+(vs.length+1))) (q.set k (val ((us.drop k).take (vs.length+1)) / val vs)):=by
 obtain⟨h1,h2,h3⟩:=h.window hk dv
 have hq:=h.qlen
 have hl:=h.len
 have w0:=zae (zao (zbg h.dig k) (vs.length+1))
 generalize hX:val ((us.drop k).take (vs.length+1))=X at*
 have hd0:0<=X / val vs:=Int.ediv_nonneg w0 (by omega)
 have hd1:X / val vs<4294967296:=Int.ediv_lt_of_lt_mul hv (by rwa [Int.mul_comm] at h3)
 have hdm:=Int.emod_add_mul_ediv X (val vs)
 have hml:=Int.emod_lt_of_pos X hv
 have htl:(us.take k).length=k:=by rw[List.length_take,Nat.min_eq_left (by omega)]
 have hqs:=zkw q k (X / val vs) hk
 rw[h.qz k (by omega),Int.sub_zero] at hqs
 refine⟨?_,zc9 (zc9 (zao h.dig k) dW) (zbg h.dig _),by simpa using hq,zdy h.qdig ⟨hd0,by omega⟩,fun i hi=>?_,?_,?_⟩
 ·rw[List.length_append,List.length_append,htl,hW,List.length_drop]
  omega
 ·rw[getD_set_ne (by omega)]
  exact h.qz i (by omega)
 ·have he:=h.eq
  rw[List.append_assoc,za5,za5,h2,Int.mul_zero,Int.add_zero,htl,cK,hqs,<-he,h1,Int.mul_add]
  have e1:4294967296^k*X=4294967296^k*(X % val vs)+val vs*(X / val vs*4294967296^k):=by
   have:val vs*(X / val vs*4294967296^k)=4294967296^k*(val vs*(X / val vs)):=by
    rw[<-Int.mul_assoc,Int.mul_comm]
   rw[this,<-Int.mul_add,hdm]
  omega
 ·rw[List.append_assoc,List.drop_append_of_le_length (by omega),List.drop_of_length_le (by omega),List.nil_append,za5,h2,Int.mul_zero,Int.add_zero,cK]
  exact hml
theorem Dvb.zero {u0 vs:List Int} {Lq:Nat} (hL:Lq+vs.length=u0.length) (du:Dig u0) (ht:val (u0.drop Lq)<val vs):Dvb u0 vs Lq u0 (List.replicate Lq 0):=by
 have hg:∀j,(List.replicate Lq (0:Int)).getD j 0=0:=fun j=>by
  simp only[List.getD_eq_getElem?_getD,List.getElem?_replicate]
  split<;>rfl
 refine⟨rfl,du,by simpa using hL,fun j=>by rw[hg];omega,fun i _=>hg i,?_,ht⟩
 have hv:∀n:Nat,val (List.replicate n 0)=0:=by
  intro n
  induction n with
  | zero=>rfl
  | succ n ih=>simp[List.replicate_succ,val,ih]
 rw[hv,Int.mul_zero,Int.add_zero]
theorem Dvb.done {u0 vs us q:List Int} (h:Dvb u0 vs 0 us q) (hv:0<val vs) (dv:Dig vs) (hl:vs.length<=us.length):val q=val u0 / val vs/\val (us.take vs.length)=val u0 % val vs:=by
 have ht:=h.top
 have he:=h.eq
 rw[List.drop_zero] at ht
 have h0:=zae h.dig
 have hs:val us=val (us.take vs.length)+4294967296^vs.length*val (us.drop vs.length):=by
  conv=>lhs;rw[<-List.take_append_drop vs.length us]
  rw[za5,List.length_take,Nat.min_eq_left hl]
 have hz:val (us.drop vs.length)=0:=by
  refine zch (zav vs.length) (zae (zbg h.dig _)) (v:=val us) ?_ ?_
  ·have:=zae (zao h.dig vs.length)
   omega
  ·have:=za4 dv
   omega
 rw[hz,Int.mul_zero,Int.add_zero] at hs
 rw[<-he,<-hs]
 refine⟨?_,?_⟩
 ·rw[Int.add_mul_ediv_left _ _ (by omega),Int.ediv_eq_zero_of_lt h0 ht,Int.zero_add]
 ·rw[Int.add_mul_emod_self_left,Int.emod_eq_of_lt h0 ht]
structure Shb (xs:List Int) (s k:Nat) (out:List Int) (cy:Int):Prop where
 len:out.length=k
 dig:Dig out
 c:0<=cy/\cy<2^s
 eq:val out+cy*4294967296^k=val (xs.take k)*2^s
theorem Shb.zero (xs:List Int) (s:Nat):Shb xs s 0 [] 0:=⟨rfl,fun j=>by simp[List.getD],⟨by decide,zar s⟩,by simp[val]⟩
theorem Shb.step {xs out:List Int} {s k:Nat} {cy S:Int} (h:Shb xs s k out cy) (dx:Dig xs) (hS:S=xs.getD k 0*2^s+cy):Shb xs s (k+1) (out++[S % 4294967296]) (S / 4294967296):=by
 have hd:=dx k
 have hc:=h.c
 have hp:=zar s
 have h0:0<=xs.getD k 0*2^s:=Int.mul_nonneg hd.1 (by omega)
 have h1:xs.getD k 0*2^s<=4294967295*2^s:=Int.mul_le_mul_of_nonneg_right hd.2 (by omega)
 refine⟨by simp[h.len],zfb h.dig (by omega),by omega,?_⟩
 have he:=h.eq
 rw[zfc,zat,h.len,Int.pow_succ,Int.add_mul]
 have e:S*4294967296^k=S % 4294967296*4294967296^k+S / 4294967296*(4294967296^k*4294967296):=by
  have h1:S=S % 4294967296+4294967296*(S / 4294967296):=by omega
  generalize (4294967296:Int)^k=p
  calc S*p=(S % 4294967296+4294967296*(S / 4294967296))*p:=by rw[<-h1]
   _=_:=by rw[Int.add_mul,Int.mul_comm 4294967296,Int.mul_assoc,Int.mul_comm 4294967296 p]
 have e2:S*4294967296^k=xs.getD k 0*4294967296^k*2^s+cy*4294967296^k:=by
  rw[hS,Int.add_mul,Int.mul_assoc,Int.mul_comm (2^s),<-Int.mul_assoc]
 omega
def srdb (x y:Int) (s:Nat):Int:=(x+y*4294967296) / 2^s % 4294967296
theorem srdb_eq {x y:Int} {s:Nat} (hx:0<=x/\x<=4294967295) (_hy:0<=y/\y<=4294967295) (hs:s<=31):srdb x y s*2^s=x - x % 2^s+y % 2^s*4294967296:=by
 unfold srdb
 rcases (by omega:s=0\/s=1\/s=2\/s=3\/s=4\/s=5\/s=6\/s=7\/s=8\/s=9\/s=10\/s=11\/s=12\/s=13\/s=14\/s=15\/s=16\/s=17\/s=18\/s=19\/s=20\/s=21\/s=22\/s=23\/s=24\/s=25\/s=26\/s=27\/s=28\/s=29\/s=30\/s=31) with rfl | rfl | rfl | rfl | rfl | rfl | rfl | rfl | rfl | rfl | rfl | rfl | rfl | rfl | rfl | rfl | rfl | rfl | rfl | rfl | rfl | rfl | rfl | rfl | rfl | rfl | rfl | rfl | rfl | rfl | rfl | rfl<;>omega
structure Srb (xs:List Int) (s k:Nat) (out:List Int):Prop where
 len:out.length=k
 dig:Dig out
 eq:val out*2^s=val (xs.take k) - xs.getD 0 0 % 2^s+xs.getD k 0 % 2^s*4294967296^k
theorem Srb.zero (xs:List Int) (s:Nat):Srb xs s 0 []:=⟨rfl,fun j=>by simp[List.getD],by simp[val];exact(Int.add_left_neg _).symm⟩
theorem Srb.step {xs out:List Int} {s k:Nat} (h:Srb xs s k out) (dx:Dig xs) (hs:s<=31):Srb xs s (k+1) (out++[srdb (xs.getD k 0) (xs.getD (k+1) 0) s]):=by
 have he:=h.eq
 have h1:=srdb_eq (dx k) (dx (k+1)) hs
 refine⟨by simp[h.len],zfb h.dig (by unfold srdb;omega),?_⟩
 rw[zfc,zat,h.len,Int.pow_succ,Int.add_mul,he,Int.mul_assoc,Int.mul_comm (4294967296^k) (2^s),<-Int.mul_assoc,h1,Int.add_mul,Int.sub_mul]
 have e:xs.getD (k+1) 0 % 2^s*4294967296*4294967296^k=xs.getD (k+1) 0 % 2^s*(4294967296^k*4294967296):=by rw[Int.mul_assoc,Int.mul_comm 4294967296]
 omega
theorem Srb.done {xs out:List Int} {s:Nat} (h:Srb xs s xs.length out) (dx:Dig xs) (hs:s<=31):val out=val xs / 2^s:=by
 have he:=h.eq
 have hz:xs.getD xs.length 0=0:=by simp[List.getD]
 rw[List.take_length,hz,Int.zero_emod,Int.zero_mul,Int.add_zero] at he
 have hp:=zar s
 have h2:val xs % 2^s=xs.getD 0 0 % 2^s:=by
  match xs with
  | []=>rfl
  | x::r=>
   show(x+4294967296*val r) % 2^s=x % 2^s
   obtain⟨d,hd⟩:∃d,32=s+d:=⟨32 - s,by omega⟩
   have:(4294967296:Int)=2^s*2^d:=by rw[<-Int.pow_add,<-hd];decide
   rw[this,Int.mul_assoc,Int.add_mul_emod_self_left]
 rw[<-h2] at he
 have h3:=Int.emod_add_mul_ediv (val xs) (2^s)
 have h4:val out*2^s=val xs / 2^s*2^s:=by rw[he,Int.mul_comm (val xs / 2^s)];omega
 exact Int.eq_of_mul_eq_mul_right (by omega) h4
end Go.Proofs.YtnnhofmknilopaaGreatDoor
