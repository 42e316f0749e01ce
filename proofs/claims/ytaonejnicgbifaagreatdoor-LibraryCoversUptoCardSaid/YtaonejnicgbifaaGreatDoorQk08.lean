import Derived.Test.YtaonejnicgbifaaGreatDoorQk07
namespace Go.Proofs.YtaonejnicgbifaaGreatDoor
open Go Go.RowKit
set_option maxRecDepth 100000
set_option maxHeartbeats 16000000
theorem zhp {xs ys zs:List Int} (dx:Dig16 xs) (dy:Dig16 ys) (dz:Dig16 zs) (cz:Canon zs) (hv:val16 zs=val16 xs*val16 ys):zs.length<=xs.length+ys.length:=by
 refine zb5 dz cz ?_
 have h1:=za2 dx
 have h2:=za2 dy
 have h3:=zag dx
 have h4:=zag dy
 rw[hv,Int.pow_add]
 have h5:val16 xs*val16 ys<=val16 xs*65536^ys.length:=Int.mul_le_mul_of_nonneg_left (by omega) h3
 have h6:val16 xs*65536^ys.length<65536^xs.length*65536^ys.length:=Int.mul_lt_mul_of_pos_right h1 (zav _)
 omega
abbrev SWv (w:World) (g1:Bool) (q1:Option Addr) (l1:Nat) (c1:Nat) (p1:Option Addr) (m1:Nat) (e1:Nat) (g2:Bool) (q2:Option Addr) (l2:Nat) (c2:Nat) (p2:Option Addr) (m2:Nat) (e2:Nat):World->Prop:=fun z=>Below w.heap.size w z/\w.heap.size+3<=z.heap.size/\z.cell? ⟨w.heap.size,0,none⟩=some (.bool g1)/\z.cell? ⟨w.heap.size,1,none⟩=some (.slice q1 l1 c1)/\z.cell? ⟨w.heap.size,2,none⟩=some (.slice p1 m1 e1)/\z.cell? ⟨w.heap.size+1,0,none⟩=some (.bool g2)/\z.cell? ⟨w.heap.size+1,1,none⟩=some (.slice q2 l2 c2)/\z.cell? ⟨w.heap.size+1,2,none⟩=some (.slice p2 m2 e2)
theorem sum_walk {w:World} {g1 g2:Bool} {q1 p1 q2 p2:Option Addr} {l1 c1 m1 e1 l2 c2 m2 e2:Nat} {ns1 ds1 ns2 ds2:List Int} {L:Nat} (hL:L<=68719476000)
  (hn1:Sl16 w (.slice q1 l1 c1) ns1) (hd1:Sl16 w (.slice p1 m1 e1) ds1) (hn2:Sl16 w (.slice q2 l2 c2) ns2) (hd2:Sl16 w (.slice p2 m2 e2) ds2) (cd1:Canon ds1) (cd2:Canon ds2)
  (b1:ns1.length<=L) (b2:ds1.length<=L) (b3:ns2.length<=L) (b4:ds2.length<=L):
  Calls Tryz.prog 95 #[.agg (qA g1 q1 l1 c1 p1 m1 e1),.agg (qA g2 q2 l2 c2 p2 m2 e2)] w fun e w'=>∃v g m,e=.returned v/\QAt w' v (mkG g m (val16 (denOf ds1)*val16 (denOf ds2))) (mkN m (val16 (denOf ds1)*val16 (denOf ds2))) (mkD m (val16 (denOf ds1)*val16 (denOf ds2)))/\
   0<=m/\sg g*m=sg g1*(val16 ns1*val16 (denOf ds2))+sg g2*(val16 ns2*val16 (denOf ds1))/\Below w.heap.size w w':=by
 have kd1:∀z,Below w.heap.size w z->Calls Tryz.prog 124 #[.agg (qA g1 q1 l1 c1 p1 m1 e1)] z fun e w'=>∃r,e=.returned r/\Sl16 w' r (denOf ds1)/\Below z.heap.size z w':=fun z hz=>den_q (hd1.below hz)
 have kd2:∀z,Below w.heap.size w z->Calls Tryz.prog 124 #[.agg (qA g2 q2 l2 c2 p2 m2 e2)] z fun e w'=>∃r,e=.returned r/\Sl16 w' r (denOf ds2)/\Below z.heap.size z w':=fun z hz=>den_q (hd2.below hz)
 obtain⟨dd,hu,hd⟩:=zhj
 obtain⟨_,kc1,kg1,kl1,_⟩:=zdc hd1.1 cd1
 obtain⟨_,kc2,kg2,kl2,_⟩:=zdc hd2.1 cd2
 have iy:Hid (Sl16 w (.slice q1 l1 c1) ns1):=hn1
 have iz:Hid (Sl16 w (.slice q2 l2 c2) ns2):=hn2
 clear hn1 hn2 hd1 hd2 cd1 cd2
 generalize denOf ds1=D1 at*
 generalize denOf ds2=D2 at*
 have kc1':Hid (Canon D1/\Dig16 D1):=⟨kc1,kg1⟩
 have kc2':Hid (Canon D2/\Dig16 D2):=⟨kc2,kg2⟩
 clear kc1 kg1 kc2 kg2
 go_enter Tryz.func95,Tryz.ntmps95
 go_wp2_with fail
 have aF:QNew (((w.alloc (.cells (qA g1 q1 l1 c1 p1 m1 e1) 64)).alloc (.cells (qA g2 q2 l2 c2 p2 m2 e2) 64)).alloc (.cells zC 64)) (w.heap.size+1+1):=by
  have:=QNew.made ((w.alloc (.cells (qA g1 q1 l1 c1 p1 m1 e1) 64)).alloc (.cells (qA g2 q2 l2 c2 p2 m2 e2) 64))
  simpa using this
 have hb0:Below w.heap.size w (((w.alloc (.cells (qA g1 q1 l1 c1 p1 m1 e1) 64)).alloc (.cells (qA g2 q2 l2 c2 p2 m2 e2) 64)).alloc (.cells zC 64)):=(zah w _ _).alloc (by simp;omega) _
 have hsz:(((w.alloc (.cells (qA g1 q1 l1 c1 p1 m1 e1) 64)).alloc (.cells (qA g2 q2 l2 c2 p2 m2 e2) 64)).alloc (.cells zC 64)).heap.size=w.heap.size+3:=by simp
 have x0:(((w.alloc (.cells (qA g1 q1 l1 c1 p1 m1 e1) 64)).alloc (.cells (qA g2 q2 l2 c2 p2 m2 e2) 64)).alloc (.cells zC 64)).cell? ⟨w.heap.size,0,none⟩=some (.bool g1):=((zaa _ _).cell (by simp;try omega)).trans (by simp)
 have x1:(((w.alloc (.cells (qA g1 q1 l1 c1 p1 m1 e1) 64)).alloc (.cells (qA g2 q2 l2 c2 p2 m2 e2) 64)).alloc (.cells zC 64)).cell? ⟨w.heap.size,1,none⟩=some (.slice q1 l1 c1):=((zaa _ _).cell (by simp;try omega)).trans (by simp)
 have x2:(((w.alloc (.cells (qA g1 q1 l1 c1 p1 m1 e1) 64)).alloc (.cells (qA g2 q2 l2 c2 p2 m2 e2) 64)).alloc (.cells zC 64)).cell? ⟨w.heap.size,2,none⟩=some (.slice p1 m1 e1):=((zaa _ _).cell (by simp;try omega)).trans (by simp)
 have y0:(((w.alloc (.cells (qA g1 q1 l1 c1 p1 m1 e1) 64)).alloc (.cells (qA g2 q2 l2 c2 p2 m2 e2) 64)).alloc (.cells zC 64)).cell? ⟨w.heap.size+1,0,none⟩=some (.bool g2):=((zaa _ _).cell (by simp;try omega)).trans (by simp)
 have y1:(((w.alloc (.cells (qA g1 q1 l1 c1 p1 m1 e1) 64)).alloc (.cells (qA g2 q2 l2 c2 p2 m2 e2) 64)).alloc (.cells zC 64)).cell? ⟨w.heap.size+1,1,none⟩=some (.slice q2 l2 c2):=((zaa _ _).cell (by simp;try omega)).trans (by simp)
 have y2:(((w.alloc (.cells (qA g1 q1 l1 c1 p1 m1 e1) 64)).alloc (.cells (qA g2 q2 l2 c2 p2 m2 e2) 64)).alloc (.cells zC 64)).cell? ⟨w.heap.size+1,2,none⟩=some (.slice p2 m2 e2):=((zaa _ _).cell (by simp;try omega)).trans (by simp)
 generalize (((w.alloc (.cells (qA g1 q1 l1 c1 p1 m1 e1) 64)).alloc (.cells (qA g2 q2 l2 c2 p2 m2 e2) 64)).alloc (.cells zC 64))=W0 at*
 have hS1:(SWv w g1 q1 l1 c1 p1 m1 e1 g2 q2 l2 c2 p2 m2 e2) W0.drew:=⟨hb0.drew,by show _<=W0.heap.size;omega,x0,x1,x2,y0,y1,y2⟩
 have tr:∀z z',(SWv w g1 q1 l1 c1 p1 m1 e1 g2 q2 l2 c2 p2 m2 e2) z->Below z.heap.size z z'->(SWv w g1 q1 l1 c1 p1 m1 e1 g2 q2 l2 c2 p2 m2 e2) z':=by
  rintro z z' ⟨a0,a1,a2,a3,a4,a5,a6,a7⟩ hb
  have hs:=hb.size
  exact⟨a0.trans (hb.mono a0.size),by omega,(hb.cell (by show w.heap.size<_;omega)).trans a2,(hb.cell (by show w.heap.size<_;omega)).trans a3,(hb.cell (by show w.heap.size<_;omega)).trans a4,(hb.cell (by show w.heap.size+1<_;omega)).trans a5,(hb.cell (by show w.heap.size+1<_;omega)).trans a6,(hb.cell (by show w.heap.size+1<_;omega)).trans a7⟩
 have ts:∀z j u,(SWv w g1 q1 l1 c1 p1 m1 e1 g2 q2 l2 c2 p2 m2 e2) z->(SWv w g1 q1 l1 c1 p1 m1 e1 g2 q2 l2 c2 p2 m2 e2) (z.setCell ⟨w.heap.size+1+1,j,none⟩ u):=by
  rintro z j u ⟨a0,a1,a2,a3,a4,a5,a6,a7⟩
  exact⟨a0.setCell (by show _<=w.heap.size+1+1;omega) u,by simp;omega,(World.cell?_setCell_far _ _ _ _ (by simp;try omega)).trans a2,(World.cell?_setCell_far _ _ _ _ (by simp;try omega)).trans a3,(World.cell?_setCell_far _ _ _ _ (by simp;try omega)).trans a4,(World.cell?_setCell_far _ _ _ _ (by simp;try omega)).trans a5,(World.cell?_setCell_far _ _ _ _ (by simp;try omega)).trans a6,(World.cell?_setCell_far _ _ _ _ (by simp;try omega)).trans a7⟩
 have tr':=zac tr
 have ts':=zac ts
 clear tr ts x0 x1 x2 y0 y1 y2
 have hsd:W0.drew.heap.size=W0.heap.size:=rfl
 go_region_held3 (SWv w g1 q1 l1 c1 p1 m1 e1 g2 q2 l2 c2 p2 m2 e2) (first | exact hS5 | exact hS4 | exact hS3 | exact hS2 | exact hS1)
  (first
    | (go_at_call 124;with_reducible refine(kd2 _ ?_).mono ?_;exact hS1.1;rintro e w2 ⟨r2,rfl,h2,hb2⟩
       have hS2:=tr'.out _ _ hS1 hb2
       have kx:=zdp (iy.out.below hS2.1) h2 (by omega))
    | (go_at_call 123;with_reducible refine kx.mono ?_;rintro e w3 ⟨rx,xs,rfl,hx,cx,vx,hb3⟩
       have hS3:=tr'.out _ _ hS2 hb3)
    | (go_at_call 124;with_reducible refine(kd1 _ ?_).mono ?_;exact hS3.1;rintro e w4 ⟨r4,rfl,h4,hb4⟩
       have hS4:=tr'.out _ _ hS3 hb4
       have ky:=zdp (iz.out.below hS4.1) h4 (by omega))
    | (go_at_call 123;with_reducible refine ky.mono ?_;rintro e w5 ⟨ry,ys,rfl,hy,cy,vy,hb5⟩
       have hS5:=tr'.out _ _ hS4 hb5))
 have hbx:Below w3.heap.size w3 w5:=hb4.trans (hb5.mono hb4.size)
 have hx5:=hx.below hbx
 have lx:=zhp iy.out.1 kc2'.out.2 hx.1 cx vx
 have ly:=zhp iz.out.1 kc1'.out.2 hy.1 cy vy
 have iC:Below W0.heap.size W0 w5:=(Below.refl W0.heap.size W0).drew.trans (hb2.trans ((hb3.trans (hbx.mono hb3.size)).mono hb2.size))
 have hfx:Hid (Sl16 w5 rx xs/\Canon xs/\val16 xs=val16 ns1*val16 D2/\Sl16 w5 ry ys/\Canon ys/\val16 ys=val16 ns2*val16 D1/\Below W0.heap.size W0 w5):=⟨hx5,cx,vx,hy,cy,vy,iC⟩
 have hS6:(SWv w g1 q1 l1 c1 p1 m1 e1 g2 q2 l2 c2 p2 m2 e2) w5.drew:=⟨hS5.1.drew,hS5.2⟩
 clear hS1 hS2 hS3 hS4 hx cx vx hy cy vy hb2 hb3 hb4 hb5 hbx hx5 iC kx ky h2 h4
 go_wp2_with fail
 go_region_held3 (SWv w g1 q1 l1 c1 p1 m1 e1 g2 q2 l2 c2 p2 m2 e2) (first | exact hS9 | exact hS8 | exact hS7 | exact hS6)
  (first
    | (go_at_call 124;with_reducible refine(kd1 _ ?_).mono ?_;exact hS6.1;rintro e w7 ⟨r7,rfl,h7,hb7⟩
       have hS7:=tr'.out _ _ hS6 hb7)
    | (go_at_call 124;with_reducible refine(kd2 _ ?_).mono ?_;exact hS7.1;rintro e w8 ⟨r8,rfl,h8,hb8⟩
       have hS8:=tr'.out _ _ hS7 hb8
       have kz:=zdp (h7.below hb8) h8 (by omega))
    | (go_at_call 123;with_reducible refine kz.mono ?_;rintro e w9 ⟨rz,zs,rfl,hz,cz,vz,hb9⟩
       have hS9:=tr'.out _ _ hS8 hb9))
 have fp:Below w5.heap.size w5 w9:=(Below.refl w5.heap.size w5).drew.trans (hb7.trans ((hb8.trans (hb9.mono hb8.size)).mono hb7.size))
 have lz:=zhp kc1'.out.2 kc2'.out.2 hz.1 cz vz
 have hx9:Hid (Sl16 w9 rx xs):=hfx.out.1.below fp
 have hy9:Hid (Sl16 w9 ry ys):=hfx.out.2.2.2.1.below fp
 have hz9:Hid (Sl16 w9 rz zs/\Canon zs/\val16 zs=val16 D1*val16 D2):=⟨hz,cz,vz⟩
 have ed:Hid (Below W0.heap.size W0 w9):=hfx.out.2.2.2.2.2.2.trans (fp.mono hfx.out.2.2.2.2.2.2.size)
 have aR:Hid (QNew W0 (w.heap.size+1+1)):=aF
 have aQ:Hid (Below w.heap.size w W0):=hb0
 have fq:Hid ((SWv w g1 q1 l1 c1 p1 m1 e1 g2 q2 l2 c2 p2 m2 e2) w9):=hS9
 obtain⟨_,z1,z2,z3,z4,z5,z6,z7⟩:=hS9
 clear hS5 hS6 hS7 hS8 hz cz vz hb7 hb8 hb9 kz h7 h8 fp aF hb0 kd1 kd2
 by_cases hgg:g1=g2
 ·have gz:(g1==g2)=true:=by simp[hgg]
  have jS:Hid (g1=g2):=hgg
  clear hgg
  go_wp2_with fail
  have hSa:(SWv w g1 q1 l1 c1 p1 m1 e1 g2 q2 l2 c2 p2 m2 e2) w9.drew:=⟨fq.out.1.drew,fq.out.2⟩
  have ka:=zla (hx9.out.below (Below.refl w9.heap.size w9).drew) (hy9.out.below (Below.refl w9.heap.size w9).drew) hfx.out.2.1 hfx.out.2.2.2.2.1 (by omega) (by omega)
  go_region_held3 (SWv w g1 q1 l1 c1 p1 m1 e1 g2 q2 l2 c2 p2 m2 e2) (first | exact ts'.out _ _ _ (ts'.out _ _ _ (ts'.out _ _ _ hSd)) | exact hSd | exact hSb | exact hSa)
   (first
     | (go_at_call 125;with_reducible refine ka.mono ?_;rintro e wa ⟨ra,aa,rfl,ha,ca,va,la,hba⟩
        have hSb:=tr'.out _ _ hSa hba
        have hbb:Below w9.heap.size w9 wa:=(Below.refl w9.heap.size w9).drew.trans hba
        have hza:=(hz9.out.1).below hbb
        have km:=zek (g:=g1) ha hza ca hz9.out.2.1 (by omega) (by omega)
        rw[va] at km
        clear va)
     | (go_at_call 70;with_reducible refine km.mono ?_;rintro e wd ⟨rd,rfl,hq,hbd⟩
        have hSd:=tr'.out _ _ hSb hbd
        obtain⟨u1,u2,nsq,dsq,rfl,k2,k3,k4,k5,k6,k7⟩:=hq
        obtain⟨qn,kn,rfl⟩:=k2.form
        obtain⟨qd,kd,rfl⟩:=k5.form
        have bI:Below W0.heap.size W0 wd:=ed.out.trans ((hbb.trans (hbd.mono hbb.size)).mono ed.out.size)
        obtain⟨hk,ap⟩:=ze2 (N:=w.heap.size+1+1) (g:=mkG g1 (val16 xs+val16 ys) (val16 zs)) (by omega) aR.out aQ.out bI k2 k3 k4 k5 k6 k7
        have hq9:=aR.out.below bI
        have f0:=hq9.c0
        have f1:=hq9.c1
        have f2:=hq9.c2
        have fr:=hq9.fr
        clear hq9))
  go_wp2_with fail
  refine bodyPost_ret (zae rfl _ _ (w.heap.size+1+1) _ dd rfl ap hu hd zbx) rfl ?_
  refine⟨_,g1,val16 xs+val16 ys,rfl,by rw[<-hz9.out.2.2];exact hk.out.1,?_,?_,hk.out.2⟩
  ·have:=zag hx9.out.1
   have:=zag hy9.out.1
   omega
  ·rw[hfx.out.2.2.1,hfx.out.2.2.2.2.2.1,Int.mul_add,<-jS.out]
 ·have gz:(g1==g2)=false:=by simp[hgg]
  have aU:=zch hx9.out hy9.out hfx.out.2.1 hfx.out.2.2.2.2.1
  by_cases hlt:val16 xs<val16 ys
  ·have aA:Hid (val16 xs<val16 ys):=hlt
   clear hlt hgg
   go_wp2_with (go_at_call 126;with_reducible refine aU.mono ?_;rintro e wc ⟨c,rfl,hc1,hc2,hbc⟩
                have hcn:c<0:=hc1.2 aA.out
                have hSc:=tr'.out _ _ fq.out hbc
                clear hc1 hc2)
   have hSa:(SWv w g1 q1 l1 c1 p1 m1 e1 g2 q2 l2 c2 p2 m2 e2) wc.drew:=⟨hSc.1.drew,hSc.2⟩
   have ka:=zgb ((hy9.out.below hbc).below (Below.refl wc.heap.size wc).drew) ((hx9.out.below hbc).below (Below.refl wc.heap.size wc).drew) (za4 hx9.out.1 hy9.out.1 hfx.out.2.1 (by have:=aA.out;omega)) (by have:=aA.out;omega)
   go_region_held3 (SWv w g1 q1 l1 c1 p1 m1 e1 g2 q2 l2 c2 p2 m2 e2) (first | exact ts'.out _ _ _ (ts'.out _ _ _ (ts'.out _ _ _ hSd)) | exact hSd | exact hSb | exact hSa)
    (first
      | (go_at_call 127;with_reducible refine ka.mono ?_;rintro e wa ⟨ra,aa,rfl,ha,ca,va,hba⟩
         have la:=za4 ha.1 hy9.out.1 ca (by rw[va];have:=zag hx9.out.1;have:=zag hy9.out.1;omega)
         have hSb:=tr'.out _ _ hSa hba
         have hbb:Below wc.heap.size wc wa:=(Below.refl wc.heap.size wc).drew.trans hba
         have hza:=(hz9.out.1.below hbc).below hbb
         have km:=zek (g:=g2) ha hza ca hz9.out.2.1 (by omega) (by omega)
         rw[va] at km
         clear va)
      | (go_at_call 70;with_reducible refine km.mono ?_;rintro e wd ⟨rd,rfl,hq,hbd⟩
         have hSd:=tr'.out _ _ hSb hbd
         obtain⟨u1,u2,nsq,dsq,rfl,k2,k3,k4,k5,k6,k7⟩:=hq
         obtain⟨qn,kn,rfl⟩:=k2.form
         obtain⟨qd,kd,rfl⟩:=k5.form
         have bI:Below W0.heap.size W0 wd:=ed.out.trans (((hbc.trans (hbb.mono hbc.size)).trans (hbd.mono (hbc.trans (hbb.mono hbc.size)).size)).mono ed.out.size)
         obtain⟨hk,ap⟩:=ze2 (N:=w.heap.size+1+1) (g:=mkG g2 (val16 ys - val16 xs) (val16 zs)) (by omega) aR.out aQ.out bI k2 k3 k4 k5 k6 k7
         have hq9:=aR.out.below bI
         have f0:=hq9.c0
         have f1:=hq9.c1
         have f2:=hq9.c2
         have fr:=hq9.fr
         clear hq9))
   go_wp2_with fail
   refine bodyPost_ret (zae rfl _ _ (w.heap.size+1+1) _ dd rfl ap hu hd zbx) rfl ?_
   refine⟨_,g2,val16 ys - val16 xs,rfl,by rw[<-hz9.out.2.2];exact hk.out.1,?_,?_,hk.out.2⟩
   ·have:=aA.out
    omega
   ·rw[hfx.out.2.2.1,hfx.out.2.2.2.2.2.1,Int.mul_sub]
    cases g1<;>cases g2<;>simp[sg] at gz ⊢<;>omega
  ·have aA:Hid (¬val16 xs<val16 ys):=hlt
   clear hlt hgg
   go_wp2_with (go_at_call 126;with_reducible refine aU.mono ?_;rintro e wc ⟨c,rfl,hc1,hc2,hbc⟩
                have hcn:¬c<0:=fun h=>aA.out (hc1.1 h)
                have hSc:=tr'.out _ _ fq.out hbc
                clear hc1 hc2)
   have hSa:(SWv w g1 q1 l1 c1 p1 m1 e1 g2 q2 l2 c2 p2 m2 e2) wc.drew:=⟨hSc.1.drew,hSc.2⟩
   have ka:=zgb ((hx9.out.below hbc).below (Below.refl wc.heap.size wc).drew) ((hy9.out.below hbc).below (Below.refl wc.heap.size wc).drew) (za4 hy9.out.1 hx9.out.1 hfx.out.2.2.2.2.1 (by have:=aA.out;omega)) (by have:=aA.out;omega)
   go_region_held3 (SWv w g1 q1 l1 c1 p1 m1 e1 g2 q2 l2 c2 p2 m2 e2) (first | exact ts'.out _ _ _ (ts'.out _ _ _ (ts'.out _ _ _ hSd)) | exact hSd | exact hSb | exact hSa)
    (first
      | (go_at_call 127;with_reducible refine ka.mono ?_;rintro e wa ⟨ra,aa,rfl,ha,ca,va,hba⟩
         have la:=za4 ha.1 hx9.out.1 ca (by rw[va];have:=zag hx9.out.1;have:=zag hy9.out.1;omega)
         have hSb:=tr'.out _ _ hSa hba
         have hbb:Below wc.heap.size wc wa:=(Below.refl wc.heap.size wc).drew.trans hba
         have hza:=(hz9.out.1.below hbc).below hbb
         have km:=zek (g:=g1) ha hza ca hz9.out.2.1 (by omega) (by omega)
         rw[va] at km
         clear va)
      | (go_at_call 70;with_reducible refine km.mono ?_;rintro e wd ⟨rd,rfl,hq,hbd⟩
         have hSd:=tr'.out _ _ hSb hbd
         obtain⟨u1,u2,nsq,dsq,rfl,k2,k3,k4,k5,k6,k7⟩:=hq
         obtain⟨qn,kn,rfl⟩:=k2.form
         obtain⟨qd,kd,rfl⟩:=k5.form
         have bI:Below W0.heap.size W0 wd:=ed.out.trans (((hbc.trans (hbb.mono hbc.size)).trans (hbd.mono (hbc.trans (hbb.mono hbc.size)).size)).mono ed.out.size)
         obtain⟨hk,ap⟩:=ze2 (N:=w.heap.size+1+1) (g:=mkG g1 (val16 xs - val16 ys) (val16 zs)) (by omega) aR.out aQ.out bI k2 k3 k4 k5 k6 k7
         have hq9:=aR.out.below bI
         have f0:=hq9.c0
         have f1:=hq9.c1
         have f2:=hq9.c2
         have fr:=hq9.fr
         clear hq9))
   go_wp2_with fail
   refine bodyPost_ret (zae rfl _ _ (w.heap.size+1+1) _ dd rfl ap hu hd zbx) rfl ?_
   refine⟨_,g1,val16 xs - val16 ys,rfl,by rw[<-hz9.out.2.2];exact hk.out.1,?_,?_,hk.out.2⟩
   ·have:=aA.out
    omega
   ·rw[hfx.out.2.2.1,hfx.out.2.2.2.2.2.1,Int.mul_sub]
    cases g1<;>cases g2<;>simp[sg] at gz ⊢<;>omega
def QLt (L:Nat) (n d:Int):Prop:=n<65536^L/\d<65536^L
theorem sum_ok {w:World} {a b:Value} {g1 g2:Bool} {n1 d1 n2 d2:Int} {L:Nat} (h1:QAt w a g1 n1 d1) (h2:QAt w b g2 n2 d2) (hL:L<=68719476000) (l1:QLt L n1 d1) (l2:QLt L n2 d2):
  Calls Tryz.prog 95 #[a,b] w fun e w'=>∃v g m,e=.returned v/\QAt w' v (mkG g m (denI d1*denI d2)) (mkN m (denI d1*denI d2)) (mkD m (denI d1*denI d2))/\0<=m/\sg g*m=sg g1*(n1*denI d2)+sg g2*(n2*denI d1)/\Below w.heap.size w w':=by
 obtain⟨_,_,ns1,ds1,rfl,hn1,cn1,rfl,hd1,cd1,rfl⟩:=h1
 obtain⟨_,_,ns2,ds2,rfl,hn2,cn2,rfl,hd2,cd2,rfl⟩:=h2
 obtain⟨q1,c1,rfl⟩:=hn1.form
 obtain⟨p1,e1,rfl⟩:=hd1.form
 obtain⟨q2,c2,rfl⟩:=hn2.form
 obtain⟨p2,e2,rfl⟩:=hd2.form
 have:=sum_walk (g1:=g1) (g2:=g2) hL hn1 hd1 hn2 hd2 cd1 cd2 (zb5 hn1.1 cn1 l1.1) (zb5 hd1.1 cd1 l1.2) (zb5 hn2.1 cn2 l2.1) (zb5 hd2.1 cd2 l2.2)
 rwa [(zdc hd1.1 cd1).1,(zdc hd2.1 cd2).1] at this
theorem opp_sum (g1 g2:Bool) (x n2 d:Int):sg g1*x+sg (!g2&&!decide (n2=0))*(n2*d)=sg g1*x - sg g2*(n2*d):=by
 by_cases h:n2=0
 ·subst h
  simp
 ·cases g2<;>simp[sg,h]<;>omega
abbrev SWw (w:World) (g1:Bool) (q1:Option Addr) (l1:Nat) (c1:Nat) (p1:Option Addr) (m1:Nat) (e1:Nat) (g2:Bool) (q2:Option Addr) (l2:Nat) (c2:Nat) (p2:Option Addr) (m2:Nat) (e2:Nat):World->Prop:=fun z=>Below w.heap.size w z/\w.heap.size+3<=z.heap.size/\z.cell? ⟨w.heap.size,0,none⟩=some (.bool g1)/\z.cell? ⟨w.heap.size,1,none⟩=some (.slice q1 l1 c1)/\z.cell? ⟨w.heap.size,2,none⟩=some (.slice p1 m1 e1)/\z.cell? ⟨w.heap.size+1,0,none⟩=some (.bool g2)/\z.cell? ⟨w.heap.size+1,1,none⟩=some (.slice q2 l2 c2)/\z.cell? ⟨w.heap.size+1,2,none⟩=some (.slice p2 m2 e2)
theorem diff_ok {w:World} {a b:Value} {g1 g2:Bool} {i1 d1 i2 d2:Int} {L:Nat} (h1:QAt w a g1 i1 d1) (h2:QAt w b g2 i2 d2) (hL:L<=68719476000) (b1:QLt L i1 d1) (b2:QLt L i2 d2):
  Calls Tryz.prog 67 #[a,b] w fun e w'=>∃v g m,e=.returned v/\QAt w' v (mkG g m (denI d1*denI d2)) (mkN m (denI d1*denI d2)) (mkD m (denI d1*denI d2))/\0<=m/\sg g*m=sg g1*(i1*denI d2) - sg g2*(i2*denI d1)/\Below w.heap.size w w':=by
 have kop:∀z,Below w.heap.size w z->Calls Tryz.prog 96 #[b] z fun e w'=>∃r,e=.returned r/\QAt w' r (!g2&&!decide (i2=0)) i2 d2/\Below z.heap.size z w':=fun z hz=>opp_ok (h2.below hz)
 have h1':Hid (QAt w a g1 i1 d1):=h1
 obtain⟨_,_,ns1,ds1,rfl,hn1,_,_,hd1,_,_⟩:=h1
 obtain⟨_,_,ns2,ds2,rfl,hn2,_,_,hd2,_,_⟩:=h2
 obtain⟨q1,c1,rfl⟩:=hn1.form
 obtain⟨p1,e1,rfl⟩:=hd1.form
 obtain⟨q2,c2,rfl⟩:=hn2.form
 obtain⟨p2,e2,rfl⟩:=hd2.form
 generalize ns1.length=l1 at*
 generalize ds1.length=m1 at*
 generalize ns2.length=l2 at*
 generalize ds2.length=m2 at*
 obtain⟨dd,hu,hd⟩:=zhj
 have b1':Hid (QLt L i1 d1/\QLt L i2 d2):=⟨b1,b2⟩
 clear hn1 hn2 hd1 hd2 b1 b2
 go_enter Tryz.func67,Tryz.ntmps67
 go_wp2_with fail
 have aF:QNew (((w.alloc (.cells (qA g1 q1 l1 c1 p1 m1 e1) 64)).alloc (.cells (qA g2 q2 l2 c2 p2 m2 e2) 64)).alloc (.cells zC 64)) (w.heap.size+1+1):=by
  have:=QNew.made ((w.alloc (.cells (qA g1 q1 l1 c1 p1 m1 e1) 64)).alloc (.cells (qA g2 q2 l2 c2 p2 m2 e2) 64))
  simpa using this
 have hb0:Below w.heap.size w (((w.alloc (.cells (qA g1 q1 l1 c1 p1 m1 e1) 64)).alloc (.cells (qA g2 q2 l2 c2 p2 m2 e2) 64)).alloc (.cells zC 64)):=(zah w _ _).alloc (by simp;omega) _
 have hsz:(((w.alloc (.cells (qA g1 q1 l1 c1 p1 m1 e1) 64)).alloc (.cells (qA g2 q2 l2 c2 p2 m2 e2) 64)).alloc (.cells zC 64)).heap.size=w.heap.size+3:=by simp
 have x0:(((w.alloc (.cells (qA g1 q1 l1 c1 p1 m1 e1) 64)).alloc (.cells (qA g2 q2 l2 c2 p2 m2 e2) 64)).alloc (.cells zC 64)).cell? ⟨w.heap.size,0,none⟩=some (.bool g1):=((zaa _ _).cell (by simp;try omega)).trans (by simp)
 have x1:(((w.alloc (.cells (qA g1 q1 l1 c1 p1 m1 e1) 64)).alloc (.cells (qA g2 q2 l2 c2 p2 m2 e2) 64)).alloc (.cells zC 64)).cell? ⟨w.heap.size,1,none⟩=some (.slice q1 l1 c1):=((zaa _ _).cell (by simp;try omega)).trans (by simp)
 have x2:(((w.alloc (.cells (qA g1 q1 l1 c1 p1 m1 e1) 64)).alloc (.cells (qA g2 q2 l2 c2 p2 m2 e2) 64)).alloc (.cells zC 64)).cell? ⟨w.heap.size,2,none⟩=some (.slice p1 m1 e1):=((zaa _ _).cell (by simp;try omega)).trans (by simp)
 have y0:(((w.alloc (.cells (qA g1 q1 l1 c1 p1 m1 e1) 64)).alloc (.cells (qA g2 q2 l2 c2 p2 m2 e2) 64)).alloc (.cells zC 64)).cell? ⟨w.heap.size+1,0,none⟩=some (.bool g2):=((zaa _ _).cell (by simp;try omega)).trans (by simp)
 have y1:(((w.alloc (.cells (qA g1 q1 l1 c1 p1 m1 e1) 64)).alloc (.cells (qA g2 q2 l2 c2 p2 m2 e2) 64)).alloc (.cells zC 64)).cell? ⟨w.heap.size+1,1,none⟩=some (.slice q2 l2 c2):=((zaa _ _).cell (by simp;try omega)).trans (by simp)
 have y2:(((w.alloc (.cells (qA g1 q1 l1 c1 p1 m1 e1) 64)).alloc (.cells (qA g2 q2 l2 c2 p2 m2 e2) 64)).alloc (.cells zC 64)).cell? ⟨w.heap.size+1,2,none⟩=some (.slice p2 m2 e2):=((zaa _ _).cell (by simp;try omega)).trans (by simp)
 generalize (((w.alloc (.cells (qA g1 q1 l1 c1 p1 m1 e1) 64)).alloc (.cells (qA g2 q2 l2 c2 p2 m2 e2) 64)).alloc (.cells zC 64))=W0 at*
 have hS1:(SWw w g1 q1 l1 c1 p1 m1 e1 g2 q2 l2 c2 p2 m2 e2) W0.drew:=⟨hb0.drew,by show _<=W0.heap.size;omega,x0,x1,x2,y0,y1,y2⟩
 have tr:∀z z',(SWw w g1 q1 l1 c1 p1 m1 e1 g2 q2 l2 c2 p2 m2 e2) z->Below z.heap.size z z'->(SWw w g1 q1 l1 c1 p1 m1 e1 g2 q2 l2 c2 p2 m2 e2) z':=by
  rintro z z' ⟨a0,a1,a2,a3,a4,a5,a6,a7⟩ hb
  have hs:=hb.size
  exact⟨a0.trans (hb.mono a0.size),by omega,(hb.cell (by show w.heap.size<_;omega)).trans a2,(hb.cell (by show w.heap.size<_;omega)).trans a3,(hb.cell (by show w.heap.size<_;omega)).trans a4,(hb.cell (by show w.heap.size+1<_;omega)).trans a5,(hb.cell (by show w.heap.size+1<_;omega)).trans a6,(hb.cell (by show w.heap.size+1<_;omega)).trans a7⟩
 have ts:∀z j u,(SWw w g1 q1 l1 c1 p1 m1 e1 g2 q2 l2 c2 p2 m2 e2) z->(SWw w g1 q1 l1 c1 p1 m1 e1 g2 q2 l2 c2 p2 m2 e2) (z.setCell ⟨w.heap.size+1+1,j,none⟩ u):=by
  rintro z j u ⟨a0,a1,a2,a3,a4,a5,a6,a7⟩
  exact⟨a0.setCell (by show _<=w.heap.size+1+1;omega) u,by simp;omega,(World.cell?_setCell_far _ _ _ _ (by simp;try omega)).trans a2,(World.cell?_setCell_far _ _ _ _ (by simp;try omega)).trans a3,(World.cell?_setCell_far _ _ _ _ (by simp;try omega)).trans a4,(World.cell?_setCell_far _ _ _ _ (by simp;try omega)).trans a5,(World.cell?_setCell_far _ _ _ _ (by simp;try omega)).trans a6,(World.cell?_setCell_far _ _ _ _ (by simp;try omega)).trans a7⟩
 have tr':=zac tr
 have ts':=zac ts
 clear tr ts
 have aR:Hid (QNew W0 (w.heap.size+1+1)):=aF
 have aQ:Hid (Below w.heap.size w W0):=hb0
 clear aF hb0 x0 x1 x2 y0 y1 y2
 have hsd:W0.drew.heap.size=W0.heap.size:=rfl
 go_region_held3 (SWw w g1 q1 l1 c1 p1 m1 e1 g2 q2 l2 c2 p2 m2 e2) (first | exact ts'.out _ _ _ (ts'.out _ _ _ (ts'.out _ _ _ hSd)) | exact hSd | exact hSb | exact hS1)
  (first
    | (go_at_call 96;with_reducible refine(kop _ ?_).mono ?_;exact hS1.1;rintro e wa ⟨ra,rfl,ha,hba⟩
       have hSb:=tr'.out _ _ hS1 hba
       have km:=sum_ok (h1'.out.below hSb.1) ha hL b1'.out.1 b1'.out.2
       rw[opp_sum] at km)
    | (go_at_call 95;with_reducible refine km.mono ?_;rintro e wd ⟨rd,gg,mm,rfl,hq,hm0,hms,hbd⟩
       have hSd:=tr'.out _ _ hSb hbd
       obtain⟨u1,u2,nsq,dsq,rfl,k2,k3,k4,k5,k6,k7⟩:=hq
       obtain⟨qn,kn,rfl⟩:=k2.form
       obtain⟨qd,kd,rfl⟩:=k5.form
       have bI:Below W0.heap.size W0 wd:=(Below.refl W0.heap.size W0).drew.trans (hba.trans (hbd.mono hba.size))
       obtain⟨hk,ap⟩:=ze2 (N:=w.heap.size+1+1) (g:=mkG gg mm (denI d1*denI d2)) (by omega) aR.out aQ.out bI k2 k3 k4 k5 k6 k7
       have hq9:=aR.out.below bI
       have f0:=hq9.c0
       have f1:=hq9.c1
       have f2:=hq9.c2
       have fr:=hq9.fr
       have cU:=zac hms
       clear hq9 hms))
 go_wp2_with fail
 refine bodyPost_ret (zae rfl _ _ (w.heap.size+1+1) _ dd rfl ap hu hd zbx) rfl ?_
 exact⟨_,gg,mm,rfl,hk.out.1,hm0,cU.out,hk.out.2⟩
def sgnI (s:Int):Int:=if s=0 then 0 else if s<0 then -1 else 1
theorem sgn_mk {g:Bool} {m D S:Int} (hm:0<=m) (hD:0<D) (hS:sg g*m=S):(if mkN m D=0 then(0:Int) else if mkG g m D then -1 else 1)=sgnI S:=by
 unfold sgnI mkN mkG
 by_cases h:m=0
 ·subst h
  simp only[Int.mul_zero] at hS
  rw[<-hS]
  simp
 ·have hg:=zcc (b:=D) (by omega:0<m)
  have hle:gcdI m D<=m:=by
   unfold gcdI
   have:=Nat.le_of_dvd (by omega) (Nat.gcd_dvd_left m.toNat D.toNat)
   omega
  have h1:1<=m / gcdI m D:=(Int.le_ediv_iff_mul_le hg).2 (by omega)
  rw[if_neg (by omega:¬(m=0\/D=0)),if_neg (by omega:¬m / gcdI m D=0),if_neg (by omega:¬(m=0\/D=0))]
  cases g
  ·have hS':m=S:=by simpa [sg] using hS
   rw[if_neg (by omega:¬S=0),if_neg (by omega:¬S<0)]
   simp
  ·have hS':-m=S:=by simpa [sg] using hS
   rw[if_neg (by omega:¬S=0),if_pos (by omega:S<0)]
   simp
theorem zdd {d:Int} (h:0<=d):0<denI d:=by
 unfold denI
 split<;>omega
theorem QAt.nn {w:World} {v:Value} {g:Bool} {n d:Int} (h:QAt w v g n d):0<=n/\0<=d:=by
 obtain⟨_,_,ns,ds,_,h1,_,rfl,h2,_,rfl⟩:=h
 exact⟨zag h1.1,zag h2.1⟩
theorem ze4 {w:World} {a b:Value} {g1 g2:Bool} {i1 d1 i2 d2:Int} {L:Nat} (h1:QAt w a g1 i1 d1) (h2:QAt w b g2 i2 d2) (hL:L<=68719476000) (b1:QLt L i1 d1) (b2:QLt L i2 d2):
  Calls Tryz.prog 39 #[a,b] w fun e w'=>e=.returned (.int .i64 (sgnI (sg g1*(i1*denI d2) - sg g2*(i2*denI d1))))/\Below w.heap.size w w':=by
 have hdf:∀z,Below w.heap.size w z->_:=fun z hz=>diff_ok (h1.below hz) (h2.below hz) hL b1 b2
 have hdd:0<denI d1*denI d2:=Int.mul_pos (zdd h1.nn.2) (zdd h2.nn.2)
 have jT:Hid (0<denI d1*denI d2):=hdd
 obtain⟨_,_,ns1,ds1,rfl,hn1,_,_,hd1,_,_⟩:=h1
 obtain⟨_,_,ns2,ds2,rfl,hn2,_,_,hd2,_,_⟩:=h2
 obtain⟨q1,c1,rfl⟩:=hn1.form
 obtain⟨p1,e1,rfl⟩:=hd1.form
 obtain⟨q2,c2,rfl⟩:=hn2.form
 obtain⟨p2,e2,rfl⟩:=hd2.form
 generalize ns1.length=l1 at*
 generalize ds1.length=m1 at*
 generalize ns2.length=l2 at*
 generalize ds2.length=m2 at*
 clear hn1 hn2 hd1 hd2 b1 b2 hdd
 have hB:Below w.heap.size w ((w.alloc (.cells (qA g1 q1 l1 c1 p1 m1 e1) 64)).alloc (.cells (qA g2 q2 l2 c2 p2 m2 e2) 64)):=zah _ _ _
 have gn:=hdf _ hB
 clear hdf
 go_enter Tryz.func39,Tryz.ntmps39
 go_wp2_with (first
  | (go_at_call 67;with_reducible refine gn.mono ?_;rintro e w2 ⟨r,g,m,rfl,hq,hm0,hms,hb2⟩
     have hsg:=zii hq
     rw[sgn_mk hm0 jT.out hms] at hsg)
  | (go_at_call 66;with_reducible refine hsg.mono ?_;rintro e w3 ⟨rfl,hb3⟩))
 go_ret
 exact⟨rfl,hB.trans ((hb2.trans (hb3.mono hb2.size)).mono hB.size)⟩
theorem ze5 (xs:List Int):(trim (halves xs)).length<=2*xs.length:=by
 rw[zai]
 have:=zam (halves xs) (halves xs).length
 rw[zbp] at this ⊢
 exact this
theorem zjn {de:List Int} (hd:Dig de) (h:trim (halves de)=[]):denI (val de)=1:=by
 have:=(zdo (zbf hd)).1 h
 rw[za9] at this
 simp[denI,this]
theorem zjo {de:List Int} (hd:Dig de) (h:¬trim (halves de)=[]):denI (val de)=val de:=by
 have:¬val de=0:=fun e=>h ((zdo (zbf hd)).2 (by rw[za9];exact e))
 simp[denI,this]
abbrev SWx (w:World) (g:Bool) (q1:Option Addr) (l1:Nat) (c1:Nat) (p1:Option Addr) (m1:Nat) (e1:Nat):World->Prop:=fun z=>Below w.heap.size w z/\w.heap.size+2<=z.heap.size/\z.cell? ⟨w.heap.size,0,none⟩=some (.bool g)/\z.cell? ⟨w.heap.size,1,none⟩=some (.slice q1 l1 c1)/\z.cell? ⟨w.heap.size,2,none⟩=some (.slice p1 m1 e1)
theorem zbn {w:World} {g:Bool} {q1 p1:Option Addr} {l1 c1 m1 e1:Nat} {nu de:List Int} (h1:Sl w (.slice q1 l1 c1) nu) (h2:Sl w (.slice p1 m1 e1) de) (ln:nu.length<=34359738000) (ld:de.length<=34359738000):
  Calls Tryz.prog 40 #[.agg (qA g q1 l1 c1 p1 m1 e1)] w fun e w'=>∃v,e=.returned v/\QAt w' v (mkG g (val nu) (denI (val de))) (mkN (val nu) (denI (val de))) (mkD (val nu) (denI (val de)))/\Below w.heap.size w w':=by
 have kw1:∀z,Below w.heap.size w z->Calls Tryz.prog 68 #[.slice q1 l1 c1] z fun e w'=>∃r,e=.returned r/\Sl16 w' r (trim (halves nu))/\Below z.heap.size z w':=fun z hz=>zc4 (h1.below hz) (by omega)
 have kw2:∀z,Below w.heap.size w z->Calls Tryz.prog 68 #[.slice p1 m1 e1] z fun e w'=>∃r,e=.returned r/\Sl16 w' r (trim (halves de))/\Below z.heap.size z w':=fun z hz=>zc4 (h2.below hz) (by omega)
 have lw1:(trim (halves nu)).length<=274877906000:=by have:=ze5 nu;omega
 have lw2:(trim (halves de)).length<=274877906000:=by have:=ze5 de;omega
 have hdn:trim (halves de)=[]->Hid (denI (val de)=1):=fun h=>zjn h2.1 h
 have hds:¬trim (halves de)=[]->Hid (denI (val de)=val16 (trim (halves de))):=fun h=>by rw[zao,za9];exact zjo h2.1 h
 have hcn:=zak (halves de)
 generalize trim (halves de)=D at*
 have fX:Hid (Canon D):=hcn
 have hof:=fun z=>zc2 z 1 (by omega) (by omega)
 obtain⟨dd,hu,hd⟩:=zhj
 clear h1 h2 hcn
 go_enter Tryz.func40,Tryz.ntmps40
 go_wp2_with fail
 have aF:QNew ((w.alloc (.cells (qA g q1 l1 c1 p1 m1 e1) 27)).alloc (.cells zC 64)) (w.heap.size+1):=by
  have:=QNew.made (w.alloc (.cells (qA g q1 l1 c1 p1 m1 e1) 27))
  simpa using this
 have hb0:Below w.heap.size w ((w.alloc (.cells (qA g q1 l1 c1 p1 m1 e1) 27)).alloc (.cells zC 64)):=zah w _ _
 have hsz:((w.alloc (.cells (qA g q1 l1 c1 p1 m1 e1) 27)).alloc (.cells zC 64)).heap.size=w.heap.size+2:=by simp
 have x0:((w.alloc (.cells (qA g q1 l1 c1 p1 m1 e1) 27)).alloc (.cells zC 64)).cell? ⟨w.heap.size,0,none⟩=some (.bool g):=by simp
 have x1:((w.alloc (.cells (qA g q1 l1 c1 p1 m1 e1) 27)).alloc (.cells zC 64)).cell? ⟨w.heap.size,1,none⟩=some (.slice q1 l1 c1):=by simp
 have x2:((w.alloc (.cells (qA g q1 l1 c1 p1 m1 e1) 27)).alloc (.cells zC 64)).cell? ⟨w.heap.size,2,none⟩=some (.slice p1 m1 e1):=by simp
 generalize ((w.alloc (.cells (qA g q1 l1 c1 p1 m1 e1) 27)).alloc (.cells zC 64))=W0 at*
 have hS1:(SWx w g q1 l1 c1 p1 m1 e1) W0:=⟨hb0,by omega,x0,x1,x2⟩
 have tr:∀z z',(SWx w g q1 l1 c1 p1 m1 e1) z->Below z.heap.size z z'->(SWx w g q1 l1 c1 p1 m1 e1) z':=by
  rintro z z' ⟨a0,a1,a2,a3,a4⟩ hb
  have hs:=hb.size
  exact⟨a0.trans (hb.mono a0.size),by omega,(hb.cell (by show w.heap.size<_;omega)).trans a2,(hb.cell (by show w.heap.size<_;omega)).trans a3,(hb.cell (by show w.heap.size<_;omega)).trans a4⟩
 have ts:∀z j u,(SWx w g q1 l1 c1 p1 m1 e1) z->(SWx w g q1 l1 c1 p1 m1 e1) (z.setCell ⟨w.heap.size+1,j,none⟩ u):=by
  rintro z j u ⟨a0,a1,a2,a3,a4⟩
  exact⟨a0.setCell (by show _<=w.heap.size+1;omega) u,by simp;omega,(World.cell?_setCell_far _ _ _ _ (by simp)).trans a2,(World.cell?_setCell_far _ _ _ _ (by simp)).trans a3,(World.cell?_setCell_far _ _ _ _ (by simp)).trans a4⟩
 have tr':=zac tr
 have ts':=zac ts
 have aR:Hid (QNew W0 (w.heap.size+1)):=aF
 have aQ:Hid (Below w.heap.size w W0):=hb0
 have iD:=zac hS1
 clear tr ts aF hb0 hS1
 have kw2':=kw2 W0 aQ.out
 clear kw2
 by_cases hD:D=[]
 ·subst hD
  have hd1:=hdn rfl
  clear hdn hds
  go_wp2_with (first
   | (go_at_call 68;with_reducible refine kw2'.mono ?_;rintro e w1 ⟨r1,rfl,hr1,hb1⟩
      obtain⟨qd,kd,rfl⟩:=hr1.form)
   | (go_at_call 69;with_reducible refine(hof _).mono ?_;rintro e w2 ⟨r2,ds,rfl,hz,hzc,hzv,hzl,hb2⟩))
  have dM:Hid (Below W0.heap.size W0 w2):=hb1.trans (hb2.mono hb1.size)
  have hS4:(SWx w g q1 l1 c1 p1 m1 e1) w2.drew:=by
   have:=tr'.out _ _ iD.out dM.out
   exact⟨this.1.drew,this.2⟩
  have hdd:Hid (Sl16 w2 r2 ds/\Canon ds/\val16 ds=denI (val de)/\ds.length<=274877906000):=⟨hz,hzc,by rw[hd1.out,hzv],by omega⟩
  clear hz hzc hzv hzl hb2 hb1 hd1 hr1
  go_region_held3 (SWx w g q1 l1 c1 p1 m1 e1) (first | exact ts'.out _ _ _ (ts'.out _ _ _ (ts'.out _ _ _ hSd)) | exact hSd | exact hSb | exact hS4)
   (first
     | (go_at_call 68;with_reducible refine(kw1 _ ?_).mono ?_;exact hS4.1;rintro e wa ⟨ra,rfl,ha,hba⟩
        have hSb:=tr'.out _ _ hS4 hba
        have km:=zek (g:=g) ha (hdd.out.1.below ((Below.refl w2.heap.size w2).drew.trans hba)) (zak _) hdd.out.2.1 lw1 hdd.out.2.2.2
        rw[zao,za9,hdd.out.2.2.1] at km)
     | (go_at_call 70;with_reducible refine km.mono ?_;rintro e wd ⟨rd,rfl,hq,hbd⟩
        have hSd:=tr'.out _ _ hSb hbd
        obtain⟨u1,u2,nsq,dsq,rfl,k2,k3,k4,k5,k6,k7⟩:=hq
        obtain⟨qn,kn,rfl⟩:=k2.form
        obtain⟨qd,kd,rfl⟩:=k5.form
        have bI:Below W0.heap.size W0 wd:=dM.out.trans (((Below.refl w2.heap.size w2).drew.trans (hba.trans (hbd.mono hba.size))).mono dM.out.size)
        obtain⟨hk,ap⟩:=ze2 (N:=w.heap.size+1) (g:=mkG g (val nu) (denI (val de))) (by omega) aR.out aQ.out bI k2 k3 k4 k5 k6 k7
        have hq9:=aR.out.below bI
        have f0:=hq9.c0
        have f1:=hq9.c1
        have f2:=hq9.c2
        have fr:=hq9.fr
        clear hq9))
  go_wp2_with fail
  refine bodyPost_ret (zae rfl _ _ (w.heap.size+1) _ dd rfl ap hu hd zbx) rfl ?_
  exact⟨_,rfl,hk.out.1,hk.out.2⟩
 ·have hd1:=hds hD
  have hDl:¬(D.length:Int)=0:=by have:=List.length_pos_iff.2 hD;omega
  clear hdn hds
  go_wp2_with (go_at_call 68;with_reducible refine kw2'.mono ?_;rintro e w2 ⟨r2,rfl,hr1,hb1⟩
               have hr1':Hid (Sl16 w2 r2 D):=hr1
               obtain⟨qd,kd,rfl⟩:=hr1.form)
  have dM:Hid (Below W0.heap.size W0 w2):=hb1
  have hS4:(SWx w g q1 l1 c1 p1 m1 e1) w2.drew:=by
   have:=tr'.out _ _ iD.out dM.out
   exact⟨this.1.drew,this.2⟩
  have hdd:Hid (Sl16 w2 (.slice qd D.length kd) D/\Canon D/\val16 D=denI (val de)/\D.length<=274877906000):=⟨hr1,fX.out,by rw[hd1.out],lw2⟩
  clear hb1 hd1 hr1
  go_region_held3 (SWx w g q1 l1 c1 p1 m1 e1) (first | exact ts'.out _ _ _ (ts'.out _ _ _ (ts'.out _ _ _ hSd)) | exact hSd | exact hSb | exact hS4)
   (first
     | (go_at_call 68;with_reducible refine(kw1 _ ?_).mono ?_;exact hS4.1;rintro e wa ⟨ra,rfl,ha,hba⟩
        have hSb:=tr'.out _ _ hS4 hba
        have km:=zek (g:=g) ha (hdd.out.1.below ((Below.refl w2.heap.size w2).drew.trans hba)) (zak _) hdd.out.2.1 lw1 hdd.out.2.2.2
        rw[zao,za9,hdd.out.2.2.1] at km)
     | (go_at_call 70;with_reducible refine km.mono ?_;rintro e wd ⟨rd,rfl,hq,hbd⟩
        have hSd:=tr'.out _ _ hSb hbd
        obtain⟨u1,u2,nsq,dsq,rfl,k2,k3,k4,k5,k6,k7⟩:=hq
        obtain⟨qn,kn,rfl⟩:=k2.form
        obtain⟨qd,kd,rfl⟩:=k5.form
        have bI:Below W0.heap.size W0 wd:=dM.out.trans (((Below.refl w2.heap.size w2).drew.trans (hba.trans (hbd.mono hba.size))).mono dM.out.size)
        obtain⟨hk,ap⟩:=ze2 (N:=w.heap.size+1) (g:=mkG g (val nu) (denI (val de))) (by omega) aR.out aQ.out bI k2 k3 k4 k5 k6 k7
        have hq9:=aR.out.below bI
        have f0:=hq9.c0
        have f1:=hq9.c1
        have f2:=hq9.c2
        have fr:=hq9.fr
        clear hq9))
  go_wp2_with fail
  refine bodyPost_ret (zae rfl _ _ (w.heap.size+1) _ dd rfl ap hu hd zbx) rfl ?_
  exact⟨_,rfl,hk.out.1,hk.out.2⟩
theorem mkN_le {n d:Int} (hn:0<=n) (hd:0<=d):mkN n d<=n/\mkD n d<=max d 1/\0<=mkN n d/\0<=mkD n d:=by
 unfold mkN mkD
 split
 ·omega
 ·rename_i h
  have hg:=zcc (b:=d) (by omega:0<n)
  have h1:=Int.ediv_le_self (gcdI n d) hn
  have h2:=Int.ediv_le_self (gcdI n d) hd
  have h3:=Int.ediv_nonneg hn (by omega:0<=gcdI n d)
  have h4:=Int.ediv_nonneg hd (by omega:0<=gcdI n d)
  omega
end Go.Proofs.YtaonejnicgbifaaGreatDoor
