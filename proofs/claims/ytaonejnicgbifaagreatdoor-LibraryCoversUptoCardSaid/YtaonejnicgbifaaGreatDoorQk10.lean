import Derived.Test.YtaonejnicgbifaaGreatDoorQk09
namespace Go.Proofs.YtaonejnicgbifaaGreatDoor
open Go Go.RowKit
set_option maxRecDepth 100000
set_option maxHeartbeats 16000000
theorem zb8:∃L:Nat,L<=68719476000/\1<=L/\∀xs:List Int,Dig xs->xs.length<=34359737000->val xs<65536^L:=
 ⟨68719475000,by decide,by decide,fun _ hd hl=>zh2 hd hl⟩
theorem zbz {L:Nat} (h1:1<=L) (hB:∀xs:List Int,Dig xs->xs.length<=34359737000->val xs<65536^L) {nu de:List Int} (hn:Dig nu) (hd:Dig de) (ln:nu.length<=34359737000) (ld:de.length<=34359737000):
  QLt L (mkN (val nu) (denI (val de))) (mkD (val nu) (denI (val de))):=by
 have h3:(1:Int)<65536^L:=by
  have:=zcv h1
  omega
 have h4:=hB nu hn ln
 have h5:=hB de hd ld
 have h6:denI (val de)<65536^L:=by
  unfold denI
  split<;>omega
 exact mk_bound (zaf hn) (zaf hd) h4 h6 h3
theorem iof_ffp {w:World} {g1 g2:Bool} {q1 p1 q2 p2:Option Addr} {l1 c1 m1 e1 l2 c2 m2 e2:Nat} {nu1 de1 nu2 de2:List Int} (h1:Sl w (.slice q1 l1 c1) nu1) (h2:Sl w (.slice p1 m1 e1) de1) (h3:Sl w (.slice q2 l2 c2) nu2) (h4:Sl w (.slice p2 m2 e2) de2)
  (b1:nu1.length<=34359737000) (b2:de1.length<=34359737000) (b3:nu2.length<=34359737000) (b4:de2.length<=34359737000) (hS:sgnI (sg (mkG g1 (val nu1) (denI (val de1)))*((mkN (val nu1) (denI (val de1)))*denI (mkD (val nu2) (denI (val de2)))) - sg (mkG g2 (val nu2) (denI (val de2)))*((mkN (val nu2) (denI (val de2)))*denI (mkD (val nu1) (denI (val de1)))))=1):Calls Tryz.prog 17 #[.agg (iA g1 q1 l1 c1 p1 m1 e1 g2 q2 l2 c2 p2 m2 e2 false false)] w fun e w'=>∃v,e=.returned v/\IAt w' v (IvC.mk g1 (val nu1) (val de1) g2 (val nu2) (val de2) false false).v/\Below w.heap.size w w':=by
 obtain⟨dd,hu,hd⟩:=zh0
 obtain⟨L,hL,hL1,hLB⟩:=zb8
 have q1b:=zbz hL1 hLB h1.1 h2.1 b1 b2
 have q2b:=zbz hL1 hLB h3.1 h4.1 b3 b4
 have hb0:Below w.heap.size w (((w.alloc (.cells (iA g1 q1 l1 c1 p1 m1 e1 g2 q2 l2 c2 p2 m2 e2 false false) 56)).alloc (.cells zA 66)).alloc (.cells zA 66)):=zbk _ _ _ _
 have I0:=zlz w (iA g1 q1 l1 c1 p1 m1 e1 g2 q2 l2 c2 p2 m2 e2 false false) 56 (.cells zA 66) (.cells zA 66)
 have I1:=zjx w (.cells (iA g1 q1 l1 c1 p1 m1 e1 g2 q2 l2 c2 p2 m2 e2 false false) 56) zA 66 (.cells zA 66)
 have I2:=zl0 w (.cells (iA g1 q1 l1 c1 p1 m1 e1 g2 q2 l2 c2 p2 m2 e2 false false) 56) (.cells zA 66) zA 66
 have hof:=zbn (g:=g1) (h1.below hb0) (h2.below hb0) (by omega) (by omega)
 have eX:∀z,Below w.heap.size w z->_:=fun z hz=>zbn (g:=g2) (h3.below hz) (h4.below hz) (by omega) (by omega)
 have hS':Hid (sgnI _=_):=hS
 have I0':Hid (BlkI _ _ _ _):=I0
 have I1':Hid (BlkI _ _ _ _):=I1
 have I2':Hid (BlkI _ _ _ _):=I2
 have aQ:=zac hb0
 have q1b':Hid (QLt _ _ _):=q1b
 have q2b':Hid (QLt _ _ _):=q2b
 clear I0 I1 I2 hb0 h1 h2 h3 h4 q1b q2b hS hLB
 go_enter Tryz.func17,Tryz.ntmps17
 go_wp2_with (first
  | (go_at_call 40;with_reducible refine hof.mono ?_;rintro e w2 ⟨r,rfl,hq,hb2⟩
     have hq':Hid (QAt w2 r _ _ _):=hq
     obtain⟨u1,u2,nsq,dsq,rfl,k2,k3,k4,k5,k6,k7⟩:=hq
     obtain⟨qn,kn,rfl⟩:=k2.form
     obtain⟨qd,kd,rfl⟩:=k5.form
     have J0:=I0'.out.below hb2
     have J1:=I1'.out.below hb2
     have J2:=I2'.out.below hb2
     have W2:Below w.heap.size w w2:=aQ.out.trans (hb2.mono aQ.out.size)
     have A2:=zdx J2 0 (.bool (mkG g1 (val nu1) (denI (val de1)))) (.slice qn nsq.length kn) (.slice qd dsq.length kd)
     have X2:BlkI (((w2.setCell ⟨w.heap.size+1+1,0,none⟩ (.bool (mkG g1 (val nu1) (denI (val de1))))).setCell ⟨w.heap.size+1+1,1,none⟩ (.slice qn nsq.length kn)).setCell ⟨w.heap.size+1+1,2,none⟩ (.slice qd dsq.length kd)) (w.heap.size+1+1) 66 #[.bool (mkG g1 (val nu1) (denI (val de1))),.slice qn nsq.length kn,.slice qd dsq.length kd,.bool false,.slice none 0 0,.slice none 0 0,.bool false,.bool false,.bool false]:=A2.1
     have Q2:=hq'.out.sav J2 za0 A2.2
     have X0:=J0.sav A2.2 (by omega)
     have X1:=J1.sav A2.2 (by omega)
     have W3:=W2.trans (A2.2.below (B:=w.heap.size) (by omega) W2.size)
     have dp:=eX _ W3
     have c6:w2.cell? ⟨w.heap.size,6,none⟩=some (.bool false):=J0.cell 6
     have c7:w2.cell? ⟨w.heap.size,7,none⟩=some (.bool false):=J0.cell 7
     have c3:w2.cell? ⟨w.heap.size,3,none⟩=some (.bool g2):=J0.cell 3
     have c4:w2.cell? ⟨w.heap.size,4,none⟩=some (.slice q2 l2 c2):=J0.cell 4
     have c5:w2.cell? ⟨w.heap.size,5,none⟩=some (.slice p2 m2 e2):=J0.cell 5
     obtain⟨f0,f1,f2,f3,f4,f5,f6,f7,f8⟩:=J2.c9
     have fr2:=J2.fr
     have X0':Hid (BlkI _ _ _ _):=X0
     have X1':Hid (BlkI _ _ _ _):=X1
     have X2':Hid (BlkI _ _ _ _):=X2
     have Q2':Hid (QAt _ _ _ _ _):=Q2
     have W3':Hid (Below _ _ _):=W3
     clear J0 J1 J2 k2 k3 k4 k5 k6 k7 hof A2 X0 X1 X2 Q2 W3 W2)
  | (go_at_call 40;with_reducible refine dp.mono ?_;rintro e w3 ⟨r,rfl,hq,hb3⟩
     have hr':Hid (QAt w3 r _ _ _):=hq
     obtain⟨u1,u2,nsp,dsp,rfl,k2,k3,k4,k5,k6,k7⟩:=hq
     obtain⟨qm,km,rfl⟩:=k2.form
     obtain⟨qe,ke,rfl⟩:=k5.form
     have K0:=X0'.out.below hb3
     have K1:=X1'.out.below hb3
     have K2:=X2'.out.below hb3
     have QL:=Q2'.out.below hb3
     have W4:Below w.heap.size w w3:=W3'.out.trans (hb3.mono W3'.out.size)
     have A5:=zdx K2 3 (.bool (mkG g2 (val nu2) (denI (val de2)))) (.slice qm nsp.length km) (.slice qe dsp.length ke)
     have Y2:BlkI (((w3.setCell ⟨w.heap.size+1+1,3,none⟩ (.bool (mkG g2 (val nu2) (denI (val de2))))).setCell ⟨w.heap.size+1+1,4,none⟩ (.slice qm nsp.length km)).setCell ⟨w.heap.size+1+1,5,none⟩ (.slice qe dsp.length ke)) (w.heap.size+1+1) 66 #[.bool (mkG g1 (val nu1) (denI (val de1))),.slice qn nsq.length kn,.slice qd dsq.length kd,.bool (mkG g2 (val nu2) (denI (val de2))),.slice qm nsp.length km,.slice qe dsp.length ke,.bool false,.bool false,.bool false]:=A5.1
     have QL5:=QL.sav K2 za0 A5.2
     have QH5:=hr'.out.sav K2 za0 A5.2
     have Y1:=K1.sav A5.2 (by omega)
     have W5:=W4.trans (A5.2.below (B:=w.heap.size) (by omega) W4.size)
     have aU:=ze4 QL5 QH5 hL q1b'.out q2b'.out
     rw[hS'.out] at aU
     have s6:w3.cell? ⟨w.heap.size,6,none⟩=some (.bool false):=K0.cell 6
     have s7:w3.cell? ⟨w.heap.size,7,none⟩=some (.bool false):=K0.cell 7
     obtain⟨h0,h1,h2,h3,h4,h5,h6,h7,h8⟩:=K2.c9
     have fr3:=K2.fr
     have Y1':Hid (BlkI _ _ _ _):=Y1
     have Y2':Hid (BlkI _ _ _ _):=Y2
     have QL':Hid (QAt _ _ _ _ _):=QL5
     have QH':Hid (QAt _ _ _ _ _):=QH5
     have W5':Hid (Below _ _ _):=W5
     clear K0 K1 K2 k2 k3 k4 k5 k6 k7 dp A5 Y1 Y2 QL QL5 QH5 W4 W5)
  | (go_at_call 39;with_reducible refine aU.mono ?_;rintro e w4 ⟨rfl,hb4⟩
     have Z1:=Y1'.out.below hb4
     have Z2:=Y2'.out.below hb4
     have QL6:=QL'.out.below hb4
     have QH6:=QH'.out.below hb4
     have W6:Below w.heap.size w w4:=W5'.out.trans (hb4.mono W5'.out.size)
     have hno:=zh1 w4
     obtain⟨m0,m1,m2,m3,m4,m5,m6,m7,m8⟩:=Z1.c9
     obtain⟨n0,n1,n2,n3,n4,n5,n6,n7,n8⟩:=Z2.c9
     have fr4:=Z1.fr
     have Z1':Hid (BlkI _ _ _ _):=Z1
     have QL':Hid (QAt _ _ _ _ _):=QL6
     have QH':Hid (QAt _ _ _ _ _):=QH6
     have W6':Hid (Below _ _ _):=W6
     clear Z1 Z2 QL6 QH6 W6 aU)
  | (go_at_call 41;with_reducible refine hno.mono ?_;rintro e w5 ⟨rfl,hb5⟩
     have V1:=Z1'.out.below hb5
     have W7:Below w.heap.size w w5:=W6'.out.trans (hb5.mono W6'.out.size)
     obtain⟨v0,v1,v2,v3,v4,v5,v6,v7,v8⟩:=V1.c9
     have fr5:=V1.fr
     have V1':Hid (BlkI _ _ _ _):=V1
     have W7':Hid (Below _ _ _):=W7
     clear V1 W7))
 have A9:=ze9 V1'.out (.bool false) (.slice none 0 0) (.slice none 0 0) (.bool false) (.slice none 0 0) (.slice none 0 0) (.bool false) (.bool false) (.bool true)
 have W9:=W7'.out.trans (A9.2.below (B:=w.heap.size) (by omega) W7'.out.size)
 refine bodyPost_ret (zae rfl _ _ (w.heap.size+1) [.bool false,.slice none 0 0,.slice none 0 0,.bool false,.slice none 0 0,.slice none 0 0,.bool false,.bool false,.bool true] dd rfl (BlkI.row A9.1) hu hd zer) rfl ?_
 refine⟨_,rfl,?_,W9⟩
 have hv:(IvC.mk g1 (val nu1) (val de1) g2 (val nu2) (val de2) false false).v=⟨false,0,0,false,0,0,false,false,true⟩:=by
  unfold IvC.v
  rw[if_pos]
  refine⟨rfl,rfl,?_⟩
  show 0<sgnI (sg (mkG g1 (val nu1) (denI (val de1)))*((mkN (val nu1) (denI (val de1)))*denI (mkD (val nu2) (denI (val de2)))) - sg (mkG g2 (val nu2) (denI (val de2)))*((mkN (val nu2) (denI (val de2)))*denI (mkD (val nu1) (denI (val de1)))))
  rw[hS'.out]
  decide
 rw[hv]
 exact⟨_,_,_,_,rfl,zct _,zct _⟩
theorem iof_ffz {w:World} {g1 g2:Bool} {q1 p1 q2 p2:Option Addr} {l1 c1 m1 e1 l2 c2 m2 e2:Nat} {nu1 de1 nu2 de2:List Int} (h1:Sl w (.slice q1 l1 c1) nu1) (h2:Sl w (.slice p1 m1 e1) de1) (h3:Sl w (.slice q2 l2 c2) nu2) (h4:Sl w (.slice p2 m2 e2) de2)
  (b1:nu1.length<=34359737000) (b2:de1.length<=34359737000) (b3:nu2.length<=34359737000) (b4:de2.length<=34359737000) (hS:sgnI (sg (mkG g1 (val nu1) (denI (val de1)))*((mkN (val nu1) (denI (val de1)))*denI (mkD (val nu2) (denI (val de2)))) - sg (mkG g2 (val nu2) (denI (val de2)))*((mkN (val nu2) (denI (val de2)))*denI (mkD (val nu1) (denI (val de1)))))=0):Calls Tryz.prog 17 #[.agg (iA g1 q1 l1 c1 p1 m1 e1 g2 q2 l2 c2 p2 m2 e2 false false)] w fun e w'=>∃v,e=.returned v/\IAt w' v (IvC.mk g1 (val nu1) (val de1) g2 (val nu2) (val de2) false false).v/\Below w.heap.size w w':=by
 obtain⟨dd,hu,hd⟩:=zh0
 obtain⟨L,hL,hL1,hLB⟩:=zb8
 have q1b:=zbz hL1 hLB h1.1 h2.1 b1 b2
 have q2b:=zbz hL1 hLB h3.1 h4.1 b3 b4
 have hb0:Below w.heap.size w (((w.alloc (.cells (iA g1 q1 l1 c1 p1 m1 e1 g2 q2 l2 c2 p2 m2 e2 false false) 56)).alloc (.cells zA 66)).alloc (.cells zA 66)):=zbk _ _ _ _
 have I0:=zlz w (iA g1 q1 l1 c1 p1 m1 e1 g2 q2 l2 c2 p2 m2 e2 false false) 56 (.cells zA 66) (.cells zA 66)
 have I1:=zjx w (.cells (iA g1 q1 l1 c1 p1 m1 e1 g2 q2 l2 c2 p2 m2 e2 false false) 56) zA 66 (.cells zA 66)
 have I2:=zl0 w (.cells (iA g1 q1 l1 c1 p1 m1 e1 g2 q2 l2 c2 p2 m2 e2 false false) 56) (.cells zA 66) zA 66
 have hof:=zbn (g:=g1) (h1.below hb0) (h2.below hb0) (by omega) (by omega)
 have eX:∀z,Below w.heap.size w z->_:=fun z hz=>zbn (g:=g2) (h3.below hz) (h4.below hz) (by omega) (by omega)
 have hS':Hid (sgnI _=_):=hS
 have I0':Hid (BlkI _ _ _ _):=I0
 have I1':Hid (BlkI _ _ _ _):=I1
 have I2':Hid (BlkI _ _ _ _):=I2
 have aQ:=zac hb0
 have q1b':Hid (QLt _ _ _):=q1b
 have q2b':Hid (QLt _ _ _):=q2b
 clear I0 I1 I2 hb0 h1 h2 h3 h4 q1b q2b hS hLB
 go_enter Tryz.func17,Tryz.ntmps17
 go_wp2_with (first
  | (go_at_call 40;with_reducible refine hof.mono ?_;rintro e w2 ⟨r,rfl,hq,hb2⟩
     have hq':Hid (QAt w2 r _ _ _):=hq
     obtain⟨u1,u2,nsq,dsq,rfl,k2,k3,k4,k5,k6,k7⟩:=hq
     obtain⟨qn,kn,rfl⟩:=k2.form
     obtain⟨qd,kd,rfl⟩:=k5.form
     have J0:=I0'.out.below hb2
     have J1:=I1'.out.below hb2
     have J2:=I2'.out.below hb2
     have W2:Below w.heap.size w w2:=aQ.out.trans (hb2.mono aQ.out.size)
     have A2:=zdx J2 0 (.bool (mkG g1 (val nu1) (denI (val de1)))) (.slice qn nsq.length kn) (.slice qd dsq.length kd)
     have X2:BlkI (((w2.setCell ⟨w.heap.size+1+1,0,none⟩ (.bool (mkG g1 (val nu1) (denI (val de1))))).setCell ⟨w.heap.size+1+1,1,none⟩ (.slice qn nsq.length kn)).setCell ⟨w.heap.size+1+1,2,none⟩ (.slice qd dsq.length kd)) (w.heap.size+1+1) 66 #[.bool (mkG g1 (val nu1) (denI (val de1))),.slice qn nsq.length kn,.slice qd dsq.length kd,.bool false,.slice none 0 0,.slice none 0 0,.bool false,.bool false,.bool false]:=A2.1
     have Q2:=hq'.out.sav J2 za0 A2.2
     have X0:=J0.sav A2.2 (by omega)
     have X1:=J1.sav A2.2 (by omega)
     have W3:=W2.trans (A2.2.below (B:=w.heap.size) (by omega) W2.size)
     have dp:=eX _ W3
     have c6:w2.cell? ⟨w.heap.size,6,none⟩=some (.bool false):=J0.cell 6
     have c7:w2.cell? ⟨w.heap.size,7,none⟩=some (.bool false):=J0.cell 7
     have c3:w2.cell? ⟨w.heap.size,3,none⟩=some (.bool g2):=J0.cell 3
     have c4:w2.cell? ⟨w.heap.size,4,none⟩=some (.slice q2 l2 c2):=J0.cell 4
     have c5:w2.cell? ⟨w.heap.size,5,none⟩=some (.slice p2 m2 e2):=J0.cell 5
     obtain⟨f0,f1,f2,f3,f4,f5,f6,f7,f8⟩:=J2.c9
     have fr2:=J2.fr
     have X0':Hid (BlkI _ _ _ _):=X0
     have X1':Hid (BlkI _ _ _ _):=X1
     have X2':Hid (BlkI _ _ _ _):=X2
     have Q2':Hid (QAt _ _ _ _ _):=Q2
     have W3':Hid (Below _ _ _):=W3
     clear J0 J1 J2 k2 k3 k4 k5 k6 k7 hof A2 X0 X1 X2 Q2 W3 W2)
  | (go_at_call 40;with_reducible refine dp.mono ?_;rintro e w3 ⟨r,rfl,hq,hb3⟩
     have hr':Hid (QAt w3 r _ _ _):=hq
     obtain⟨u1,u2,nsp,dsp,rfl,k2,k3,k4,k5,k6,k7⟩:=hq
     obtain⟨qm,km,rfl⟩:=k2.form
     obtain⟨qe,ke,rfl⟩:=k5.form
     have K0:=X0'.out.below hb3
     have K1:=X1'.out.below hb3
     have K2:=X2'.out.below hb3
     have QL:=Q2'.out.below hb3
     have W4:Below w.heap.size w w3:=W3'.out.trans (hb3.mono W3'.out.size)
     have A5:=zdx K2 3 (.bool (mkG g2 (val nu2) (denI (val de2)))) (.slice qm nsp.length km) (.slice qe dsp.length ke)
     have Y2:BlkI (((w3.setCell ⟨w.heap.size+1+1,3,none⟩ (.bool (mkG g2 (val nu2) (denI (val de2))))).setCell ⟨w.heap.size+1+1,4,none⟩ (.slice qm nsp.length km)).setCell ⟨w.heap.size+1+1,5,none⟩ (.slice qe dsp.length ke)) (w.heap.size+1+1) 66 #[.bool (mkG g1 (val nu1) (denI (val de1))),.slice qn nsq.length kn,.slice qd dsq.length kd,.bool (mkG g2 (val nu2) (denI (val de2))),.slice qm nsp.length km,.slice qe dsp.length ke,.bool false,.bool false,.bool false]:=A5.1
     have QL5:=QL.sav K2 za0 A5.2
     have QH5:=hr'.out.sav K2 za0 A5.2
     have Y1:=K1.sav A5.2 (by omega)
     have W5:=W4.trans (A5.2.below (B:=w.heap.size) (by omega) W4.size)
     have aU:=ze4 QL5 QH5 hL q1b'.out q2b'.out
     rw[hS'.out] at aU
     have s6:w3.cell? ⟨w.heap.size,6,none⟩=some (.bool false):=K0.cell 6
     have s7:w3.cell? ⟨w.heap.size,7,none⟩=some (.bool false):=K0.cell 7
     obtain⟨h0,h1,h2,h3,h4,h5,h6,h7,h8⟩:=K2.c9
     have fr3:=K2.fr
     have Y1':Hid (BlkI _ _ _ _):=Y1
     have Y2':Hid (BlkI _ _ _ _):=Y2
     have QL':Hid (QAt _ _ _ _ _):=QL5
     have QH':Hid (QAt _ _ _ _ _):=QH5
     have W5':Hid (Below _ _ _):=W5
     clear K0 K1 K2 k2 k3 k4 k5 k6 k7 dp A5 Y1 Y2 QL QL5 QH5 W4 W5)
  | (go_at_call 39;with_reducible refine aU.mono ?_;rintro e w4 ⟨rfl,hb4⟩
     have Z1:=Y1'.out.below hb4
     have Z2:=Y2'.out.below hb4
     have QL6:=QL'.out.below hb4
     have QH6:=QH'.out.below hb4
     have W6:Below w.heap.size w w4:=W5'.out.trans (hb4.mono W5'.out.size)
     have hno:=zh1 w4
     obtain⟨m0,m1,m2,m3,m4,m5,m6,m7,m8⟩:=Z1.c9
     obtain⟨n0,n1,n2,n3,n4,n5,n6,n7,n8⟩:=Z2.c9
     have fr4:=Z1.fr
     have Z1':Hid (BlkI _ _ _ _):=Z1
     have QL':Hid (QAt _ _ _ _ _):=QL6
     have QH':Hid (QAt _ _ _ _ _):=QH6
     have W6':Hid (Below _ _ _):=W6
     clear Z1 Z2 QL6 QH6 W6 aU))
 have A9:=ze9 Z1'.out (.bool (mkG g1 (val nu1) (denI (val de1)))) (.slice qn nsq.length kn) (.slice qd dsq.length kd) (.bool (mkG g2 (val nu2) (denI (val de2)))) (.slice qm nsp.length km) (.slice qe dsp.length ke) (.bool false) (.bool false) (.bool false)
 have W9:=W6'.out.trans (A9.2.below (B:=w.heap.size) (by omega) W6'.out.size)
 refine bodyPost_ret (zae rfl _ _ (w.heap.size+1) [.bool (mkG g1 (val nu1) (denI (val de1))),.slice qn nsq.length kn,.slice qd dsq.length kd,.bool (mkG g2 (val nu2) (denI (val de2))),.slice qm nsp.length km,.slice qe dsp.length ke,.bool false,.bool false,.bool false] dd rfl (BlkI.row A9.1) hu hd zer) rfl ?_
 refine⟨_,rfl,?_,W9⟩
 have hv:(IvC.mk g1 (val nu1) (val de1) g2 (val nu2) (val de2) false false).v=⟨mkG g1 (val nu1) (denI (val de1)),mkN (val nu1) (denI (val de1)),mkD (val nu1) (denI (val de1)),mkG g2 (val nu2) (denI (val de2)),mkN (val nu2) (denI (val de2)),mkD (val nu2) (denI (val de2)),false,false,false⟩:=by
  unfold IvC.v
  rw[if_neg]
  ·rfl
  ·rintro⟨-,-,h⟩
   have h':0<sgnI (sg (mkG g1 (val nu1) (denI (val de1)))*((mkN (val nu1) (denI (val de1)))*denI (mkD (val nu2) (denI (val de2)))) - sg (mkG g2 (val nu2) (denI (val de2)))*((mkN (val nu2) (denI (val de2)))*denI (mkD (val nu1) (denI (val de1))))):=h
   rw[hS'.out] at h'
   exact absurd h' (by decide)
 rw[hv]
 have A0:=Z1'.out
 exact⟨_,_,_,_,rfl,QL'.out.sav A0 za0 A9.2,QH'.out.sav A0 za0 A9.2⟩
theorem iof_ffn {w:World} {g1 g2:Bool} {q1 p1 q2 p2:Option Addr} {l1 c1 m1 e1 l2 c2 m2 e2:Nat} {nu1 de1 nu2 de2:List Int} (h1:Sl w (.slice q1 l1 c1) nu1) (h2:Sl w (.slice p1 m1 e1) de1) (h3:Sl w (.slice q2 l2 c2) nu2) (h4:Sl w (.slice p2 m2 e2) de2)
  (b1:nu1.length<=34359737000) (b2:de1.length<=34359737000) (b3:nu2.length<=34359737000) (b4:de2.length<=34359737000) (hS:sgnI (sg (mkG g1 (val nu1) (denI (val de1)))*((mkN (val nu1) (denI (val de1)))*denI (mkD (val nu2) (denI (val de2)))) - sg (mkG g2 (val nu2) (denI (val de2)))*((mkN (val nu2) (denI (val de2)))*denI (mkD (val nu1) (denI (val de1)))))=-1):Calls Tryz.prog 17 #[.agg (iA g1 q1 l1 c1 p1 m1 e1 g2 q2 l2 c2 p2 m2 e2 false false)] w fun e w'=>∃v,e=.returned v/\IAt w' v (IvC.mk g1 (val nu1) (val de1) g2 (val nu2) (val de2) false false).v/\Below w.heap.size w w':=by
 obtain⟨dd,hu,hd⟩:=zh0
 obtain⟨L,hL,hL1,hLB⟩:=zb8
 have q1b:=zbz hL1 hLB h1.1 h2.1 b1 b2
 have q2b:=zbz hL1 hLB h3.1 h4.1 b3 b4
 have hb0:Below w.heap.size w (((w.alloc (.cells (iA g1 q1 l1 c1 p1 m1 e1 g2 q2 l2 c2 p2 m2 e2 false false) 56)).alloc (.cells zA 66)).alloc (.cells zA 66)):=zbk _ _ _ _
 have I0:=zlz w (iA g1 q1 l1 c1 p1 m1 e1 g2 q2 l2 c2 p2 m2 e2 false false) 56 (.cells zA 66) (.cells zA 66)
 have I1:=zjx w (.cells (iA g1 q1 l1 c1 p1 m1 e1 g2 q2 l2 c2 p2 m2 e2 false false) 56) zA 66 (.cells zA 66)
 have I2:=zl0 w (.cells (iA g1 q1 l1 c1 p1 m1 e1 g2 q2 l2 c2 p2 m2 e2 false false) 56) (.cells zA 66) zA 66
 have hof:=zbn (g:=g1) (h1.below hb0) (h2.below hb0) (by omega) (by omega)
 have eX:∀z,Below w.heap.size w z->_:=fun z hz=>zbn (g:=g2) (h3.below hz) (h4.below hz) (by omega) (by omega)
 have hS':Hid (sgnI _=_):=hS
 have I0':Hid (BlkI _ _ _ _):=I0
 have I1':Hid (BlkI _ _ _ _):=I1
 have I2':Hid (BlkI _ _ _ _):=I2
 have aQ:=zac hb0
 have q1b':Hid (QLt _ _ _):=q1b
 have q2b':Hid (QLt _ _ _):=q2b
 clear I0 I1 I2 hb0 h1 h2 h3 h4 q1b q2b hS hLB
 go_enter Tryz.func17,Tryz.ntmps17
 go_wp2_with (first
  | (go_at_call 40;with_reducible refine hof.mono ?_;rintro e w2 ⟨r,rfl,hq,hb2⟩
     have hq':Hid (QAt w2 r _ _ _):=hq
     obtain⟨u1,u2,nsq,dsq,rfl,k2,k3,k4,k5,k6,k7⟩:=hq
     obtain⟨qn,kn,rfl⟩:=k2.form
     obtain⟨qd,kd,rfl⟩:=k5.form
     have J0:=I0'.out.below hb2
     have J1:=I1'.out.below hb2
     have J2:=I2'.out.below hb2
     have W2:Below w.heap.size w w2:=aQ.out.trans (hb2.mono aQ.out.size)
     have A2:=zdx J2 0 (.bool (mkG g1 (val nu1) (denI (val de1)))) (.slice qn nsq.length kn) (.slice qd dsq.length kd)
     have X2:BlkI (((w2.setCell ⟨w.heap.size+1+1,0,none⟩ (.bool (mkG g1 (val nu1) (denI (val de1))))).setCell ⟨w.heap.size+1+1,1,none⟩ (.slice qn nsq.length kn)).setCell ⟨w.heap.size+1+1,2,none⟩ (.slice qd dsq.length kd)) (w.heap.size+1+1) 66 #[.bool (mkG g1 (val nu1) (denI (val de1))),.slice qn nsq.length kn,.slice qd dsq.length kd,.bool false,.slice none 0 0,.slice none 0 0,.bool false,.bool false,.bool false]:=A2.1
     have Q2:=hq'.out.sav J2 za0 A2.2
     have X0:=J0.sav A2.2 (by omega)
     have X1:=J1.sav A2.2 (by omega)
     have W3:=W2.trans (A2.2.below (B:=w.heap.size) (by omega) W2.size)
     have dp:=eX _ W3
     have c6:w2.cell? ⟨w.heap.size,6,none⟩=some (.bool false):=J0.cell 6
     have c7:w2.cell? ⟨w.heap.size,7,none⟩=some (.bool false):=J0.cell 7
     have c3:w2.cell? ⟨w.heap.size,3,none⟩=some (.bool g2):=J0.cell 3
     have c4:w2.cell? ⟨w.heap.size,4,none⟩=some (.slice q2 l2 c2):=J0.cell 4
     have c5:w2.cell? ⟨w.heap.size,5,none⟩=some (.slice p2 m2 e2):=J0.cell 5
     obtain⟨f0,f1,f2,f3,f4,f5,f6,f7,f8⟩:=J2.c9
     have fr2:=J2.fr
     have X0':Hid (BlkI _ _ _ _):=X0
     have X1':Hid (BlkI _ _ _ _):=X1
     have X2':Hid (BlkI _ _ _ _):=X2
     have Q2':Hid (QAt _ _ _ _ _):=Q2
     have W3':Hid (Below _ _ _):=W3
     clear J0 J1 J2 k2 k3 k4 k5 k6 k7 hof A2 X0 X1 X2 Q2 W3 W2)
  | (go_at_call 40;with_reducible refine dp.mono ?_;rintro e w3 ⟨r,rfl,hq,hb3⟩
     have hr':Hid (QAt w3 r _ _ _):=hq
     obtain⟨u1,u2,nsp,dsp,rfl,k2,k3,k4,k5,k6,k7⟩:=hq
     obtain⟨qm,km,rfl⟩:=k2.form
     obtain⟨qe,ke,rfl⟩:=k5.form
     have K0:=X0'.out.below hb3
     have K1:=X1'.out.below hb3
     have K2:=X2'.out.below hb3
     have QL:=Q2'.out.below hb3
     have W4:Below w.heap.size w w3:=W3'.out.trans (hb3.mono W3'.out.size)
     have A5:=zdx K2 3 (.bool (mkG g2 (val nu2) (denI (val de2)))) (.slice qm nsp.length km) (.slice qe dsp.length ke)
     have Y2:BlkI (((w3.setCell ⟨w.heap.size+1+1,3,none⟩ (.bool (mkG g2 (val nu2) (denI (val de2))))).setCell ⟨w.heap.size+1+1,4,none⟩ (.slice qm nsp.length km)).setCell ⟨w.heap.size+1+1,5,none⟩ (.slice qe dsp.length ke)) (w.heap.size+1+1) 66 #[.bool (mkG g1 (val nu1) (denI (val de1))),.slice qn nsq.length kn,.slice qd dsq.length kd,.bool (mkG g2 (val nu2) (denI (val de2))),.slice qm nsp.length km,.slice qe dsp.length ke,.bool false,.bool false,.bool false]:=A5.1
     have QL5:=QL.sav K2 za0 A5.2
     have QH5:=hr'.out.sav K2 za0 A5.2
     have Y1:=K1.sav A5.2 (by omega)
     have W5:=W4.trans (A5.2.below (B:=w.heap.size) (by omega) W4.size)
     have aU:=ze4 QL5 QH5 hL q1b'.out q2b'.out
     rw[hS'.out] at aU
     have s6:w3.cell? ⟨w.heap.size,6,none⟩=some (.bool false):=K0.cell 6
     have s7:w3.cell? ⟨w.heap.size,7,none⟩=some (.bool false):=K0.cell 7
     obtain⟨h0,h1,h2,h3,h4,h5,h6,h7,h8⟩:=K2.c9
     have fr3:=K2.fr
     have Y1':Hid (BlkI _ _ _ _):=Y1
     have Y2':Hid (BlkI _ _ _ _):=Y2
     have QL':Hid (QAt _ _ _ _ _):=QL5
     have QH':Hid (QAt _ _ _ _ _):=QH5
     have W5':Hid (Below _ _ _):=W5
     clear K0 K1 K2 k2 k3 k4 k5 k6 k7 dp A5 Y1 Y2 QL QL5 QH5 W4 W5)
  | (go_at_call 39;with_reducible refine aU.mono ?_;rintro e w4 ⟨rfl,hb4⟩
     have Z1:=Y1'.out.below hb4
     have Z2:=Y2'.out.below hb4
     have QL6:=QL'.out.below hb4
     have QH6:=QH'.out.below hb4
     have W6:Below w.heap.size w w4:=W5'.out.trans (hb4.mono W5'.out.size)
     have hno:=zh1 w4
     obtain⟨m0,m1,m2,m3,m4,m5,m6,m7,m8⟩:=Z1.c9
     obtain⟨n0,n1,n2,n3,n4,n5,n6,n7,n8⟩:=Z2.c9
     have fr4:=Z1.fr
     have Z1':Hid (BlkI _ _ _ _):=Z1
     have QL':Hid (QAt _ _ _ _ _):=QL6
     have QH':Hid (QAt _ _ _ _ _):=QH6
     have W6':Hid (Below _ _ _):=W6
     clear Z1 Z2 QL6 QH6 W6 aU))
 have A9:=ze9 Z1'.out (.bool (mkG g1 (val nu1) (denI (val de1)))) (.slice qn nsq.length kn) (.slice qd dsq.length kd) (.bool (mkG g2 (val nu2) (denI (val de2)))) (.slice qm nsp.length km) (.slice qe dsp.length ke) (.bool false) (.bool false) (.bool false)
 have W9:=W6'.out.trans (A9.2.below (B:=w.heap.size) (by omega) W6'.out.size)
 refine bodyPost_ret (zae rfl _ _ (w.heap.size+1) [.bool (mkG g1 (val nu1) (denI (val de1))),.slice qn nsq.length kn,.slice qd dsq.length kd,.bool (mkG g2 (val nu2) (denI (val de2))),.slice qm nsp.length km,.slice qe dsp.length ke,.bool false,.bool false,.bool false] dd rfl (BlkI.row A9.1) hu hd zer) rfl ?_
 refine⟨_,rfl,?_,W9⟩
 have hv:(IvC.mk g1 (val nu1) (val de1) g2 (val nu2) (val de2) false false).v=⟨mkG g1 (val nu1) (denI (val de1)),mkN (val nu1) (denI (val de1)),mkD (val nu1) (denI (val de1)),mkG g2 (val nu2) (denI (val de2)),mkN (val nu2) (denI (val de2)),mkD (val nu2) (denI (val de2)),false,false,false⟩:=by
  unfold IvC.v
  rw[if_neg]
  ·rfl
  ·rintro⟨-,-,h⟩
   have h':0<sgnI (sg (mkG g1 (val nu1) (denI (val de1)))*((mkN (val nu1) (denI (val de1)))*denI (mkD (val nu2) (denI (val de2)))) - sg (mkG g2 (val nu2) (denI (val de2)))*((mkN (val nu2) (denI (val de2)))*denI (mkD (val nu1) (denI (val de1))))):=h
   rw[hS'.out] at h'
   exact absurd h' (by decide)
 rw[hv]
 have A0:=Z1'.out
 exact⟨_,_,_,_,rfl,QL'.out.sav A0 za0 A9.2,QH'.out.sav A0 za0 A9.2⟩
theorem zl1 (s:Int):sgnI s=1\/sgnI s=0\/sgnI s=-1:=by
 unfold sgnI
 split
 ·exact .inr (.inl rfl)
 ·split
  ·exact .inr (.inr rfl)
  ·exact .inl rfl
theorem iof_ok {w:World} {g1 g2:Bool} {q1 p1 q2 p2:Option Addr} {l1 c1 m1 e1 l2 c2 m2 e2:Nat} {nu1 de1 nu2 de2:List Int} (h1:Sl w (.slice q1 l1 c1) nu1) (h2:Sl w (.slice p1 m1 e1) de1) (h3:Sl w (.slice q2 l2 c2) nu2) (h4:Sl w (.slice p2 m2 e2) de2)
  (b1:nu1.length<=34359737000) (b2:de1.length<=34359737000) (b3:nu2.length<=34359737000) (b4:de2.length<=34359737000) (li hh:Bool):Calls Tryz.prog 17 #[.agg (iA g1 q1 l1 c1 p1 m1 e1 g2 q2 l2 c2 p2 m2 e2 li hh)] w fun e w'=>∃v,e=.returned v/\IAt w' v (IvC.mk g1 (val nu1) (val de1) g2 (val nu2) (val de2) li hh).v/\Below w.heap.size w w':=by
 cases li<;>cases hh
 ·rcases zl1 (sg (mkG g1 (val nu1) (denI (val de1)))*((mkN (val nu1) (denI (val de1)))*denI (mkD (val nu2) (denI (val de2)))) - sg (mkG g2 (val nu2) (denI (val de2)))*((mkN (val nu2) (denI (val de2)))*denI (mkD (val nu1) (denI (val de1))))) with h | h | h
  ·exact iof_ffp h1 h2 h3 h4 b1 b2 b3 b4 h
  ·exact iof_ffz h1 h2 h3 h4 b1 b2 b3 b4 h
  ·exact iof_ffn h1 h2 h3 h4 b1 b2 b3 b4 h
 ·exact iof_ft h1 h2 h3 h4 b1 b2 b3 b4
 ·exact iof_tf h1 h2 h3 h4 b1 b2 b3 b4
 ·exact iof_tt h1 h2 h3 h4 b1 b2 b3 b4
end Go.Proofs.YtaonejnicgbifaaGreatDoor
