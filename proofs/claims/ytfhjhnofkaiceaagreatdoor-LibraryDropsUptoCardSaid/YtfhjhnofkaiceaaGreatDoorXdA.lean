import Derived.Test.YtfhjhnofkaiceaaGreatDoorWdD
namespace Go.Proofs.YtfhjhnofkaiceaaGreatDoor
open Go Go.RowKit
theorem zar (w:World) (a b c:Obj):Below w.heap.size w (((w.alloc a).alloc b).alloc c):=(below_two w a b).alloc (by simp;omega) c
theorem zf3 (w:World) (cs:Array Value) (t:TypeId) (b c:Obj):BlkI (((w.alloc (.cells cs t)).alloc b).alloc c) w.heap.size t cs:=by
 have h1:BlkI (w.alloc (.cells cs t)) w.heap.size t cs:=heap_alloc_new w _
 exact(h1.below (below_alloc _ b)).below (below_alloc _ c)
theorem ze2 (w:World) (a:Obj) (cs:Array Value) (t:TypeId) (c:Obj):BlkI (((w.alloc a).alloc (.cells cs t)).alloc c) (w.heap.size+1) t cs:=by
 have h1:BlkI ((w.alloc a).alloc (.cells cs t)) (w.alloc a).heap.size t cs:=heap_alloc_new _ _
 have h2:=h1.below (below_alloc _ c)
 rwa [show (w.alloc a).heap.size=w.heap.size+1 by simp] at h2
theorem zf4 (w:World) (a b:Obj) (cs:Array Value) (t:TypeId):BlkI (((w.alloc a).alloc b).alloc (.cells cs t)) (w.heap.size+1+1) t cs:=by
 have h1:BlkI (((w.alloc a).alloc b).alloc (.cells cs t)) ((w.alloc a).alloc b).heap.size t cs:=heap_alloc_new _ _
 rwa [show ((w.alloc a).alloc b).heap.size=w.heap.size+1+1 by simp] at h1
theorem BlkI.sav {w w':World} {N M:Nat} {t:TypeId} {cs:Array Value} (h:BlkI w N t cs) (hs:Sav M w w') (hne:N≠M):BlkI w' N t cs:=(hs.block N h.lt hne).trans h
theorem zby {w:World} {N:Nat} {t:TypeId} {cs:Array Value} (h:BlkI w N t cs) (j:Nat) (v0 v1 v2:Value):
  BlkI (((w.setCell ⟨N,j,none⟩ v0).setCell ⟨N,j+1,none⟩ v1).setCell ⟨N,j+2,none⟩ v2) N t (((cs.setIfInBounds j v0).setIfInBounds (j+1) v1).setIfInBounds (j+2) v2)/\Sav N w (((w.setCell ⟨N,j,none⟩ v0).setCell ⟨N,j+1,none⟩ v1).setCell ⟨N,j+2,none⟩ v2):=
 ⟨((h.set _ _).set _ _).set _ _,((((Sav.of (Below.refl _ _)).setCell _ _).setCell _ _).setCell _ _)⟩
theorem zdh {w:World} {N:Nat} {t:TypeId} {y0 y1 y2 y3 y4 y5 y6 y7 y8:Value} (h:BlkI w N t #[y0,y1,y2,y3,y4,y5,y6,y7,y8]) (v0 v1 v2 v3 v4 v5 v6 v7 v8:Value):
  BlkI (((((((((w.setCell ⟨N,0,none⟩ v0).setCell ⟨N,1,none⟩ v1).setCell ⟨N,2,none⟩ v2).setCell ⟨N,3,none⟩ v3).setCell ⟨N,4,none⟩ v4).setCell ⟨N,5,none⟩ v5).setCell ⟨N,6,none⟩ v6).setCell ⟨N,7,none⟩ v7).setCell ⟨N,8,none⟩ v8) N t #[v0,v1,v2,v3,v4,v5,v6,v7,v8]/\
  Sav N w (((((((((w.setCell ⟨N,0,none⟩ v0).setCell ⟨N,1,none⟩ v1).setCell ⟨N,2,none⟩ v2).setCell ⟨N,3,none⟩ v3).setCell ⟨N,4,none⟩ v4).setCell ⟨N,5,none⟩ v5).setCell ⟨N,6,none⟩ v6).setCell ⟨N,7,none⟩ v7).setCell ⟨N,8,none⟩ v8):=by
 have a0:BlkI _ N t #[v0,y1,y2,y3,y4,y5,y6,y7,y8]:=h.set 0 v0
 have a1:BlkI _ N t #[v0,v1,y2,y3,y4,y5,y6,y7,y8]:=a0.set 1 v1
 have a2:BlkI _ N t #[v0,v1,v2,y3,y4,y5,y6,y7,y8]:=a1.set 2 v2
 have a3:BlkI _ N t #[v0,v1,v2,v3,y4,y5,y6,y7,y8]:=a2.set 3 v3
 have a4:BlkI _ N t #[v0,v1,v2,v3,v4,y5,y6,y7,y8]:=a3.set 4 v4
 have a5:BlkI _ N t #[v0,v1,v2,v3,v4,v5,y6,y7,y8]:=a4.set 5 v5
 have a6:BlkI _ N t #[v0,v1,v2,v3,v4,v5,v6,y7,y8]:=a5.set 6 v6
 have a7:BlkI _ N t #[v0,v1,v2,v3,v4,v5,v6,v7,y8]:=a6.set 7 v7
 have a8:BlkI _ N t #[v0,v1,v2,v3,v4,v5,v6,v7,v8]:=a7.set 8 v8
 have b:Sav N w _:=((((((((((Sav.of (Below.refl _ w)).setCell 0 v0).setCell 1 v1).setCell 2 v2).setCell 3 v3).setCell 4 v4).setCell 5 v5).setCell 6 v6).setCell 7 v7).setCell 8 v8)
 exact⟨a8,b⟩
theorem mk_bound {n d B:Int} (hn:0<=n) (hd:0<=d) (h1:n<B) (h2:denI d<B) (h3:1<B):mkN n (denI d)<B/\mkD n (denI d)<B:=by
 have:=mkN_le hn (by have:=zck hd;omega:0<=denI d)
 omega
theorem zdz {xs:List Int} (hd:Dig xs) (hl:xs.length<=34359737000):val xs<65536^(68719475000:Nat):=by
 have h1:=val_lt16 (dig_halves hd)
 rw[val_halves,halves_length] at h1
 have h2:=pow16_mono (by omega:2*xs.length<=68719475000)
 exact Int.lt_of_lt_of_le h1 h2
set_option maxRecDepth 100000 in
set_option maxHeartbeats 2000000 in
theorem iof_tt {w:World} {g1 g2:Bool} {q1 p1 q2 p2:Option Addr} {l1 c1 m1 e1 l2 c2 m2 e2:Nat} {nu1 de1 nu2 de2:List Int} (_h1:Sl w (.slice q1 l1 c1) nu1) (_h2:Sl w (.slice p1 m1 e1) de1) (_h3:Sl w (.slice q2 l2 c2) nu2) (_h4:Sl w (.slice p2 m2 e2) de2)
  (_b1:nu1.length<=34359737000) (_b2:de1.length<=34359737000) (_b3:nu2.length<=34359737000) (_b4:de2.length<=34359737000):Calls Tryz.prog 103 #[.agg #[.bool g1,.slice q1 l1 c1,.slice p1 m1 e1,.bool g2,.slice q2 l2 c2,.slice p2 m2 e2,.bool true,.bool true]] w fun e w'=>∃v,e=.returned v/\IAt w' v (IvC.mk g1 (val nu1) (val de1) g2 (val nu2) (val de2) true true).v/\Below w.heap.size w w':=by
 obtain⟨dd,hu,hd⟩:=zdn
 go_enter Tryz.func103,Tryz.ntmps103
 go_wp2
 refine bodyPost_ret (zac rfl _ _ (w.heap.size+1) [.bool false,.slice none 0 0,.slice none 0 0,.bool false,.slice none 0 0,.slice none 0 0,.bool true,.bool true,.bool false] dd rfl (BlkI.row (ze2 w _ #[.bool false,.slice none 0 0,.slice none 0 0,.bool false,.slice none 0 0,.slice none 0 0,.bool true,.bool true,.bool false] 151 _)) hu hd zbw) rfl ?_
 refine⟨_,rfl,?_,zar _ _ _ _⟩
 have hv:(IvC.mk g1 (val nu1) (val de1) g2 (val nu2) (val de2) true true).v=⟨false,0,0,false,0,0,true,true,false⟩:=by simp[IvC.v,IvC.lo,IvC.hi]
 rw[hv]
 exact⟨_,_,_,_,rfl,za8 _,za8 _⟩
set_option maxRecDepth 100000 in
set_option maxHeartbeats 4000000 in
theorem iof_tf {w:World} {g1 g2:Bool} {q1 p1 q2 p2:Option Addr} {l1 c1 m1 e1 l2 c2 m2 e2:Nat} {nu1 de1 nu2 de2:List Int} (_h1:Sl w (.slice q1 l1 c1) nu1) (_h2:Sl w (.slice p1 m1 e1) de1) (h3:Sl w (.slice q2 l2 c2) nu2) (h4:Sl w (.slice p2 m2 e2) de2)
  (_b1:nu1.length<=34359737000) (_b2:de1.length<=34359737000) (b3:nu2.length<=34359737000) (b4:de2.length<=34359737000):Calls Tryz.prog 103 #[.agg #[.bool g1,.slice q1 l1 c1,.slice p1 m1 e1,.bool g2,.slice q2 l2 c2,.slice p2 m2 e2,.bool true,.bool false]] w fun e w'=>∃v,e=.returned v/\IAt w' v (IvC.mk g1 (val nu1) (val de1) g2 (val nu2) (val de2) true false).v/\Below w.heap.size w w':=by
 obtain⟨dd,hu,hd⟩:=zdn
 have hb0:Below w.heap.size w (((w.alloc (.cells #[.bool g1,.slice q1 l1 c1,.slice p1 m1 e1,.bool g2,.slice q2 l2 c2,.slice p2 m2 e2,.bool true,.bool false] 92)).alloc (.cells zw9 151)).alloc (.cells #[.bool false,.slice none 0 0,.slice none 0 0,.bool false,.slice none 0 0,.slice none 0 0,.bool true,.bool false,.bool false] 151)):=zar _ _ _ _
 have I0:=zf3 w #[.bool g1,.slice q1 l1 c1,.slice p1 m1 e1,.bool g2,.slice q2 l2 c2,.slice p2 m2 e2,.bool true,.bool false] 92 (.cells zw9 151) (.cells #[.bool false,.slice none 0 0,.slice none 0 0,.bool false,.slice none 0 0,.slice none 0 0,.bool true,.bool false,.bool false] 151)
 have I1:=ze2 w (.cells #[.bool g1,.slice q1 l1 c1,.slice p1 m1 e1,.bool g2,.slice q2 l2 c2,.slice p2 m2 e2,.bool true,.bool false] 92) zw9 151 (.cells #[.bool false,.slice none 0 0,.slice none 0 0,.bool false,.slice none 0 0,.slice none 0 0,.bool true,.bool false,.bool false] 151)
 have I2:=zf4 w (.cells #[.bool g1,.slice q1 l1 c1,.slice p1 m1 e1,.bool g2,.slice q2 l2 c2,.slice p2 m2 e2,.bool true,.bool false] 92) (.cells zw9 151) #[.bool false,.slice none 0 0,.slice none 0 0,.bool false,.slice none 0 0,.slice none 0 0,.bool true,.bool false,.bool false] 151
 have hof:=za3 (g:=g2) (h3.below hb0) (h4.below hb0) (by omega) (by omega)
 have I0':Hid (BlkI _ _ _ _):=I0
 have I1':Hid (BlkI _ _ _ _):=I1
 have I2':Hid (BlkI _ _ _ _):=I2
 have hb0':=hid_of hb0
 clear I0 I1 I2 hb0 h3 h4
 go_enter Tryz.func103,Tryz.ntmps103
 go_wp2_with (go_at_call 133;with_reducible refine hof.mono ?_;rintro e w2 ⟨r,rfl,hq,hb2⟩
              have hq':Hid (QAt w2 r _ _ _):=hq
              obtain⟨u1,u2,nsq,dsq,rfl,k2,k3,k4,k5,k6,k7⟩:=hq
              obtain⟨qn,kn,rfl⟩:=k2.form
              obtain⟨qd,kd,rfl⟩:=k5.form
              have J0:=I0'.out.below hb2
              have J1:=I1'.out.below hb2
              have J2:=I2'.out.below hb2
              have c6:w2.cell? ⟨w.heap.size,6,none⟩=some (.bool true):=J0.cell 6
              have c7:w2.cell? ⟨w.heap.size,7,none⟩=some (.bool false):=J0.cell 7
              have d0:w2.cell? ⟨w.heap.size+1,0,none⟩=some (.bool false):=J1.cell 0
              have d1:w2.cell? ⟨w.heap.size+1,1,none⟩=some (.slice none 0 0):=J1.cell 1
              have d2:w2.cell? ⟨w.heap.size+1,2,none⟩=some (.slice none 0 0):=J1.cell 2
              have d3:w2.cell? ⟨w.heap.size+1,3,none⟩=some (.bool false):=J1.cell 3
              have d4:w2.cell? ⟨w.heap.size+1,4,none⟩=some (.slice none 0 0):=J1.cell 4
              have d5:w2.cell? ⟨w.heap.size+1,5,none⟩=some (.slice none 0 0):=J1.cell 5
              have d6:w2.cell? ⟨w.heap.size+1,6,none⟩=some (.bool false):=J1.cell 6
              have d7:w2.cell? ⟨w.heap.size+1,7,none⟩=some (.bool false):=J1.cell 7
              have d8:w2.cell? ⟨w.heap.size+1,8,none⟩=some (.bool false):=J1.cell 8
              have f0:w2.cell? ⟨w.heap.size+1+1,0,none⟩=some (.bool false):=J2.cell 0
              have f1:w2.cell? ⟨w.heap.size+1+1,1,none⟩=some (.slice none 0 0):=J2.cell 1
              have f2:w2.cell? ⟨w.heap.size+1+1,2,none⟩=some (.slice none 0 0):=J2.cell 2
              have f3:w2.cell? ⟨w.heap.size+1+1,3,none⟩=some (.bool false):=J2.cell 3
              have f4:w2.cell? ⟨w.heap.size+1+1,4,none⟩=some (.slice none 0 0):=J2.cell 4
              have f5:w2.cell? ⟨w.heap.size+1+1,5,none⟩=some (.slice none 0 0):=J2.cell 5
              have f6:w2.cell? ⟨w.heap.size+1+1,6,none⟩=some (.bool true):=J2.cell 6
              have f7:w2.cell? ⟨w.heap.size+1+1,7,none⟩=some (.bool false):=J2.cell 7
              have f8:w2.cell? ⟨w.heap.size+1+1,8,none⟩=some (.bool false):=J2.cell 8
              have fr1:=J1.fr
              have fr2:=J2.fr
              have J1':Hid (BlkI _ _ _ _):=J1
              have J2':Hid (BlkI _ _ _ _):=J2
              clear J0 J1 J2 k2 k3 k4 k5 k6 k7)
 have A2:=zby J2'.out 3 (.bool (mkG g2 (val nu2) (denI (val de2)))) (.slice qn nsq.length kn) (.slice qd dsq.length kd)
 have Q2:=hq'.out.sav J2'.out zaj A2.2
 have B1:=J1'.out.sav A2.2 (by omega)
 have W2:Below w.heap.size w w2:=hb0'.out.trans (hb2.mono hb0'.out.size)
 have W3:=W2.trans (A2.2.below (B:=w.heap.size) (by omega) W2.size)
 have Q3:=Q2
 have C1:=B1
 have W4:=W3
 have A9:=zdh C1 (.bool false) (.slice none 0 0) (.slice none 0 0) (.bool (mkG g2 (val nu2) (denI (val de2)))) (.slice qn nsq.length kn) (.slice qd dsq.length kd) (.bool true) (.bool false) (.bool false)
 have Q9:=Q3.sav C1 zaj A9.2
 have W9:=W4.trans (A9.2.below (B:=w.heap.size) (by omega) W4.size)
 refine bodyPost_ret (zac rfl _ _ (w.heap.size+1) [.bool false,.slice none 0 0,.slice none 0 0,.bool (mkG g2 (val nu2) (denI (val de2))),.slice qn nsq.length kn,.slice qd dsq.length kd,.bool true,.bool false,.bool false] dd rfl (BlkI.row A9.1) hu hd zbw) rfl ?_
 refine⟨_,rfl,?_,W9⟩
 have hv:(IvC.mk g1 (val nu1) (val de1) g2 (val nu2) (val de2) true false).v=⟨false,0,0,mkG g2 (val nu2) (denI (val de2)),mkN (val nu2) (denI (val de2)),mkD (val nu2) (denI (val de2)),true,false,false⟩:=by simp[IvC.v,IvC.lo,IvC.hi]
 rw[hv]
 exact⟨_,_,_,_,rfl,za8 _,Q9⟩
set_option maxRecDepth 100000 in
set_option maxHeartbeats 4000000 in
theorem iof_ft {w:World} {g1 g2:Bool} {q1 p1 q2 p2:Option Addr} {l1 c1 m1 e1 l2 c2 m2 e2:Nat} {nu1 de1 nu2 de2:List Int} (h1:Sl w (.slice q1 l1 c1) nu1) (h2:Sl w (.slice p1 m1 e1) de1) (_h3:Sl w (.slice q2 l2 c2) nu2) (_h4:Sl w (.slice p2 m2 e2) de2)
  (b1:nu1.length<=34359737000) (b2:de1.length<=34359737000) (_b3:nu2.length<=34359737000) (_b4:de2.length<=34359737000):Calls Tryz.prog 103 #[.agg #[.bool g1,.slice q1 l1 c1,.slice p1 m1 e1,.bool g2,.slice q2 l2 c2,.slice p2 m2 e2,.bool false,.bool true]] w fun e w'=>∃v,e=.returned v/\IAt w' v (IvC.mk g1 (val nu1) (val de1) g2 (val nu2) (val de2) false true).v/\Below w.heap.size w w':=by
 obtain⟨dd,hu,hd⟩:=zdn
 have hb0:Below w.heap.size w (((w.alloc (.cells #[.bool g1,.slice q1 l1 c1,.slice p1 m1 e1,.bool g2,.slice q2 l2 c2,.slice p2 m2 e2,.bool false,.bool true] 92)).alloc (.cells zw9 151)).alloc (.cells zw9 151)):=zar _ _ _ _
 have I0:=zf3 w #[.bool g1,.slice q1 l1 c1,.slice p1 m1 e1,.bool g2,.slice q2 l2 c2,.slice p2 m2 e2,.bool false,.bool true] 92 (.cells zw9 151) (.cells zw9 151)
 have I1:=ze2 w (.cells #[.bool g1,.slice q1 l1 c1,.slice p1 m1 e1,.bool g2,.slice q2 l2 c2,.slice p2 m2 e2,.bool false,.bool true] 92) zw9 151 (.cells zw9 151)
 have I2:=zf4 w (.cells #[.bool g1,.slice q1 l1 c1,.slice p1 m1 e1,.bool g2,.slice q2 l2 c2,.slice p2 m2 e2,.bool false,.bool true] 92) (.cells zw9 151) zw9 151
 have hof:=za3 (g:=g1) (h1.below hb0) (h2.below hb0) (by omega) (by omega)
 have I0':Hid (BlkI _ _ _ _):=I0
 have I1':Hid (BlkI _ _ _ _):=I1
 have I2':Hid (BlkI _ _ _ _):=I2
 have hb0':=hid_of hb0
 clear I0 I1 I2 hb0 h1 h2
 go_enter Tryz.func103,Tryz.ntmps103
 go_wp2_with (go_at_call 133;with_reducible refine hof.mono ?_;rintro e w2 ⟨r,rfl,hq,hb2⟩
              have hq':Hid (QAt w2 r _ _ _):=hq
              obtain⟨u1,u2,nsq,dsq,rfl,k2,k3,k4,k5,k6,k7⟩:=hq
              obtain⟨qn,kn,rfl⟩:=k2.form
              obtain⟨qd,kd,rfl⟩:=k5.form
              have J0:=I0'.out.below hb2
              have J1:=I1'.out.below hb2
              have J2:=I2'.out.below hb2
              have c6:w2.cell? ⟨w.heap.size,6,none⟩=some (.bool false):=J0.cell 6
              have c7:w2.cell? ⟨w.heap.size,7,none⟩=some (.bool true):=J0.cell 7
              have d0:w2.cell? ⟨w.heap.size+1,0,none⟩=some (.bool false):=J1.cell 0
              have d1:w2.cell? ⟨w.heap.size+1,1,none⟩=some (.slice none 0 0):=J1.cell 1
              have d2:w2.cell? ⟨w.heap.size+1,2,none⟩=some (.slice none 0 0):=J1.cell 2
              have d3:w2.cell? ⟨w.heap.size+1,3,none⟩=some (.bool false):=J1.cell 3
              have d4:w2.cell? ⟨w.heap.size+1,4,none⟩=some (.slice none 0 0):=J1.cell 4
              have d5:w2.cell? ⟨w.heap.size+1,5,none⟩=some (.slice none 0 0):=J1.cell 5
              have d6:w2.cell? ⟨w.heap.size+1,6,none⟩=some (.bool false):=J1.cell 6
              have d7:w2.cell? ⟨w.heap.size+1,7,none⟩=some (.bool false):=J1.cell 7
              have d8:w2.cell? ⟨w.heap.size+1,8,none⟩=some (.bool false):=J1.cell 8
              have f0:w2.cell? ⟨w.heap.size+1+1,0,none⟩=some (.bool false):=J2.cell 0
              have f1:w2.cell? ⟨w.heap.size+1+1,1,none⟩=some (.slice none 0 0):=J2.cell 1
              have f2:w2.cell? ⟨w.heap.size+1+1,2,none⟩=some (.slice none 0 0):=J2.cell 2
              have f3:w2.cell? ⟨w.heap.size+1+1,3,none⟩=some (.bool false):=J2.cell 3
              have f4:w2.cell? ⟨w.heap.size+1+1,4,none⟩=some (.slice none 0 0):=J2.cell 4
              have f5:w2.cell? ⟨w.heap.size+1+1,5,none⟩=some (.slice none 0 0):=J2.cell 5
              have f6:w2.cell? ⟨w.heap.size+1+1,6,none⟩=some (.bool false):=J2.cell 6
              have f7:w2.cell? ⟨w.heap.size+1+1,7,none⟩=some (.bool false):=J2.cell 7
              have f8:w2.cell? ⟨w.heap.size+1+1,8,none⟩=some (.bool false):=J2.cell 8
              have fr1:=J1.fr
              have fr2:=J2.fr
              have J1':Hid (BlkI _ _ _ _):=J1
              have J2':Hid (BlkI _ _ _ _):=J2
              clear J0 J1 J2 k2 k3 k4 k5 k6 k7)
 have A2:=zby J2'.out 0 (.bool (mkG g1 (val nu1) (denI (val de1)))) (.slice qn nsq.length kn) (.slice qd dsq.length kd)
 have Q2:=hq'.out.sav J2'.out zaj A2.2
 have B1:=J1'.out.sav A2.2 (by omega)
 have W2:Below w.heap.size w w2:=hb0'.out.trans (hb2.mono hb0'.out.size)
 have W3:=W2.trans (A2.2.below (B:=w.heap.size) (by omega) W2.size)
 have A3:Sav (w.heap.size+1+1) (((w2.setCell ⟨w.heap.size+1+1,0,none⟩ (.bool (mkG g1 (val nu1) (denI (val de1))))).setCell ⟨w.heap.size+1+1,1,none⟩ (.slice qn nsq.length kn)).setCell ⟨w.heap.size+1+1,2,none⟩ (.slice qd dsq.length kd)) ((((w2.setCell ⟨w.heap.size+1+1,0,none⟩ (.bool (mkG g1 (val nu1) (denI (val de1))))).setCell ⟨w.heap.size+1+1,1,none⟩ (.slice qn nsq.length kn)).setCell ⟨w.heap.size+1+1,2,none⟩ (.slice qd dsq.length kd)).setCell ⟨w.heap.size+1+1,7,none⟩ (.bool true)):=(Sav.of (Below.refl _ _)).setCell 7 _
 have Q3:=Q2.sav A2.1 zaj A3
 have C1:=B1.sav A3 (by omega)
 have W4:=W3.trans (A3.below (B:=w.heap.size) (by omega) W3.size)
 have A9:=zdh C1 (.bool (mkG g1 (val nu1) (denI (val de1)))) (.slice qn nsq.length kn) (.slice qd dsq.length kd) (.bool false) (.slice none 0 0) (.slice none 0 0) (.bool false) (.bool true) (.bool false)
 have Q9:=Q3.sav C1 zaj A9.2
 have W9:=W4.trans (A9.2.below (B:=w.heap.size) (by omega) W4.size)
 refine bodyPost_ret (zac rfl _ _ (w.heap.size+1) [.bool (mkG g1 (val nu1) (denI (val de1))),.slice qn nsq.length kn,.slice qd dsq.length kd,.bool false,.slice none 0 0,.slice none 0 0,.bool false,.bool true,.bool false] dd rfl (BlkI.row A9.1) hu hd zbw) rfl ?_
 refine⟨_,rfl,?_,W9⟩
 have hv:(IvC.mk g1 (val nu1) (val de1) g2 (val nu2) (val de2) false true).v=⟨mkG g1 (val nu1) (denI (val de1)),mkN (val nu1) (denI (val de1)),mkD (val nu1) (denI (val de1)),false,0,0,false,true,false⟩:=by simp[IvC.v,IvC.lo,IvC.hi]
 rw[hv]
 exact⟨_,_,_,_,rfl,Q9,za8 _⟩
theorem zbc:∃L:Nat,L<=68719476000/\1<=L/\∀xs:List Int,Dig xs->xs.length<=34359737000->val xs<65536^L:=
 ⟨68719475000,by decide,by decide,fun _ hd hl=>zdz hd hl⟩
theorem za7 {L:Nat} (h1:1<=L) (hB:∀xs:List Int,Dig xs->xs.length<=34359737000->val xs<65536^L) {nu de:List Int} (hn:Dig nu) (hd:Dig de) (ln:nu.length<=34359737000) (ld:de.length<=34359737000):
  QLt L (mkN (val nu) (denI (val de))) (mkD (val nu) (denI (val de))):=by
 have h3:(1:Int)<65536^L:=by
  have:=pow16_mono h1
  omega
 have h4:=hB nu hn ln
 have h5:=hB de hd ld
 have h6:denI (val de)<65536^L:=by
  unfold denI
  split<;>omega
 exact mk_bound (val_nonneg hn) (val_nonneg hd) h4 h6 h3
set_option maxRecDepth 100000 in
set_option maxHeartbeats 4000000 in
theorem iof_ffp {w:World} {g1 g2:Bool} {q1 p1 q2 p2:Option Addr} {l1 c1 m1 e1 l2 c2 m2 e2:Nat} {nu1 de1 nu2 de2:List Int} (h1:Sl w (.slice q1 l1 c1) nu1) (h2:Sl w (.slice p1 m1 e1) de1) (h3:Sl w (.slice q2 l2 c2) nu2) (h4:Sl w (.slice p2 m2 e2) de2)
  (b1:nu1.length<=34359737000) (b2:de1.length<=34359737000) (b3:nu2.length<=34359737000) (b4:de2.length<=34359737000) (hS:sgnI (sg (mkG g1 (val nu1) (denI (val de1)))*((mkN (val nu1) (denI (val de1)))*denI (mkD (val nu2) (denI (val de2)))) - sg (mkG g2 (val nu2) (denI (val de2)))*((mkN (val nu2) (denI (val de2)))*denI (mkD (val nu1) (denI (val de1)))))=1):Calls Tryz.prog 103 #[.agg #[.bool g1,.slice q1 l1 c1,.slice p1 m1 e1,.bool g2,.slice q2 l2 c2,.slice p2 m2 e2,.bool false,.bool false]] w fun e w'=>∃v,e=.returned v/\IAt w' v (IvC.mk g1 (val nu1) (val de1) g2 (val nu2) (val de2) false false).v/\Below w.heap.size w w':=by
 obtain⟨dd,hu,hd⟩:=zdn
 obtain⟨L,hL,hL1,hLB⟩:=zbc
 have q1b:=za7 hL1 hLB h1.1 h2.1 b1 b2
 have q2b:=za7 hL1 hLB h3.1 h4.1 b3 b4
 have hb0:Below w.heap.size w (((w.alloc (.cells #[.bool g1,.slice q1 l1 c1,.slice p1 m1 e1,.bool g2,.slice q2 l2 c2,.slice p2 m2 e2,.bool false,.bool false] 92)).alloc (.cells zw9 151)).alloc (.cells zw9 151)):=zar _ _ _ _
 have I0:=zf3 w #[.bool g1,.slice q1 l1 c1,.slice p1 m1 e1,.bool g2,.slice q2 l2 c2,.slice p2 m2 e2,.bool false,.bool false] 92 (.cells zw9 151) (.cells zw9 151)
 have I1:=ze2 w (.cells #[.bool g1,.slice q1 l1 c1,.slice p1 m1 e1,.bool g2,.slice q2 l2 c2,.slice p2 m2 e2,.bool false,.bool false] 92) zw9 151 (.cells zw9 151)
 have I2:=zf4 w (.cells #[.bool g1,.slice q1 l1 c1,.slice p1 m1 e1,.bool g2,.slice q2 l2 c2,.slice p2 m2 e2,.bool false,.bool false] 92) (.cells zw9 151) zw9 151
 have hof:=za3 (g:=g1) (h1.below hb0) (h2.below hb0) (by omega) (by omega)
 have hofB:∀z,Below w.heap.size w z->_:=fun z hz=>za3 (g:=g2) (h3.below hz) (h4.below hz) (by omega) (by omega)
 have hS':Hid (sgnI _=_):=hS
 have I0':Hid (BlkI _ _ _ _):=I0
 have I1':Hid (BlkI _ _ _ _):=I1
 have I2':Hid (BlkI _ _ _ _):=I2
 have hb0':=hid_of hb0
 have q1b':Hid (QLt _ _ _):=q1b
 have q2b':Hid (QLt _ _ _):=q2b
 clear I0 I1 I2 hb0 h1 h2 h3 h4 q1b q2b hS hLB
 go_enter Tryz.func103,Tryz.ntmps103
 go_wp2_with (first
  | (go_at_call 133;with_reducible refine hof.mono ?_;rintro e w2 ⟨r,rfl,hq,hb2⟩
     have hq':Hid (QAt w2 r _ _ _):=hq
     obtain⟨u1,u2,nsq,dsq,rfl,k2,k3,k4,k5,k6,k7⟩:=hq
     obtain⟨qn,kn,rfl⟩:=k2.form
     obtain⟨qd,kd,rfl⟩:=k5.form
     have J0:=I0'.out.below hb2
     have J1:=I1'.out.below hb2
     have J2:=I2'.out.below hb2
     have W2:Below w.heap.size w w2:=hb0'.out.trans (hb2.mono hb0'.out.size)
     have A2:=zby J2 0 (.bool (mkG g1 (val nu1) (denI (val de1)))) (.slice qn nsq.length kn) (.slice qd dsq.length kd)
     have X2:BlkI (((w2.setCell ⟨w.heap.size+1+1,0,none⟩ (.bool (mkG g1 (val nu1) (denI (val de1))))).setCell ⟨w.heap.size+1+1,1,none⟩ (.slice qn nsq.length kn)).setCell ⟨w.heap.size+1+1,2,none⟩ (.slice qd dsq.length kd)) (w.heap.size+1+1) 151 #[.bool (mkG g1 (val nu1) (denI (val de1))),.slice qn nsq.length kn,.slice qd dsq.length kd,.bool false,.slice none 0 0,.slice none 0 0,.bool false,.bool false,.bool false]:=A2.1
     have Q2:=hq'.out.sav J2 zaj A2.2
     have X0:=J0.sav A2.2 (by omega)
     have X1:=J1.sav A2.2 (by omega)
     have W3:=W2.trans (A2.2.below (B:=w.heap.size) (by omega) W2.size)
     have hof2:=hofB _ W3
     have c6:w2.cell? ⟨w.heap.size,6,none⟩=some (.bool false):=J0.cell 6
     have c7:w2.cell? ⟨w.heap.size,7,none⟩=some (.bool false):=J0.cell 7
     have c3:w2.cell? ⟨w.heap.size,3,none⟩=some (.bool g2):=J0.cell 3
     have c4:w2.cell? ⟨w.heap.size,4,none⟩=some (.slice q2 l2 c2):=J0.cell 4
     have c5:w2.cell? ⟨w.heap.size,5,none⟩=some (.slice p2 m2 e2):=J0.cell 5
     have f0:w2.cell? ⟨w.heap.size+1+1,0,none⟩=some (.bool false):=J2.cell 0
     have f1:w2.cell? ⟨w.heap.size+1+1,1,none⟩=some (.slice none 0 0):=J2.cell 1
     have f2:w2.cell? ⟨w.heap.size+1+1,2,none⟩=some (.slice none 0 0):=J2.cell 2
     have f3:w2.cell? ⟨w.heap.size+1+1,3,none⟩=some (.bool false):=J2.cell 3
     have f4:w2.cell? ⟨w.heap.size+1+1,4,none⟩=some (.slice none 0 0):=J2.cell 4
     have f5:w2.cell? ⟨w.heap.size+1+1,5,none⟩=some (.slice none 0 0):=J2.cell 5
     have f6:w2.cell? ⟨w.heap.size+1+1,6,none⟩=some (.bool false):=J2.cell 6
     have f7:w2.cell? ⟨w.heap.size+1+1,7,none⟩=some (.bool false):=J2.cell 7
     have f8:w2.cell? ⟨w.heap.size+1+1,8,none⟩=some (.bool false):=J2.cell 8
     have fr2:=J2.fr
     have X0':Hid (BlkI _ _ _ _):=X0
     have X1':Hid (BlkI _ _ _ _):=X1
     have X2':Hid (BlkI _ _ _ _):=X2
     have Q2':Hid (QAt _ _ _ _ _):=Q2
     have W3':Hid (Below _ _ _):=W3
     clear J0 J1 J2 k2 k3 k4 k5 k6 k7 hof A2 X0 X1 X2 Q2 W3 W2)
  | (go_at_call 133;with_reducible refine hof2.mono ?_;rintro e w3 ⟨r,rfl,hq,hb3⟩
     have hr':Hid (QAt w3 r _ _ _):=hq
     obtain⟨u1,u2,nsp,dsp,rfl,k2,k3,k4,k5,k6,k7⟩:=hq
     obtain⟨qm,km,rfl⟩:=k2.form
     obtain⟨qe,ke,rfl⟩:=k5.form
     have K0:=X0'.out.below hb3
     have K1:=X1'.out.below hb3
     have K2:=X2'.out.below hb3
     have QL:=Q2'.out.below hb3
     have W4:Below w.heap.size w w3:=W3'.out.trans (hb3.mono W3'.out.size)
     have A5:=zby K2 3 (.bool (mkG g2 (val nu2) (denI (val de2)))) (.slice qm nsp.length km) (.slice qe dsp.length ke)
     have Y2:BlkI (((w3.setCell ⟨w.heap.size+1+1,3,none⟩ (.bool (mkG g2 (val nu2) (denI (val de2))))).setCell ⟨w.heap.size+1+1,4,none⟩ (.slice qm nsp.length km)).setCell ⟨w.heap.size+1+1,5,none⟩ (.slice qe dsp.length ke)) (w.heap.size+1+1) 151 #[.bool (mkG g1 (val nu1) (denI (val de1))),.slice qn nsq.length kn,.slice qd dsq.length kd,.bool (mkG g2 (val nu2) (denI (val de2))),.slice qm nsp.length km,.slice qe dsp.length ke,.bool false,.bool false,.bool false]:=A5.1
     have QL5:=QL.sav K2 zaj A5.2
     have QH5:=hr'.out.sav K2 zaj A5.2
     have Y1:=K1.sav A5.2 (by omega)
     have W5:=W4.trans (A5.2.below (B:=w.heap.size) (by omega) W4.size)
     have hcmp:=zc1 QL5 QH5 hL q1b'.out q2b'.out
     rw[hS'.out] at hcmp
     have s6:w3.cell? ⟨w.heap.size,6,none⟩=some (.bool false):=K0.cell 6
     have s7:w3.cell? ⟨w.heap.size,7,none⟩=some (.bool false):=K0.cell 7
     have h0:w3.cell? ⟨w.heap.size+1+1,0,none⟩=some (.bool (mkG g1 (val nu1) (denI (val de1)))):=K2.cell 0
     have h1:w3.cell? ⟨w.heap.size+1+1,1,none⟩=some (.slice qn nsq.length kn):=K2.cell 1
     have h2:w3.cell? ⟨w.heap.size+1+1,2,none⟩=some (.slice qd dsq.length kd):=K2.cell 2
     have h3:w3.cell? ⟨w.heap.size+1+1,3,none⟩=some (.bool false):=K2.cell 3
     have h4:w3.cell? ⟨w.heap.size+1+1,4,none⟩=some (.slice none 0 0):=K2.cell 4
     have h5:w3.cell? ⟨w.heap.size+1+1,5,none⟩=some (.slice none 0 0):=K2.cell 5
     have h6:w3.cell? ⟨w.heap.size+1+1,6,none⟩=some (.bool false):=K2.cell 6
     have h7:w3.cell? ⟨w.heap.size+1+1,7,none⟩=some (.bool false):=K2.cell 7
     have h8:w3.cell? ⟨w.heap.size+1+1,8,none⟩=some (.bool false):=K2.cell 8
     have fr3:=K2.fr
     have Y1':Hid (BlkI _ _ _ _):=Y1
     have Y2':Hid (BlkI _ _ _ _):=Y2
     have QL':Hid (QAt _ _ _ _ _):=QL5
     have QH':Hid (QAt _ _ _ _ _):=QH5
     have W5':Hid (Below _ _ _):=W5
     clear K0 K1 K2 k2 k3 k4 k5 k6 k7 hof2 A5 Y1 Y2 QL QL5 QH5 W4 W5)
  | (go_at_call 104;with_reducible refine hcmp.mono ?_;rintro e w4 ⟨rfl,hb4⟩
     have Z1:=Y1'.out.below hb4
     have Z2:=Y2'.out.below hb4
     have QL6:=QL'.out.below hb4
     have QH6:=QH'.out.below hb4
     have W6:Below w.heap.size w w4:=W5'.out.trans (hb4.mono W5'.out.size)
     have hno:=zdo w4
     have m0:w4.cell? ⟨w.heap.size+1,0,none⟩=some (.bool false):=Z1.cell 0
     have m1:w4.cell? ⟨w.heap.size+1,1,none⟩=some (.slice none 0 0):=Z1.cell 1
     have m2:w4.cell? ⟨w.heap.size+1,2,none⟩=some (.slice none 0 0):=Z1.cell 2
     have m3:w4.cell? ⟨w.heap.size+1,3,none⟩=some (.bool false):=Z1.cell 3
     have m4:w4.cell? ⟨w.heap.size+1,4,none⟩=some (.slice none 0 0):=Z1.cell 4
     have m5:w4.cell? ⟨w.heap.size+1,5,none⟩=some (.slice none 0 0):=Z1.cell 5
     have m6:w4.cell? ⟨w.heap.size+1,6,none⟩=some (.bool false):=Z1.cell 6
     have m7:w4.cell? ⟨w.heap.size+1,7,none⟩=some (.bool false):=Z1.cell 7
     have m8:w4.cell? ⟨w.heap.size+1,8,none⟩=some (.bool false):=Z1.cell 8
     have n0:w4.cell? ⟨w.heap.size+1+1,0,none⟩=some (.bool (mkG g1 (val nu1) (denI (val de1)))):=Z2.cell 0
     have n1:w4.cell? ⟨w.heap.size+1+1,1,none⟩=some (.slice qn nsq.length kn):=Z2.cell 1
     have n2:w4.cell? ⟨w.heap.size+1+1,2,none⟩=some (.slice qd dsq.length kd):=Z2.cell 2
     have n3:w4.cell? ⟨w.heap.size+1+1,3,none⟩=some (.bool (mkG g2 (val nu2) (denI (val de2)))):=Z2.cell 3
     have n4:w4.cell? ⟨w.heap.size+1+1,4,none⟩=some (.slice qm nsp.length km):=Z2.cell 4
     have n5:w4.cell? ⟨w.heap.size+1+1,5,none⟩=some (.slice qe dsp.length ke):=Z2.cell 5
     have n6:w4.cell? ⟨w.heap.size+1+1,6,none⟩=some (.bool false):=Z2.cell 6
     have n7:w4.cell? ⟨w.heap.size+1+1,7,none⟩=some (.bool false):=Z2.cell 7
     have n8:w4.cell? ⟨w.heap.size+1+1,8,none⟩=some (.bool false):=Z2.cell 8
     have fr4:=Z1.fr
     have Z1':Hid (BlkI _ _ _ _):=Z1
     have QL':Hid (QAt _ _ _ _ _):=QL6
     have QH':Hid (QAt _ _ _ _ _):=QH6
     have W6':Hid (Below _ _ _):=W6
     clear Z1 Z2 QL6 QH6 W6 hcmp)
  | (go_at_call 134;with_reducible refine hno.mono ?_;rintro e w5 ⟨rfl,hb5⟩
     have V1:=Z1'.out.below hb5
     have W7:Below w.heap.size w w5:=W6'.out.trans (hb5.mono W6'.out.size)
     have v0:w5.cell? ⟨w.heap.size+1,0,none⟩=some (.bool false):=V1.cell 0
     have v1:w5.cell? ⟨w.heap.size+1,1,none⟩=some (.slice none 0 0):=V1.cell 1
     have v2:w5.cell? ⟨w.heap.size+1,2,none⟩=some (.slice none 0 0):=V1.cell 2
     have v3:w5.cell? ⟨w.heap.size+1,3,none⟩=some (.bool false):=V1.cell 3
     have v4:w5.cell? ⟨w.heap.size+1,4,none⟩=some (.slice none 0 0):=V1.cell 4
     have v5:w5.cell? ⟨w.heap.size+1,5,none⟩=some (.slice none 0 0):=V1.cell 5
     have v6:w5.cell? ⟨w.heap.size+1,6,none⟩=some (.bool false):=V1.cell 6
     have v7:w5.cell? ⟨w.heap.size+1,7,none⟩=some (.bool false):=V1.cell 7
     have v8:w5.cell? ⟨w.heap.size+1,8,none⟩=some (.bool false):=V1.cell 8
     have fr5:=V1.fr
     have V1':Hid (BlkI _ _ _ _):=V1
     have W7':Hid (Below _ _ _):=W7
     clear V1 W7))
 have A9:=zdh V1'.out (.bool false) (.slice none 0 0) (.slice none 0 0) (.bool false) (.slice none 0 0) (.slice none 0 0) (.bool false) (.bool false) (.bool true)
 have W9:=W7'.out.trans (A9.2.below (B:=w.heap.size) (by omega) W7'.out.size)
 refine bodyPost_ret (zac rfl _ _ (w.heap.size+1) [.bool false,.slice none 0 0,.slice none 0 0,.bool false,.slice none 0 0,.slice none 0 0,.bool false,.bool false,.bool true] dd rfl (BlkI.row A9.1) hu hd zbw) rfl ?_
 refine⟨_,rfl,?_,W9⟩
 have hv:(IvC.mk g1 (val nu1) (val de1) g2 (val nu2) (val de2) false false).v=⟨false,0,0,false,0,0,false,false,true⟩:=by
  unfold IvC.v
  rw[if_pos]
  refine⟨rfl,rfl,?_⟩
  show 0<sgnI (sg (mkG g1 (val nu1) (denI (val de1)))*((mkN (val nu1) (denI (val de1)))*denI (mkD (val nu2) (denI (val de2)))) - sg (mkG g2 (val nu2) (denI (val de2)))*((mkN (val nu2) (denI (val de2)))*denI (mkD (val nu1) (denI (val de1)))))
  rw[hS'.out]
  decide
 rw[hv]
 exact⟨_,_,_,_,rfl,za8 _,za8 _⟩
set_option maxRecDepth 100000 in
set_option maxHeartbeats 4000000 in
theorem iof_ffz {w:World} {g1 g2:Bool} {q1 p1 q2 p2:Option Addr} {l1 c1 m1 e1 l2 c2 m2 e2:Nat} {nu1 de1 nu2 de2:List Int} (h1:Sl w (.slice q1 l1 c1) nu1) (h2:Sl w (.slice p1 m1 e1) de1) (h3:Sl w (.slice q2 l2 c2) nu2) (h4:Sl w (.slice p2 m2 e2) de2)
  (b1:nu1.length<=34359737000) (b2:de1.length<=34359737000) (b3:nu2.length<=34359737000) (b4:de2.length<=34359737000) (hS:sgnI (sg (mkG g1 (val nu1) (denI (val de1)))*((mkN (val nu1) (denI (val de1)))*denI (mkD (val nu2) (denI (val de2)))) - sg (mkG g2 (val nu2) (denI (val de2)))*((mkN (val nu2) (denI (val de2)))*denI (mkD (val nu1) (denI (val de1)))))=0):Calls Tryz.prog 103 #[.agg #[.bool g1,.slice q1 l1 c1,.slice p1 m1 e1,.bool g2,.slice q2 l2 c2,.slice p2 m2 e2,.bool false,.bool false]] w fun e w'=>∃v,e=.returned v/\IAt w' v (IvC.mk g1 (val nu1) (val de1) g2 (val nu2) (val de2) false false).v/\Below w.heap.size w w':=by
 obtain⟨dd,hu,hd⟩:=zdn
 obtain⟨L,hL,hL1,hLB⟩:=zbc
 have q1b:=za7 hL1 hLB h1.1 h2.1 b1 b2
 have q2b:=za7 hL1 hLB h3.1 h4.1 b3 b4
 have hb0:Below w.heap.size w (((w.alloc (.cells #[.bool g1,.slice q1 l1 c1,.slice p1 m1 e1,.bool g2,.slice q2 l2 c2,.slice p2 m2 e2,.bool false,.bool false] 92)).alloc (.cells zw9 151)).alloc (.cells zw9 151)):=zar _ _ _ _
 have I0:=zf3 w #[.bool g1,.slice q1 l1 c1,.slice p1 m1 e1,.bool g2,.slice q2 l2 c2,.slice p2 m2 e2,.bool false,.bool false] 92 (.cells zw9 151) (.cells zw9 151)
 have I1:=ze2 w (.cells #[.bool g1,.slice q1 l1 c1,.slice p1 m1 e1,.bool g2,.slice q2 l2 c2,.slice p2 m2 e2,.bool false,.bool false] 92) zw9 151 (.cells zw9 151)
 have I2:=zf4 w (.cells #[.bool g1,.slice q1 l1 c1,.slice p1 m1 e1,.bool g2,.slice q2 l2 c2,.slice p2 m2 e2,.bool false,.bool false] 92) (.cells zw9 151) zw9 151
 have hof:=za3 (g:=g1) (h1.below hb0) (h2.below hb0) (by omega) (by omega)
 have hofB:∀z,Below w.heap.size w z->_:=fun z hz=>za3 (g:=g2) (h3.below hz) (h4.below hz) (by omega) (by omega)
 have hS':Hid (sgnI _=_):=hS
 have I0':Hid (BlkI _ _ _ _):=I0
 have I1':Hid (BlkI _ _ _ _):=I1
 have I2':Hid (BlkI _ _ _ _):=I2
 have hb0':=hid_of hb0
 have q1b':Hid (QLt _ _ _):=q1b
 have q2b':Hid (QLt _ _ _):=q2b
 clear I0 I1 I2 hb0 h1 h2 h3 h4 q1b q2b hS hLB
 go_enter Tryz.func103,Tryz.ntmps103
 go_wp2_with (first
  | (go_at_call 133;with_reducible refine hof.mono ?_;rintro e w2 ⟨r,rfl,hq,hb2⟩
     have hq':Hid (QAt w2 r _ _ _):=hq
     obtain⟨u1,u2,nsq,dsq,rfl,k2,k3,k4,k5,k6,k7⟩:=hq
     obtain⟨qn,kn,rfl⟩:=k2.form
     obtain⟨qd,kd,rfl⟩:=k5.form
     have J0:=I0'.out.below hb2
     have J1:=I1'.out.below hb2
     have J2:=I2'.out.below hb2
     have W2:Below w.heap.size w w2:=hb0'.out.trans (hb2.mono hb0'.out.size)
     have A2:=zby J2 0 (.bool (mkG g1 (val nu1) (denI (val de1)))) (.slice qn nsq.length kn) (.slice qd dsq.length kd)
     have X2:BlkI (((w2.setCell ⟨w.heap.size+1+1,0,none⟩ (.bool (mkG g1 (val nu1) (denI (val de1))))).setCell ⟨w.heap.size+1+1,1,none⟩ (.slice qn nsq.length kn)).setCell ⟨w.heap.size+1+1,2,none⟩ (.slice qd dsq.length kd)) (w.heap.size+1+1) 151 #[.bool (mkG g1 (val nu1) (denI (val de1))),.slice qn nsq.length kn,.slice qd dsq.length kd,.bool false,.slice none 0 0,.slice none 0 0,.bool false,.bool false,.bool false]:=A2.1
     have Q2:=hq'.out.sav J2 zaj A2.2
     have X0:=J0.sav A2.2 (by omega)
     have X1:=J1.sav A2.2 (by omega)
     have W3:=W2.trans (A2.2.below (B:=w.heap.size) (by omega) W2.size)
     have hof2:=hofB _ W3
     have c6:w2.cell? ⟨w.heap.size,6,none⟩=some (.bool false):=J0.cell 6
     have c7:w2.cell? ⟨w.heap.size,7,none⟩=some (.bool false):=J0.cell 7
     have c3:w2.cell? ⟨w.heap.size,3,none⟩=some (.bool g2):=J0.cell 3
     have c4:w2.cell? ⟨w.heap.size,4,none⟩=some (.slice q2 l2 c2):=J0.cell 4
     have c5:w2.cell? ⟨w.heap.size,5,none⟩=some (.slice p2 m2 e2):=J0.cell 5
     have f0:w2.cell? ⟨w.heap.size+1+1,0,none⟩=some (.bool false):=J2.cell 0
     have f1:w2.cell? ⟨w.heap.size+1+1,1,none⟩=some (.slice none 0 0):=J2.cell 1
     have f2:w2.cell? ⟨w.heap.size+1+1,2,none⟩=some (.slice none 0 0):=J2.cell 2
     have f3:w2.cell? ⟨w.heap.size+1+1,3,none⟩=some (.bool false):=J2.cell 3
     have f4:w2.cell? ⟨w.heap.size+1+1,4,none⟩=some (.slice none 0 0):=J2.cell 4
     have f5:w2.cell? ⟨w.heap.size+1+1,5,none⟩=some (.slice none 0 0):=J2.cell 5
     have f6:w2.cell? ⟨w.heap.size+1+1,6,none⟩=some (.bool false):=J2.cell 6
     have f7:w2.cell? ⟨w.heap.size+1+1,7,none⟩=some (.bool false):=J2.cell 7
     have f8:w2.cell? ⟨w.heap.size+1+1,8,none⟩=some (.bool false):=J2.cell 8
     have fr2:=J2.fr
     have X0':Hid (BlkI _ _ _ _):=X0
     have X1':Hid (BlkI _ _ _ _):=X1
     have X2':Hid (BlkI _ _ _ _):=X2
     have Q2':Hid (QAt _ _ _ _ _):=Q2
     have W3':Hid (Below _ _ _):=W3
     clear J0 J1 J2 k2 k3 k4 k5 k6 k7 hof A2 X0 X1 X2 Q2 W3 W2)
  | (go_at_call 133;with_reducible refine hof2.mono ?_;rintro e w3 ⟨r,rfl,hq,hb3⟩
     have hr':Hid (QAt w3 r _ _ _):=hq
     obtain⟨u1,u2,nsp,dsp,rfl,k2,k3,k4,k5,k6,k7⟩:=hq
     obtain⟨qm,km,rfl⟩:=k2.form
     obtain⟨qe,ke,rfl⟩:=k5.form
     have K0:=X0'.out.below hb3
     have K1:=X1'.out.below hb3
     have K2:=X2'.out.below hb3
     have QL:=Q2'.out.below hb3
     have W4:Below w.heap.size w w3:=W3'.out.trans (hb3.mono W3'.out.size)
     have A5:=zby K2 3 (.bool (mkG g2 (val nu2) (denI (val de2)))) (.slice qm nsp.length km) (.slice qe dsp.length ke)
     have Y2:BlkI (((w3.setCell ⟨w.heap.size+1+1,3,none⟩ (.bool (mkG g2 (val nu2) (denI (val de2))))).setCell ⟨w.heap.size+1+1,4,none⟩ (.slice qm nsp.length km)).setCell ⟨w.heap.size+1+1,5,none⟩ (.slice qe dsp.length ke)) (w.heap.size+1+1) 151 #[.bool (mkG g1 (val nu1) (denI (val de1))),.slice qn nsq.length kn,.slice qd dsq.length kd,.bool (mkG g2 (val nu2) (denI (val de2))),.slice qm nsp.length km,.slice qe dsp.length ke,.bool false,.bool false,.bool false]:=A5.1
     have QL5:=QL.sav K2 zaj A5.2
     have QH5:=hr'.out.sav K2 zaj A5.2
     have Y1:=K1.sav A5.2 (by omega)
     have W5:=W4.trans (A5.2.below (B:=w.heap.size) (by omega) W4.size)
     have hcmp:=zc1 QL5 QH5 hL q1b'.out q2b'.out
     rw[hS'.out] at hcmp
     have s6:w3.cell? ⟨w.heap.size,6,none⟩=some (.bool false):=K0.cell 6
     have s7:w3.cell? ⟨w.heap.size,7,none⟩=some (.bool false):=K0.cell 7
     have h0:w3.cell? ⟨w.heap.size+1+1,0,none⟩=some (.bool (mkG g1 (val nu1) (denI (val de1)))):=K2.cell 0
     have h1:w3.cell? ⟨w.heap.size+1+1,1,none⟩=some (.slice qn nsq.length kn):=K2.cell 1
     have h2:w3.cell? ⟨w.heap.size+1+1,2,none⟩=some (.slice qd dsq.length kd):=K2.cell 2
     have h3:w3.cell? ⟨w.heap.size+1+1,3,none⟩=some (.bool false):=K2.cell 3
     have h4:w3.cell? ⟨w.heap.size+1+1,4,none⟩=some (.slice none 0 0):=K2.cell 4
     have h5:w3.cell? ⟨w.heap.size+1+1,5,none⟩=some (.slice none 0 0):=K2.cell 5
     have h6:w3.cell? ⟨w.heap.size+1+1,6,none⟩=some (.bool false):=K2.cell 6
     have h7:w3.cell? ⟨w.heap.size+1+1,7,none⟩=some (.bool false):=K2.cell 7
     have h8:w3.cell? ⟨w.heap.size+1+1,8,none⟩=some (.bool false):=K2.cell 8
     have fr3:=K2.fr
     have Y1':Hid (BlkI _ _ _ _):=Y1
     have Y2':Hid (BlkI _ _ _ _):=Y2
     have QL':Hid (QAt _ _ _ _ _):=QL5
     have QH':Hid (QAt _ _ _ _ _):=QH5
     have W5':Hid (Below _ _ _):=W5
     clear K0 K1 K2 k2 k3 k4 k5 k6 k7 hof2 A5 Y1 Y2 QL QL5 QH5 W4 W5)
  | (go_at_call 104;with_reducible refine hcmp.mono ?_;rintro e w4 ⟨rfl,hb4⟩
     have Z1:=Y1'.out.below hb4
     have Z2:=Y2'.out.below hb4
     have QL6:=QL'.out.below hb4
     have QH6:=QH'.out.below hb4
     have W6:Below w.heap.size w w4:=W5'.out.trans (hb4.mono W5'.out.size)
     have hno:=zdo w4
     have m0:w4.cell? ⟨w.heap.size+1,0,none⟩=some (.bool false):=Z1.cell 0
     have m1:w4.cell? ⟨w.heap.size+1,1,none⟩=some (.slice none 0 0):=Z1.cell 1
     have m2:w4.cell? ⟨w.heap.size+1,2,none⟩=some (.slice none 0 0):=Z1.cell 2
     have m3:w4.cell? ⟨w.heap.size+1,3,none⟩=some (.bool false):=Z1.cell 3
     have m4:w4.cell? ⟨w.heap.size+1,4,none⟩=some (.slice none 0 0):=Z1.cell 4
     have m5:w4.cell? ⟨w.heap.size+1,5,none⟩=some (.slice none 0 0):=Z1.cell 5
     have m6:w4.cell? ⟨w.heap.size+1,6,none⟩=some (.bool false):=Z1.cell 6
     have m7:w4.cell? ⟨w.heap.size+1,7,none⟩=some (.bool false):=Z1.cell 7
     have m8:w4.cell? ⟨w.heap.size+1,8,none⟩=some (.bool false):=Z1.cell 8
     have n0:w4.cell? ⟨w.heap.size+1+1,0,none⟩=some (.bool (mkG g1 (val nu1) (denI (val de1)))):=Z2.cell 0
     have n1:w4.cell? ⟨w.heap.size+1+1,1,none⟩=some (.slice qn nsq.length kn):=Z2.cell 1
     have n2:w4.cell? ⟨w.heap.size+1+1,2,none⟩=some (.slice qd dsq.length kd):=Z2.cell 2
     have n3:w4.cell? ⟨w.heap.size+1+1,3,none⟩=some (.bool (mkG g2 (val nu2) (denI (val de2)))):=Z2.cell 3
     have n4:w4.cell? ⟨w.heap.size+1+1,4,none⟩=some (.slice qm nsp.length km):=Z2.cell 4
     have n5:w4.cell? ⟨w.heap.size+1+1,5,none⟩=some (.slice qe dsp.length ke):=Z2.cell 5
     have n6:w4.cell? ⟨w.heap.size+1+1,6,none⟩=some (.bool false):=Z2.cell 6
     have n7:w4.cell? ⟨w.heap.size+1+1,7,none⟩=some (.bool false):=Z2.cell 7
     have n8:w4.cell? ⟨w.heap.size+1+1,8,none⟩=some (.bool false):=Z2.cell 8
     have fr4:=Z1.fr
     have Z1':Hid (BlkI _ _ _ _):=Z1
     have QL':Hid (QAt _ _ _ _ _):=QL6
     have QH':Hid (QAt _ _ _ _ _):=QH6
     have W6':Hid (Below _ _ _):=W6
     clear Z1 Z2 QL6 QH6 W6 hcmp))
 have A9:=zdh Z1'.out (.bool (mkG g1 (val nu1) (denI (val de1)))) (.slice qn nsq.length kn) (.slice qd dsq.length kd) (.bool (mkG g2 (val nu2) (denI (val de2)))) (.slice qm nsp.length km) (.slice qe dsp.length ke) (.bool false) (.bool false) (.bool false)
 have W9:=W6'.out.trans (A9.2.below (B:=w.heap.size) (by omega) W6'.out.size)
 refine bodyPost_ret (zac rfl _ _ (w.heap.size+1) [.bool (mkG g1 (val nu1) (denI (val de1))),.slice qn nsq.length kn,.slice qd dsq.length kd,.bool (mkG g2 (val nu2) (denI (val de2))),.slice qm nsp.length km,.slice qe dsp.length ke,.bool false,.bool false,.bool false] dd rfl (BlkI.row A9.1) hu hd zbw) rfl ?_
 refine⟨_,rfl,?_,W9⟩
 have hv:(IvC.mk g1 (val nu1) (val de1) g2 (val nu2) (val de2) false false).v=⟨mkG g1 (val nu1) (denI (val de1)),mkN (val nu1) (denI (val de1)),mkD (val nu1) (denI (val de1)),mkG g2 (val nu2) (denI (val de2)),mkN (val nu2) (denI (val de2)),mkD (val nu2) (denI (val de2)),false,false,false⟩:=by
  unfold IvC.v
  rw[if_neg]
  ·rfl
  ·rintro⟨-,-,h⟩
   have h':0<sgnI (sg (mkG g1 (val nu1) (denI (val de1)))*((mkN (val nu1) (denI (val de1)))*denI (mkD (val nu2) (denI (val de2)))) - sg (mkG g2 (val nu2) (denI (val de2)))*((mkN (val nu2) (denI (val de2)))*denI (mkD (val nu1) (denI (val de1))))):=h
   rw[hS'.out] at h'
   exact absurd h' (by decide)
 rw[hv]
 have A0:=Z1'.out
 exact⟨_,_,_,_,rfl,QL'.out.sav A0 zaj A9.2,QH'.out.sav A0 zaj A9.2⟩
set_option maxRecDepth 100000 in
set_option maxHeartbeats 4000000 in
theorem iof_ffn {w:World} {g1 g2:Bool} {q1 p1 q2 p2:Option Addr} {l1 c1 m1 e1 l2 c2 m2 e2:Nat} {nu1 de1 nu2 de2:List Int} (h1:Sl w (.slice q1 l1 c1) nu1) (h2:Sl w (.slice p1 m1 e1) de1) (h3:Sl w (.slice q2 l2 c2) nu2) (h4:Sl w (.slice p2 m2 e2) de2)
  (b1:nu1.length<=34359737000) (b2:de1.length<=34359737000) (b3:nu2.length<=34359737000) (b4:de2.length<=34359737000) (hS:sgnI (sg (mkG g1 (val nu1) (denI (val de1)))*((mkN (val nu1) (denI (val de1)))*denI (mkD (val nu2) (denI (val de2)))) - sg (mkG g2 (val nu2) (denI (val de2)))*((mkN (val nu2) (denI (val de2)))*denI (mkD (val nu1) (denI (val de1)))))=-1):Calls Tryz.prog 103 #[.agg #[.bool g1,.slice q1 l1 c1,.slice p1 m1 e1,.bool g2,.slice q2 l2 c2,.slice p2 m2 e2,.bool false,.bool false]] w fun e w'=>∃v,e=.returned v/\IAt w' v (IvC.mk g1 (val nu1) (val de1) g2 (val nu2) (val de2) false false).v/\Below w.heap.size w w':=by
 obtain⟨dd,hu,hd⟩:=zdn
 obtain⟨L,hL,hL1,hLB⟩:=zbc
 have q1b:=za7 hL1 hLB h1.1 h2.1 b1 b2
 have q2b:=za7 hL1 hLB h3.1 h4.1 b3 b4
 have hb0:Below w.heap.size w (((w.alloc (.cells #[.bool g1,.slice q1 l1 c1,.slice p1 m1 e1,.bool g2,.slice q2 l2 c2,.slice p2 m2 e2,.bool false,.bool false] 92)).alloc (.cells zw9 151)).alloc (.cells zw9 151)):=zar _ _ _ _
 have I0:=zf3 w #[.bool g1,.slice q1 l1 c1,.slice p1 m1 e1,.bool g2,.slice q2 l2 c2,.slice p2 m2 e2,.bool false,.bool false] 92 (.cells zw9 151) (.cells zw9 151)
 have I1:=ze2 w (.cells #[.bool g1,.slice q1 l1 c1,.slice p1 m1 e1,.bool g2,.slice q2 l2 c2,.slice p2 m2 e2,.bool false,.bool false] 92) zw9 151 (.cells zw9 151)
 have I2:=zf4 w (.cells #[.bool g1,.slice q1 l1 c1,.slice p1 m1 e1,.bool g2,.slice q2 l2 c2,.slice p2 m2 e2,.bool false,.bool false] 92) (.cells zw9 151) zw9 151
 have hof:=za3 (g:=g1) (h1.below hb0) (h2.below hb0) (by omega) (by omega)
 have hofB:∀z,Below w.heap.size w z->_:=fun z hz=>za3 (g:=g2) (h3.below hz) (h4.below hz) (by omega) (by omega)
 have hS':Hid (sgnI _=_):=hS
 have I0':Hid (BlkI _ _ _ _):=I0
 have I1':Hid (BlkI _ _ _ _):=I1
 have I2':Hid (BlkI _ _ _ _):=I2
 have hb0':=hid_of hb0
 have q1b':Hid (QLt _ _ _):=q1b
 have q2b':Hid (QLt _ _ _):=q2b
 clear I0 I1 I2 hb0 h1 h2 h3 h4 q1b q2b hS hLB
 go_enter Tryz.func103,Tryz.ntmps103
 go_wp2_with (first
  | (go_at_call 133;with_reducible refine hof.mono ?_;rintro e w2 ⟨r,rfl,hq,hb2⟩
     have hq':Hid (QAt w2 r _ _ _):=hq
     obtain⟨u1,u2,nsq,dsq,rfl,k2,k3,k4,k5,k6,k7⟩:=hq
     obtain⟨qn,kn,rfl⟩:=k2.form
     obtain⟨qd,kd,rfl⟩:=k5.form
     have J0:=I0'.out.below hb2
     have J1:=I1'.out.below hb2
     have J2:=I2'.out.below hb2
     have W2:Below w.heap.size w w2:=hb0'.out.trans (hb2.mono hb0'.out.size)
     have A2:=zby J2 0 (.bool (mkG g1 (val nu1) (denI (val de1)))) (.slice qn nsq.length kn) (.slice qd dsq.length kd)
     have X2:BlkI (((w2.setCell ⟨w.heap.size+1+1,0,none⟩ (.bool (mkG g1 (val nu1) (denI (val de1))))).setCell ⟨w.heap.size+1+1,1,none⟩ (.slice qn nsq.length kn)).setCell ⟨w.heap.size+1+1,2,none⟩ (.slice qd dsq.length kd)) (w.heap.size+1+1) 151 #[.bool (mkG g1 (val nu1) (denI (val de1))),.slice qn nsq.length kn,.slice qd dsq.length kd,.bool false,.slice none 0 0,.slice none 0 0,.bool false,.bool false,.bool false]:=A2.1
     have Q2:=hq'.out.sav J2 zaj A2.2
     have X0:=J0.sav A2.2 (by omega)
     have X1:=J1.sav A2.2 (by omega)
     have W3:=W2.trans (A2.2.below (B:=w.heap.size) (by omega) W2.size)
     have hof2:=hofB _ W3
     have c6:w2.cell? ⟨w.heap.size,6,none⟩=some (.bool false):=J0.cell 6
     have c7:w2.cell? ⟨w.heap.size,7,none⟩=some (.bool false):=J0.cell 7
     have c3:w2.cell? ⟨w.heap.size,3,none⟩=some (.bool g2):=J0.cell 3
     have c4:w2.cell? ⟨w.heap.size,4,none⟩=some (.slice q2 l2 c2):=J0.cell 4
     have c5:w2.cell? ⟨w.heap.size,5,none⟩=some (.slice p2 m2 e2):=J0.cell 5
     have f0:w2.cell? ⟨w.heap.size+1+1,0,none⟩=some (.bool false):=J2.cell 0
     have f1:w2.cell? ⟨w.heap.size+1+1,1,none⟩=some (.slice none 0 0):=J2.cell 1
     have f2:w2.cell? ⟨w.heap.size+1+1,2,none⟩=some (.slice none 0 0):=J2.cell 2
     have f3:w2.cell? ⟨w.heap.size+1+1,3,none⟩=some (.bool false):=J2.cell 3
     have f4:w2.cell? ⟨w.heap.size+1+1,4,none⟩=some (.slice none 0 0):=J2.cell 4
     have f5:w2.cell? ⟨w.heap.size+1+1,5,none⟩=some (.slice none 0 0):=J2.cell 5
     have f6:w2.cell? ⟨w.heap.size+1+1,6,none⟩=some (.bool false):=J2.cell 6
     have f7:w2.cell? ⟨w.heap.size+1+1,7,none⟩=some (.bool false):=J2.cell 7
     have f8:w2.cell? ⟨w.heap.size+1+1,8,none⟩=some (.bool false):=J2.cell 8
     have fr2:=J2.fr
     have X0':Hid (BlkI _ _ _ _):=X0
     have X1':Hid (BlkI _ _ _ _):=X1
     have X2':Hid (BlkI _ _ _ _):=X2
     have Q2':Hid (QAt _ _ _ _ _):=Q2
     have W3':Hid (Below _ _ _):=W3
     clear J0 J1 J2 k2 k3 k4 k5 k6 k7 hof A2 X0 X1 X2 Q2 W3 W2)
  | (go_at_call 133;with_reducible refine hof2.mono ?_;rintro e w3 ⟨r,rfl,hq,hb3⟩
     have hr':Hid (QAt w3 r _ _ _):=hq
     obtain⟨u1,u2,nsp,dsp,rfl,k2,k3,k4,k5,k6,k7⟩:=hq
     obtain⟨qm,km,rfl⟩:=k2.form
     obtain⟨qe,ke,rfl⟩:=k5.form
     have K0:=X0'.out.below hb3
     have K1:=X1'.out.below hb3
     have K2:=X2'.out.below hb3
     have QL:=Q2'.out.below hb3
     have W4:Below w.heap.size w w3:=W3'.out.trans (hb3.mono W3'.out.size)
     have A5:=zby K2 3 (.bool (mkG g2 (val nu2) (denI (val de2)))) (.slice qm nsp.length km) (.slice qe dsp.length ke)
     have Y2:BlkI (((w3.setCell ⟨w.heap.size+1+1,3,none⟩ (.bool (mkG g2 (val nu2) (denI (val de2))))).setCell ⟨w.heap.size+1+1,4,none⟩ (.slice qm nsp.length km)).setCell ⟨w.heap.size+1+1,5,none⟩ (.slice qe dsp.length ke)) (w.heap.size+1+1) 151 #[.bool (mkG g1 (val nu1) (denI (val de1))),.slice qn nsq.length kn,.slice qd dsq.length kd,.bool (mkG g2 (val nu2) (denI (val de2))),.slice qm nsp.length km,.slice qe dsp.length ke,.bool false,.bool false,.bool false]:=A5.1
     have QL5:=QL.sav K2 zaj A5.2
     have QH5:=hr'.out.sav K2 zaj A5.2
     have Y1:=K1.sav A5.2 (by omega)
     have W5:=W4.trans (A5.2.below (B:=w.heap.size) (by omega) W4.size)
     have hcmp:=zc1 QL5 QH5 hL q1b'.out q2b'.out
     rw[hS'.out] at hcmp
     have s6:w3.cell? ⟨w.heap.size,6,none⟩=some (.bool false):=K0.cell 6
     have s7:w3.cell? ⟨w.heap.size,7,none⟩=some (.bool false):=K0.cell 7
     have h0:w3.cell? ⟨w.heap.size+1+1,0,none⟩=some (.bool (mkG g1 (val nu1) (denI (val de1)))):=K2.cell 0
     have h1:w3.cell? ⟨w.heap.size+1+1,1,none⟩=some (.slice qn nsq.length kn):=K2.cell 1
     have h2:w3.cell? ⟨w.heap.size+1+1,2,none⟩=some (.slice qd dsq.length kd):=K2.cell 2
     have h3:w3.cell? ⟨w.heap.size+1+1,3,none⟩=some (.bool false):=K2.cell 3
     have h4:w3.cell? ⟨w.heap.size+1+1,4,none⟩=some (.slice none 0 0):=K2.cell 4
     have h5:w3.cell? ⟨w.heap.size+1+1,5,none⟩=some (.slice none 0 0):=K2.cell 5
     have h6:w3.cell? ⟨w.heap.size+1+1,6,none⟩=some (.bool false):=K2.cell 6
     have h7:w3.cell? ⟨w.heap.size+1+1,7,none⟩=some (.bool false):=K2.cell 7
     have h8:w3.cell? ⟨w.heap.size+1+1,8,none⟩=some (.bool false):=K2.cell 8
     have fr3:=K2.fr
     have Y1':Hid (BlkI _ _ _ _):=Y1
     have Y2':Hid (BlkI _ _ _ _):=Y2
     have QL':Hid (QAt _ _ _ _ _):=QL5
     have QH':Hid (QAt _ _ _ _ _):=QH5
     have W5':Hid (Below _ _ _):=W5
     clear K0 K1 K2 k2 k3 k4 k5 k6 k7 hof2 A5 Y1 Y2 QL QL5 QH5 W4 W5)
  | (go_at_call 104;with_reducible refine hcmp.mono ?_;rintro e w4 ⟨rfl,hb4⟩
     have Z1:=Y1'.out.below hb4
     have Z2:=Y2'.out.below hb4
     have QL6:=QL'.out.below hb4
     have QH6:=QH'.out.below hb4
     have W6:Below w.heap.size w w4:=W5'.out.trans (hb4.mono W5'.out.size)
     have hno:=zdo w4
     have m0:w4.cell? ⟨w.heap.size+1,0,none⟩=some (.bool false):=Z1.cell 0
     have m1:w4.cell? ⟨w.heap.size+1,1,none⟩=some (.slice none 0 0):=Z1.cell 1
     have m2:w4.cell? ⟨w.heap.size+1,2,none⟩=some (.slice none 0 0):=Z1.cell 2
     have m3:w4.cell? ⟨w.heap.size+1,3,none⟩=some (.bool false):=Z1.cell 3
     have m4:w4.cell? ⟨w.heap.size+1,4,none⟩=some (.slice none 0 0):=Z1.cell 4
     have m5:w4.cell? ⟨w.heap.size+1,5,none⟩=some (.slice none 0 0):=Z1.cell 5
     have m6:w4.cell? ⟨w.heap.size+1,6,none⟩=some (.bool false):=Z1.cell 6
     have m7:w4.cell? ⟨w.heap.size+1,7,none⟩=some (.bool false):=Z1.cell 7
     have m8:w4.cell? ⟨w.heap.size+1,8,none⟩=some (.bool false):=Z1.cell 8
     have n0:w4.cell? ⟨w.heap.size+1+1,0,none⟩=some (.bool (mkG g1 (val nu1) (denI (val de1)))):=Z2.cell 0
     have n1:w4.cell? ⟨w.heap.size+1+1,1,none⟩=some (.slice qn nsq.length kn):=Z2.cell 1
     have n2:w4.cell? ⟨w.heap.size+1+1,2,none⟩=some (.slice qd dsq.length kd):=Z2.cell 2
     have n3:w4.cell? ⟨w.heap.size+1+1,3,none⟩=some (.bool (mkG g2 (val nu2) (denI (val de2)))):=Z2.cell 3
     have n4:w4.cell? ⟨w.heap.size+1+1,4,none⟩=some (.slice qm nsp.length km):=Z2.cell 4
     have n5:w4.cell? ⟨w.heap.size+1+1,5,none⟩=some (.slice qe dsp.length ke):=Z2.cell 5
     have n6:w4.cell? ⟨w.heap.size+1+1,6,none⟩=some (.bool false):=Z2.cell 6
     have n7:w4.cell? ⟨w.heap.size+1+1,7,none⟩=some (.bool false):=Z2.cell 7
     have n8:w4.cell? ⟨w.heap.size+1+1,8,none⟩=some (.bool false):=Z2.cell 8
     have fr4:=Z1.fr
     have Z1':Hid (BlkI _ _ _ _):=Z1
     have QL':Hid (QAt _ _ _ _ _):=QL6
     have QH':Hid (QAt _ _ _ _ _):=QH6
     have W6':Hid (Below _ _ _):=W6
     clear Z1 Z2 QL6 QH6 W6 hcmp))
 have A9:=zdh Z1'.out (.bool (mkG g1 (val nu1) (denI (val de1)))) (.slice qn nsq.length kn) (.slice qd dsq.length kd) (.bool (mkG g2 (val nu2) (denI (val de2)))) (.slice qm nsp.length km) (.slice qe dsp.length ke) (.bool false) (.bool false) (.bool false)
 have W9:=W6'.out.trans (A9.2.below (B:=w.heap.size) (by omega) W6'.out.size)
 refine bodyPost_ret (zac rfl _ _ (w.heap.size+1) [.bool (mkG g1 (val nu1) (denI (val de1))),.slice qn nsq.length kn,.slice qd dsq.length kd,.bool (mkG g2 (val nu2) (denI (val de2))),.slice qm nsp.length km,.slice qe dsp.length ke,.bool false,.bool false,.bool false] dd rfl (BlkI.row A9.1) hu hd zbw) rfl ?_
 refine⟨_,rfl,?_,W9⟩
 have hv:(IvC.mk g1 (val nu1) (val de1) g2 (val nu2) (val de2) false false).v=⟨mkG g1 (val nu1) (denI (val de1)),mkN (val nu1) (denI (val de1)),mkD (val nu1) (denI (val de1)),mkG g2 (val nu2) (denI (val de2)),mkN (val nu2) (denI (val de2)),mkD (val nu2) (denI (val de2)),false,false,false⟩:=by
  unfold IvC.v
  rw[if_neg]
  ·rfl
  ·rintro⟨-,-,h⟩
   have h':0<sgnI (sg (mkG g1 (val nu1) (denI (val de1)))*((mkN (val nu1) (denI (val de1)))*denI (mkD (val nu2) (denI (val de2)))) - sg (mkG g2 (val nu2) (denI (val de2)))*((mkN (val nu2) (denI (val de2)))*denI (mkD (val nu1) (denI (val de1))))):=h
   rw[hS'.out] at h'
   exact absurd h' (by decide)
 rw[hv]
 have A0:=Z1'.out
 exact⟨_,_,_,_,rfl,QL'.out.sav A0 zaj A9.2,QH'.out.sav A0 zaj A9.2⟩
theorem zf5 (s:Int):sgnI s=1\/sgnI s=0\/sgnI s=-1:=by
 unfold sgnI
 split
 ·exact .inr (.inl rfl)
 ·split
  ·exact .inr (.inr rfl)
  ·exact .inl rfl
theorem iof_ok {w:World} {g1 g2:Bool} {q1 p1 q2 p2:Option Addr} {l1 c1 m1 e1 l2 c2 m2 e2:Nat} {nu1 de1 nu2 de2:List Int} (h1:Sl w (.slice q1 l1 c1) nu1) (h2:Sl w (.slice p1 m1 e1) de1) (h3:Sl w (.slice q2 l2 c2) nu2) (h4:Sl w (.slice p2 m2 e2) de2)
  (b1:nu1.length<=34359737000) (b2:de1.length<=34359737000) (b3:nu2.length<=34359737000) (b4:de2.length<=34359737000) (li hh:Bool):Calls Tryz.prog 103 #[.agg #[.bool g1,.slice q1 l1 c1,.slice p1 m1 e1,.bool g2,.slice q2 l2 c2,.slice p2 m2 e2,.bool li,.bool hh]] w fun e w'=>∃v,e=.returned v/\IAt w' v (IvC.mk g1 (val nu1) (val de1) g2 (val nu2) (val de2) li hh).v/\Below w.heap.size w w':=by
 cases li<;>cases hh
 ·rcases zf5 (sg (mkG g1 (val nu1) (denI (val de1)))*((mkN (val nu1) (denI (val de1)))*denI (mkD (val nu2) (denI (val de2)))) - sg (mkG g2 (val nu2) (denI (val de2)))*((mkN (val nu2) (denI (val de2)))*denI (mkD (val nu1) (denI (val de1))))) with h | h | h
  ·exact iof_ffp h1 h2 h3 h4 b1 b2 b3 b4 h
  ·exact iof_ffz h1 h2 h3 h4 b1 b2 b3 b4 h
  ·exact iof_ffn h1 h2 h3 h4 b1 b2 b3 b4 h
 ·exact iof_ft h1 h2 h3 h4 b1 b2 b3 b4
 ·exact iof_tf h1 h2 h3 h4 b1 b2 b3 b4
 ·exact iof_tt h1 h2 h3 h4 b1 b2 b3 b4
end Go.Proofs.YtfhjhnofkaiceaaGreatDoor
