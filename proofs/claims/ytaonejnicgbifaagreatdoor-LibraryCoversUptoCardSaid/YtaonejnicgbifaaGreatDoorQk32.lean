import Derived.Test.YtaonejnicgbifaaGreatDoorQk31
namespace Go.Proofs.YtaonejnicgbifaaGreatDoor
open Go Go.RowKit
set_option maxRecDepth 100000
set_option maxHeartbeats 16000000
theorem zif {x:Ex} (h:exV x=true):Good x:=by
 unfold exV at h
 obtain⟨a,ha⟩:=Option.isSome_iff_exists.1 h
 exact⟨1,0,a,ha⟩
theorem zjg {w:World} {x y:Ex} {d e:Nd} (hx:ExOk w x d) (hy:ExOk w y e) (hT:Tb w) (vx:exV x=true) (vy:exV y=true):
  Calls Tryz.prog 54 #[d.val,e.val] w fun r w'=>r=.returned (.tuple #[.bool (x.sm y),.int .i64 0])/\Below w.heap.size w w':=by
 have hb0:Hid (Below w.heap.size w ((w.alloc (.cells (nA d) 30)).alloc (.cells (nA e) 30))):=zah w _ _
 have hs:=hb0.out.size
 have k1:=fun z (hz:Below w.heap.size w z)=>zcj (hx.below hz) (hT.below hz)
 have k2:=fun z (hz:Below w.heap.size w z)=>zcj (hy.below hz) (hT.below hz)
 have k3:=fun z (hz:Below w.heap.size w z)=>zjb x y d e z (hx.below hz) (hy.below hz) (zif vx) (zif vy) (hT.below hz)
 rw[show (x.cnt 1 0).isSome=true from vx] at k1
 rw[show (y.cnt 1 0).isSome=true from vy] at k2
 simp only[Nd.val] at k1 k2 k3 ⊢
 have k2:Hid (CA w 26 #[.agg (nA e)] (.bool true)):=k2
 have k3:Hid (CA w 84 #[.agg (nA d),.agg (nA e)] (.bool (x.sm y))):=k3
 have h1:=k1 _ hb0.out
 have l0:w.heap.size+1<((w.alloc (.cells (nA d) 30)).alloc (.cells (nA e) 30)).heap.size:=by simp
 have y0:((w.alloc (.cells (nA d) 30)).alloc (.cells (nA e) 30)).cell? ⟨w.heap.size,0,none⟩=some (.int .i64 d.k):=by simp
 have y1:((w.alloc (.cells (nA d) 30)).alloc (.cells (nA e) 30)).cell? ⟨w.heap.size,1,none⟩=some (.int .i64 d.f):=by simp
 have y2:((w.alloc (.cells (nA d) 30)).alloc (.cells (nA e) 30)).cell? ⟨w.heap.size,2,none⟩=some (.bool d.neg):=by simp
 have y3:((w.alloc (.cells (nA d) 30)).alloc (.cells (nA e) 30)).cell? ⟨w.heap.size,3,none⟩=some (.slice d.aq d.an d.ac):=by simp
 have y4:((w.alloc (.cells (nA d) 30)).alloc (.cells (nA e) 30)).cell? ⟨w.heap.size,4,none⟩=some (.slice d.cq d.cn d.cc):=by simp
 have y5:((w.alloc (.cells (nA d) 30)).alloc (.cells (nA e) 30)).cell? ⟨w.heap.size,5,none⟩=some (.string d.m):=by simp
 have y6:((w.alloc (.cells (nA d) 30)).alloc (.cells (nA e) 30)).cell? ⟨w.heap.size,6,none⟩=some (.slice d.sq d.sn d.sc):=by simp
 have yy0:((w.alloc (.cells (nA d) 30)).alloc (.cells (nA e) 30)).cell? ⟨w.heap.size+1,0,none⟩=some (.int .i64 e.k):=by simp
 have yy1:((w.alloc (.cells (nA d) 30)).alloc (.cells (nA e) 30)).cell? ⟨w.heap.size+1,1,none⟩=some (.int .i64 e.f):=by simp
 have yy2:((w.alloc (.cells (nA d) 30)).alloc (.cells (nA e) 30)).cell? ⟨w.heap.size+1,2,none⟩=some (.bool e.neg):=by simp
 have yy3:((w.alloc (.cells (nA d) 30)).alloc (.cells (nA e) 30)).cell? ⟨w.heap.size+1,3,none⟩=some (.slice e.aq e.an e.ac):=by simp
 have yy4:((w.alloc (.cells (nA d) 30)).alloc (.cells (nA e) 30)).cell? ⟨w.heap.size+1,4,none⟩=some (.slice e.cq e.cn e.cc):=by simp
 have yy5:((w.alloc (.cells (nA d) 30)).alloc (.cells (nA e) 30)).cell? ⟨w.heap.size+1,5,none⟩=some (.string e.m):=by simp
 have yy6:((w.alloc (.cells (nA d) 30)).alloc (.cells (nA e) 30)).cell? ⟨w.heap.size+1,6,none⟩=some (.slice e.sq e.sn e.sc):=by simp
 clear k1 hx hy vx vy hT
 go_enter Tryz.func54,Tryz.ntmps54
 go_wp2_with (first
  | (go_at_call 26;with_reducible refine h1.mono ?_;clear h1;rintro r w3 ⟨rfl,aM⟩
     have B3:Hid (Below w.heap.size w w3):=hb0.out.trans (aM.mono hb0.out.size)
     have l3:w.heap.size+1<w3.heap.size:=Nat.lt_of_lt_of_le l0 aM.size
     have h2:=k2.out w3 B3.out
     have a0:=(aM.cell (p:=⟨w.heap.size,0,none⟩) (by exact Nat.lt_trans (Nat.lt_succ_self _) l0)).trans y0
     have a1:=(aM.cell (p:=⟨w.heap.size,1,none⟩) (by exact Nat.lt_trans (Nat.lt_succ_self _) l0)).trans y1
     have a2:=(aM.cell (p:=⟨w.heap.size,2,none⟩) (by exact Nat.lt_trans (Nat.lt_succ_self _) l0)).trans y2
     have a3:=(aM.cell (p:=⟨w.heap.size,3,none⟩) (by exact Nat.lt_trans (Nat.lt_succ_self _) l0)).trans y3
     have a4:=(aM.cell (p:=⟨w.heap.size,4,none⟩) (by exact Nat.lt_trans (Nat.lt_succ_self _) l0)).trans y4
     have a5:=(aM.cell (p:=⟨w.heap.size,5,none⟩) (by exact Nat.lt_trans (Nat.lt_succ_self _) l0)).trans y5
     have a6:=(aM.cell (p:=⟨w.heap.size,6,none⟩) (by exact Nat.lt_trans (Nat.lt_succ_self _) l0)).trans y6
     have aa0:=(aM.cell (p:=⟨w.heap.size+1,0,none⟩) (by exact l0)).trans yy0
     have aa1:=(aM.cell (p:=⟨w.heap.size+1,1,none⟩) (by exact l0)).trans yy1
     have aa2:=(aM.cell (p:=⟨w.heap.size+1,2,none⟩) (by exact l0)).trans yy2
     have aa3:=(aM.cell (p:=⟨w.heap.size+1,3,none⟩) (by exact l0)).trans yy3
     have aa4:=(aM.cell (p:=⟨w.heap.size+1,4,none⟩) (by exact l0)).trans yy4
     have aa5:=(aM.cell (p:=⟨w.heap.size+1,5,none⟩) (by exact l0)).trans yy5
     have aa6:=(aM.cell (p:=⟨w.heap.size+1,6,none⟩) (by exact l0)).trans yy6
     clear aM y0 yy0 y1 yy1 y2 yy2 y3 yy3 y4 yy4 y5 yy5 y6 yy6)
  | (go_at_call 26;with_reducible refine h2.mono ?_;clear h2;rintro r w4 ⟨rfl,aW⟩
     have B4:Hid (Below w.heap.size w w4):=B3.out.trans (aW.mono B3.out.size)
     have h3:=k3.out w4 B4.out
     have c0:=(aW.cell (p:=⟨w.heap.size,0,none⟩) (by exact Nat.lt_trans (Nat.lt_succ_self _) l3)).trans a0
     have c1:=(aW.cell (p:=⟨w.heap.size,1,none⟩) (by exact Nat.lt_trans (Nat.lt_succ_self _) l3)).trans a1
     have c2:=(aW.cell (p:=⟨w.heap.size,2,none⟩) (by exact Nat.lt_trans (Nat.lt_succ_self _) l3)).trans a2
     have c3:=(aW.cell (p:=⟨w.heap.size,3,none⟩) (by exact Nat.lt_trans (Nat.lt_succ_self _) l3)).trans a3
     have c4:=(aW.cell (p:=⟨w.heap.size,4,none⟩) (by exact Nat.lt_trans (Nat.lt_succ_self _) l3)).trans a4
     have c5:=(aW.cell (p:=⟨w.heap.size,5,none⟩) (by exact Nat.lt_trans (Nat.lt_succ_self _) l3)).trans a5
     have c6:=(aW.cell (p:=⟨w.heap.size,6,none⟩) (by exact Nat.lt_trans (Nat.lt_succ_self _) l3)).trans a6
     have cc0:=(aW.cell (p:=⟨w.heap.size+1,0,none⟩) (by exact l3)).trans aa0
     have cc1:=(aW.cell (p:=⟨w.heap.size+1,1,none⟩) (by exact l3)).trans aa1
     have cc2:=(aW.cell (p:=⟨w.heap.size+1,2,none⟩) (by exact l3)).trans aa2
     have cc3:=(aW.cell (p:=⟨w.heap.size+1,3,none⟩) (by exact l3)).trans aa3
     have cc4:=(aW.cell (p:=⟨w.heap.size+1,4,none⟩) (by exact l3)).trans aa4
     have cc5:=(aW.cell (p:=⟨w.heap.size+1,5,none⟩) (by exact l3)).trans aa5
     have cc6:=(aW.cell (p:=⟨w.heap.size+1,6,none⟩) (by exact l3)).trans aa6
     clear aW a0 aa0 a1 aa1 a2 aa2 a3 aa3 a4 aa4 a5 aa5 a6 aa6)
  | (go_at_call 84;with_reducible refine h3.mono ?_;rintro r w5 ⟨rfl,gd⟩))
 go_ret2
 exact⟨rfl,B4.out.trans (gd.mono B4.out.size)⟩
theorem ze0 {w:World} {x y:Ex} {d e:Nd} (hx:ExOk w x d) (hy:ExOk w y e) (vx:exV x=true) (vy:exV y=true):
  Calls Tryz.prog 14 #[d.val,e.val] w fun r w'=>r=.returned (.tuple #[.bool (x.sm y),.int .i64 0])/\Below w.heap.size w w':=by
 have hb0:Hid (Below w.heap.size w ((w.alloc (.cells (nA d) 30)).alloc (.cells (nA e) 30))):=zah w _ _
 have hs:=hb0.out.size
 have k1:=fun z (hz:Below w.heap.size w z)=>zc7 (hx.below hz)
 have k2:=fun z (hz:Below w.heap.size w z)=>zc7 (hy.below hz)
 have k3:=fun z (hz:Below w.heap.size w z)=>zk0 x y d e z (hx.below hz) (hy.below hz)
 rw[show (x.cnt 1 0).isSome=true from vx] at k1
 rw[show (y.cnt 1 0).isSome=true from vy] at k2
 simp only[Nd.val] at k1 k2 k3 ⊢
 have k2:Hid (CA w 35 #[.agg (nA e)] (.bool true)):=k2
 have k3:Hid (CA w 38 #[.agg (nA d),.agg (nA e)] (.bool (x.sm y))):=k3
 have h1:=k1 _ hb0.out
 have l0:w.heap.size+1<((w.alloc (.cells (nA d) 30)).alloc (.cells (nA e) 30)).heap.size:=by simp
 have y0:((w.alloc (.cells (nA d) 30)).alloc (.cells (nA e) 30)).cell? ⟨w.heap.size,0,none⟩=some (.int .i64 d.k):=by simp
 have y1:((w.alloc (.cells (nA d) 30)).alloc (.cells (nA e) 30)).cell? ⟨w.heap.size,1,none⟩=some (.int .i64 d.f):=by simp
 have y2:((w.alloc (.cells (nA d) 30)).alloc (.cells (nA e) 30)).cell? ⟨w.heap.size,2,none⟩=some (.bool d.neg):=by simp
 have y3:((w.alloc (.cells (nA d) 30)).alloc (.cells (nA e) 30)).cell? ⟨w.heap.size,3,none⟩=some (.slice d.aq d.an d.ac):=by simp
 have y4:((w.alloc (.cells (nA d) 30)).alloc (.cells (nA e) 30)).cell? ⟨w.heap.size,4,none⟩=some (.slice d.cq d.cn d.cc):=by simp
 have y5:((w.alloc (.cells (nA d) 30)).alloc (.cells (nA e) 30)).cell? ⟨w.heap.size,5,none⟩=some (.string d.m):=by simp
 have y6:((w.alloc (.cells (nA d) 30)).alloc (.cells (nA e) 30)).cell? ⟨w.heap.size,6,none⟩=some (.slice d.sq d.sn d.sc):=by simp
 have yy0:((w.alloc (.cells (nA d) 30)).alloc (.cells (nA e) 30)).cell? ⟨w.heap.size+1,0,none⟩=some (.int .i64 e.k):=by simp
 have yy1:((w.alloc (.cells (nA d) 30)).alloc (.cells (nA e) 30)).cell? ⟨w.heap.size+1,1,none⟩=some (.int .i64 e.f):=by simp
 have yy2:((w.alloc (.cells (nA d) 30)).alloc (.cells (nA e) 30)).cell? ⟨w.heap.size+1,2,none⟩=some (.bool e.neg):=by simp
 have yy3:((w.alloc (.cells (nA d) 30)).alloc (.cells (nA e) 30)).cell? ⟨w.heap.size+1,3,none⟩=some (.slice e.aq e.an e.ac):=by simp
 have yy4:((w.alloc (.cells (nA d) 30)).alloc (.cells (nA e) 30)).cell? ⟨w.heap.size+1,4,none⟩=some (.slice e.cq e.cn e.cc):=by simp
 have yy5:((w.alloc (.cells (nA d) 30)).alloc (.cells (nA e) 30)).cell? ⟨w.heap.size+1,5,none⟩=some (.string e.m):=by simp
 have yy6:((w.alloc (.cells (nA d) 30)).alloc (.cells (nA e) 30)).cell? ⟨w.heap.size+1,6,none⟩=some (.slice e.sq e.sn e.sc):=by simp
 clear k1 hx hy vx vy
 go_enter Tryz.func14,Tryz.ntmps14
 go_wp2_with (first
  | (go_at_call 35;with_reducible refine h1.mono ?_;clear h1;rintro r w3 ⟨rfl,aM⟩
     have B3:Hid (Below w.heap.size w w3):=hb0.out.trans (aM.mono hb0.out.size)
     have l3:w.heap.size+1<w3.heap.size:=Nat.lt_of_lt_of_le l0 aM.size
     have h2:=k2.out w3 B3.out
     have a0:=(aM.cell (p:=⟨w.heap.size,0,none⟩) (by exact Nat.lt_trans (Nat.lt_succ_self _) l0)).trans y0
     have a1:=(aM.cell (p:=⟨w.heap.size,1,none⟩) (by exact Nat.lt_trans (Nat.lt_succ_self _) l0)).trans y1
     have a2:=(aM.cell (p:=⟨w.heap.size,2,none⟩) (by exact Nat.lt_trans (Nat.lt_succ_self _) l0)).trans y2
     have a3:=(aM.cell (p:=⟨w.heap.size,3,none⟩) (by exact Nat.lt_trans (Nat.lt_succ_self _) l0)).trans y3
     have a4:=(aM.cell (p:=⟨w.heap.size,4,none⟩) (by exact Nat.lt_trans (Nat.lt_succ_self _) l0)).trans y4
     have a5:=(aM.cell (p:=⟨w.heap.size,5,none⟩) (by exact Nat.lt_trans (Nat.lt_succ_self _) l0)).trans y5
     have a6:=(aM.cell (p:=⟨w.heap.size,6,none⟩) (by exact Nat.lt_trans (Nat.lt_succ_self _) l0)).trans y6
     have aa0:=(aM.cell (p:=⟨w.heap.size+1,0,none⟩) (by exact l0)).trans yy0
     have aa1:=(aM.cell (p:=⟨w.heap.size+1,1,none⟩) (by exact l0)).trans yy1
     have aa2:=(aM.cell (p:=⟨w.heap.size+1,2,none⟩) (by exact l0)).trans yy2
     have aa3:=(aM.cell (p:=⟨w.heap.size+1,3,none⟩) (by exact l0)).trans yy3
     have aa4:=(aM.cell (p:=⟨w.heap.size+1,4,none⟩) (by exact l0)).trans yy4
     have aa5:=(aM.cell (p:=⟨w.heap.size+1,5,none⟩) (by exact l0)).trans yy5
     have aa6:=(aM.cell (p:=⟨w.heap.size+1,6,none⟩) (by exact l0)).trans yy6
     clear aM y0 yy0 y1 yy1 y2 yy2 y3 yy3 y4 yy4 y5 yy5 y6 yy6)
  | (go_at_call 35;with_reducible refine h2.mono ?_;clear h2;rintro r w4 ⟨rfl,aW⟩
     have B4:Hid (Below w.heap.size w w4):=B3.out.trans (aW.mono B3.out.size)
     have h3:=k3.out w4 B4.out
     have c0:=(aW.cell (p:=⟨w.heap.size,0,none⟩) (by exact Nat.lt_trans (Nat.lt_succ_self _) l3)).trans a0
     have c1:=(aW.cell (p:=⟨w.heap.size,1,none⟩) (by exact Nat.lt_trans (Nat.lt_succ_self _) l3)).trans a1
     have c2:=(aW.cell (p:=⟨w.heap.size,2,none⟩) (by exact Nat.lt_trans (Nat.lt_succ_self _) l3)).trans a2
     have c3:=(aW.cell (p:=⟨w.heap.size,3,none⟩) (by exact Nat.lt_trans (Nat.lt_succ_self _) l3)).trans a3
     have c4:=(aW.cell (p:=⟨w.heap.size,4,none⟩) (by exact Nat.lt_trans (Nat.lt_succ_self _) l3)).trans a4
     have c5:=(aW.cell (p:=⟨w.heap.size,5,none⟩) (by exact Nat.lt_trans (Nat.lt_succ_self _) l3)).trans a5
     have c6:=(aW.cell (p:=⟨w.heap.size,6,none⟩) (by exact Nat.lt_trans (Nat.lt_succ_self _) l3)).trans a6
     have cc0:=(aW.cell (p:=⟨w.heap.size+1,0,none⟩) (by exact l3)).trans aa0
     have cc1:=(aW.cell (p:=⟨w.heap.size+1,1,none⟩) (by exact l3)).trans aa1
     have cc2:=(aW.cell (p:=⟨w.heap.size+1,2,none⟩) (by exact l3)).trans aa2
     have cc3:=(aW.cell (p:=⟨w.heap.size+1,3,none⟩) (by exact l3)).trans aa3
     have cc4:=(aW.cell (p:=⟨w.heap.size+1,4,none⟩) (by exact l3)).trans aa4
     have cc5:=(aW.cell (p:=⟨w.heap.size+1,5,none⟩) (by exact l3)).trans aa5
     have cc6:=(aW.cell (p:=⟨w.heap.size+1,6,none⟩) (by exact l3)).trans aa6
     clear aW a0 aa0 a1 aa1 a2 aa2 a3 aa3 a4 aa4 a5 aa5 a6 aa6)
  | (go_at_call 38;with_reducible refine h3.mono ?_;rintro r w5 ⟨rfl,gd⟩))
 go_ret2
 exact⟨rfl,B4.out.trans (gd.mono B4.out.size)⟩
theorem ze1 {w:World} {x y:Ex} {d e:Nd} (hx:ExOk w x d) (hy:ExOk w y e) (hT:Tb w) (vx:exV x=true) (vy:exV y=true):
  Calls Tryz.prog 28 #[d.val,e.val] w fun r w'=>r=.returned (.bool (x.sm y))/\Below w.heap.size w w':=by
 have hb0:Below w.heap.size w ((w.alloc (.cells (nA d) 30)).alloc (.cells (nA e) 30)):=zah w _ _
 have h1:=zjg (hx.below hb0) (hy.below hb0) (hT.below hb0) vx vy
 have hb0:=zac hb0
 simp only[Nd.val] at h1 ⊢
 generalize x.sm y=R at*
 clear hx hy hT
 go_enter Tryz.func28,Tryz.ntmps28
 go_wp2_with (go_at_call 54;with_reducible refine h1.mono ?_;rintro r w3 ⟨rfl,hb3⟩)
 go_ret
 exact⟨by simp,hb0.out.trans (hb3.mono hb0.out.size)⟩
theorem co_row:∃d,Tryz.prog.underlying 50=some d/\d.isRow=true:=⟨_,Tryz.underlying50,rfl⟩
theorem zk5:(Tryz.prog.info? 50).map (·.size)=some 8:=by kernel_rfl
theorem Co.one' (c:Co) (d:Nd):(c.cells d).toArray.all (·.oneCell')=true:=by
 rw[List.all_toArray,List.all_eq_true]
 exact Co.one c d
def coSv (x k:Co):Bool:=(x.st||!k.st)&&x.x.sm k.x
theorem zhf {w:World} {d e:Nd} {xs ks R:Bool} (B:Nat) (_hB:B<w.heap.size) (hk:BlkI w B 50 (nB e ks))
  (hE:CA w 28 #[.agg (nA d),.agg (nA e)] (.bool R)):
  Calls Tryz.prog 33 #[.agg (nB d xs),.pointer (some ⟨B,0,none⟩)] w fun r w'=>r=.returned (.bool ((xs||!ks)&&R))/\Below w.heap.size w w':=by
 have hb0:Below w.heap.size w (w.alloc (.cells (nB d xs) 50)):=zaa w _
 have h1:=hE _ hb0
 have hk1:=hk.below hb0
 obtain⟨u0,u1,u2,u3,u4,u5,u6,u7⟩:=hk1.c8
 have hb0:=zac hb0
 clear hE hk hk1
 cases xs with
 | true=>
  go_enter Tryz.func33,Tryz.ntmps33
  go_wp2_with (go_at_call 28;with_reducible refine h1.mono ?_;rintro r w3 ⟨rfl,hb3⟩)
  go_ret
  exact⟨by simp,hb0.out.trans (hb3.mono hb0.out.size)⟩
 | false=>
  cases ks with
  | true=>
   go_enter Tryz.func33,Tryz.ntmps33
   go_wp2_with fail
   go_ret
   exact⟨by simp,hb0.out⟩
  | false=>
   go_enter Tryz.func33,Tryz.ntmps33
   go_wp2_with (go_at_call 28;with_reducible refine h1.mono ?_;rintro r w3 ⟨rfl,hb3⟩)
   go_ret
   exact⟨by simp,hb0.out.trans (hb3.mono hb0.out.size)⟩
theorem zk6 {w:World} (C:Co) (d:Nd) (K:Co) (e:Nd) (B:Nat) (hB:B<w.heap.size) (hk:BlkI w B 50 (K.cells e).toArray) (hx:ExOk w C.x d) (hy:ExOk w K.x e) (vx:exV C.x=true) (vy:exV K.x=true) (hT:Tb w):
  Calls Tryz.prog 33 #[.agg (C.cells d).toArray,.pointer (some ⟨B,0,none⟩)] w fun r w'=>r=.returned (.bool (coSv C K))/\Below w.heap.size w w':=
 zhf B hB hk (fun _z hz=>ze1 (hx.below hz) (hy.below hz) (hT.below hz) vx vy)
theorem zjh {w:World} (b o n c:Nat) (cs:Nat->Co) (ds:Nat->Nd) (P:Nat->Bool) (hn:n<=1048576) (hb:b<w.heap.size) (hx:∀i,i<n->w.rangeAt b (o+i*8) ((cs i).cells (ds i))) (B:Nat)
  (hc:∀i,i<n->CA w 33 #[.agg ((cs i).cells (ds i)).toArray,.pointer (some ⟨B,0,none⟩)] (.bool (P i))):
  Calls Tryz.prog 59 #[.slice (some ⟨b,o,none⟩) n c,.func (.func 33) #[] #[.pointer (some ⟨B,0,none⟩)]] w fun x w'=>x=.returned (.int .i64 (ixV ((List.range n).find? P)))/\Below w.heap.size w w':=by
 have hx':Hid (∀i,i<n->w.rangeAt b (o+i*8) ((cs i).cells (ds i))):=hx
 have hc':=zac hc
 obtain⟨dd,hu,hd⟩:=co_row
 have hHu:=zac hu
 clear hx hu hc
 go_enter Tryz.func59,Tryz.ntmps59
 go_wp2_with fail
 go_loopw [8] (fun i wr=>∃k:Nat,k<=n/\i=.int .i64 k/\Hid (∀j,j<k->P j=false)/\Below w.heap.size w wr) (fun i _=>n - (intOf i).toNat)
 case atStart=>exact⟨0,Nat.zero_le _,rfl,fun j hj=>by omega,Below.refl _ _⟩
 case round=>
  obtain⟨k,hk,rfl,aE,hbw⟩:=hrel
  by_cases hlt:k<n
  ·have aA:(k:Int)<(n:Int):=by omega
   have hx:=zad (hx'.out k hlt) hbw hb
   have lx:=Co.len (cs k) (ds k)
   have ox':Hid (((cs k).cells (ds k)).toArray.all (·.oneCell')=true):=Co.one' _ _
   have aw:=hc'.out k hlt wr hbw
   obtain⟨M,hM⟩:∃M,P k=M:=⟨_,rfl⟩
   have hM:Hid (P k=M):=hM
   rw[hM.out] at aw
   generalize (cs k).cells (ds k)=cx at*
   cases M with
   | true=>
    go_wp2_with (first
     | (with_reducible refine wpList_load_mid (op:=⟨some 15,_,_,_,_,_⟩) ?_ 50 (.tmp 14) ?_ (b) (o+k*8) ?_ cx dd ?_ hHu.out hd ?_ ?_
        rotate_left 1
        ·with_reducible rfl
        ·kernel_rfl
        ·exact hx
        ·(rw[lx];exact zk5)
        rotate_left 1
        ·rfl)
     | (go_at_call 33;refine aw.mono ?_;rintro x w5 ⟨rfl,hb5⟩))
    go_ret
    have hs:(List.range n).find? P=some k:=by
     rw[List.find?_eq_some_iff_getElem]
     refine⟨hM.out,k,by simpa using hlt,by simp,fun i hi=>?_⟩
     simp[aE.out i hi]
    exact⟨by rw[hs];rfl,hbw.trans (hb5.mono hbw.size)⟩
   | false=>
    go_wp2_with (first
     | (with_reducible refine wpList_load_mid (op:=⟨some 15,_,_,_,_,_⟩) ?_ 50 (.tmp 14) ?_ (b) (o+k*8) ?_ cx dd ?_ hHu.out hd ?_ ?_
        rotate_left 1
        ·with_reducible rfl
        ·kernel_rfl
        ·exact hx
        ·(rw[lx];exact zk5)
        rotate_left 1
        ·rfl)
     | (go_at_call 33;refine aw.mono ?_;rintro x w5 ⟨rfl,hb5⟩))
    go_roundw
    case rel=>
     refine⟨k+1,by omega,by go_num,fun j hj=>?_,hbw.trans (hb5.mono hbw.size)⟩
     rcases Nat.lt_or_ge j k with h | h
     ·exact aE.out j h
     ·obtain rfl:j=k:=by omega
      exact hM.out
    case measure=>simp[intOf];omega
  ·obtain rfl:k=n:=by omega
   go_wp2_with fail
   go_ret
   have hs:(List.range k).find? P=none:=by
    rw[List.find?_eq_none]
    intro i hi
    simp[aE.out i (List.mem_range.1 hi)]
   exact⟨by rw[hs];rfl,hbw⟩
theorem zji {w:World} (q:Option Addr) (c:Nat) (f:Value):Calls Tryz.prog 59 #[.slice q 0 c,f] w fun x w'=>x=.returned (.int .i64 (-1))/\w'=w:=by
 go_enter Tryz.func59,Tryz.ntmps59
 go_wp2_with fail
 refine wp_loop_once ?_
 go_wp2_with fail
 go_ret
 exact⟨rfl,rfl⟩
theorem ixV_ge (n:Nat) (P:Nat->Bool):decide (ixV ((List.range n).find? P)>=0)=(List.range n).any P:=by
 cases h:(List.range n).find? P with
 | none=>
  rw[List.find?_eq_none] at h
  have:(List.range n).any P=false:=by
   rw[List.any_eq_false]
   exact h
  rw[this]
  rfl
 | some i=>
  have h1:=List.find?_some h
  have h2:=List.mem_of_find?_eq_some h
  have:(List.range n).any P=true:=by
   rw[List.any_eq_true]
   exact⟨i,h2,h1⟩
  rw[this,decide_eq_true (show ixV (some i)>=0 by simp only[ixV];omega)]
theorem has33_ok {w:World} {q:Option Addr} {n:Nat} (c:Nat) {cs:Nat->Co} (h:CosOk w q n cs) (hn:n<=1048576) (hv:∀i,i<n->exV (cs i).x=true) (K:Co) (e:Nd) (B:Nat) (hB:B<w.heap.size) (hk:BlkI w B 50 (K.cells e).toArray) (hy:ExOk w K.x e) (vy:exV K.x=true) (hT:Tb w):
  Calls Tryz.prog 32 #[.slice q n c,.func (.func 33) #[] #[.pointer (some ⟨B,0,none⟩)]] w fun x w'=>x=.returned (.bool ((List.range n).any fun i=>coSv (cs i) K))/\Below w.heap.size w w':=by
 have aw:Calls Tryz.prog 59 #[.slice q n c,.func (.func 33) #[] #[.pointer (some ⟨B,0,none⟩)]] w fun x w'=>x=.returned (.int .i64 (ixV ((List.range n).find? fun i=>coSv (cs i) K)))/\Below w.heap.size w w':=by
  rcases h with rfl | ⟨b,o,rfl,hlt,ds,hds⟩
  ·refine(zji q c _).mono ?_
   rintro x w' ⟨rfl,rfl⟩
   exact⟨rfl,Below.refl _ _⟩
  ·exact zjh b o n c cs ds _ hn hlt (fun i hi=>(hds i hi).1) B (fun i hi z hz=>zk6 (cs i) (ds i) K e B (Nat.lt_of_lt_of_le hB hz.size) (hk.below hz) ((hds i hi).2.below hz) (hy.below hz) (hv i hi) vy (hT.below hz))
 rw[<-ixV_ge]
 generalize ixV _=r at*
 clear h hk hv hT hy
 go_enter Tryz.func32,Tryz.ntmps32
 go_wp2_with (go_at_call 59;with_reducible refine aw.mono ?_;rintro x w5 ⟨rfl,hb5⟩)
 go_ret
 exact⟨rfl,hb5⟩
end Go.Proofs.YtaonejnicgbifaaGreatDoor
