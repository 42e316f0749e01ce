import Derived.Test.YtfhjhnofkaiceaaGreatDoorXdA
import Derived.Test.YtfhjhnofkaiceaaGreatDoorDvJ
namespace Go.Proofs.YtfhjhnofkaiceaaGreatDoor
open Go Go.RowKit
set_option maxRecDepth 100000 in
set_option maxHeartbeats 1000000 in
theorem zbs {w:World} {g:Bool} {q q':Option Addr} {n c n' c':Nat} {nu de:List Int} (h1:Sl w (.slice q n c) nu) (h2:Sl w (.slice q' n' c') de):
  Calls Tryz.prog 90 #[.agg #[.bool g,.slice q n c,.slice q' n' c']] w fun e w'=>∃q1 c1 q2 c2,e=.returned (.agg #[.bool g,.slice q1 n c1,.slice q2 n' c2])/\SlA w' (Fresh w w') (.slice q1 n c1) nu/\SlA w' (Fresh w w') (.slice q2 n' c2) de/\Below w.heap.size w w':=by
 have k1:∀z,Below w.heap.size w z->Calls Tryz.prog 122 #[.slice q n c] z fun e w'=>∃q' c',e=.returned (.slice q' n c')/\SlA w' (Fresh z w') (.slice q' n c') nu/\Below z.heap.size z w':=fun z hz=>zb1 (h1.below hz)
 have k2:∀z,Below w.heap.size w z->Calls Tryz.prog 122 #[.slice q' n' c'] z fun e w'=>∃q1 c1,e=.returned (.slice q1 n' c1)/\SlA w' (Fresh z w') (.slice q1 n' c1) de/\Below z.heap.size z w':=fun z hz=>zb1 (h2.below hz)
 clear h1 h2
 go_enter Tryz.func90,Tryz.ntmps90
 go_wp2_with fail
 generalize hw1:(w.alloc _).alloc _=w1 at*
 have hW1:Below w.heap.size w w1:=by rw[<-hw1];exact below_two _ _ _
 have hz1:w1.heap.size=w.heap.size+2:=by rw[<-hw1];simp
 have p0:w1.cell? ⟨w.heap.size,0,none⟩=some (.bool g):=by rw[<-hw1];simp
 have p1:w1.cell? ⟨w.heap.size,1,none⟩=some (.slice q n c):=by rw[<-hw1];simp
 have p2:w1.cell? ⟨w.heap.size,2,none⟩=some (.slice q' n' c'):=by rw[<-hw1];simp
 have p3:w1.cell? ⟨w.heap.size+1,0,none⟩=some (.bool false):=by rw[<-hw1];simp
 have p4:w1.cell? ⟨w.heap.size+1,1,none⟩=some (.slice none 0 0):=by rw[<-hw1];simp
 have p5:w1.cell? ⟨w.heap.size+1,2,none⟩=some (.slice none 0 0):=by rw[<-hw1];simp
 have p6:∀j,w1.frozen? ⟨w.heap.size+1,j,none⟩=false:=by rw[<-hw1];intro j;simp
 clear hw1
 have hS1:(fun z=>Below w.heap.size w z/\w.heap.size+2<=z.heap.size/\z.cell? ⟨w.heap.size,0,none⟩=some (.bool g)/\z.cell? ⟨w.heap.size,1,none⟩=some (.slice q n c)/\z.cell? ⟨w.heap.size,2,none⟩=some (.slice q' n' c')) w1.drew:=⟨hW1.drew,by show _<=w1.heap.size;omega,p0,p1,p2⟩
 have tr:∀z z',(fun z=>Below w.heap.size w z/\w.heap.size+2<=z.heap.size/\z.cell? ⟨w.heap.size,0,none⟩=some (.bool g)/\z.cell? ⟨w.heap.size,1,none⟩=some (.slice q n c)/\z.cell? ⟨w.heap.size,2,none⟩=some (.slice q' n' c')) z->Below z.heap.size z z'->(fun z=>Below w.heap.size w z/\w.heap.size+2<=z.heap.size/\z.cell? ⟨w.heap.size,0,none⟩=some (.bool g)/\z.cell? ⟨w.heap.size,1,none⟩=some (.slice q n c)/\z.cell? ⟨w.heap.size,2,none⟩=some (.slice q' n' c')) z':=by
  rintro z z' ⟨a0,a1,a2,a3,a4⟩ hb
  have hs:=hb.size
  exact⟨a0.trans (hb.mono a0.size),by omega,(hb.cell (by show w.heap.size<_;omega)).trans a2,(hb.cell (by show w.heap.size<_;omega)).trans a3,(hb.cell (by show w.heap.size<_;omega)).trans a4⟩
 have ts:∀z j u,(fun z=>Below w.heap.size w z/\w.heap.size+2<=z.heap.size/\z.cell? ⟨w.heap.size,0,none⟩=some (.bool g)/\z.cell? ⟨w.heap.size,1,none⟩=some (.slice q n c)/\z.cell? ⟨w.heap.size,2,none⟩=some (.slice q' n' c')) z->(fun z=>Below w.heap.size w z/\w.heap.size+2<=z.heap.size/\z.cell? ⟨w.heap.size,0,none⟩=some (.bool g)/\z.cell? ⟨w.heap.size,1,none⟩=some (.slice q n c)/\z.cell? ⟨w.heap.size,2,none⟩=some (.slice q' n' c')) (z.setCell ⟨w.heap.size+1,j,none⟩ u):=by
  rintro z j u ⟨a0,a1,a2,a3,a4⟩
  exact⟨a0.setCell (by show _<=w.heap.size+1;omega) u,by simp;omega,(World.cell?_setCell_far _ _ _ _ (by simp)).trans a2,(World.cell?_setCell_far _ _ _ _ (by simp)).trans a3,(World.cell?_setCell_far _ _ _ _ (by simp)).trans a4⟩
 have tr':=hid_of tr
 have ts':=hid_of ts
 clear tr ts p0 p1 p2
 have hsd:w1.drew.heap.size=w1.heap.size:=rfl
 go_region_held3 (fun z=>Below w.heap.size w z/\w.heap.size+2<=z.heap.size/\z.cell? ⟨w.heap.size,0,none⟩=some (.bool g)/\z.cell? ⟨w.heap.size,1,none⟩=some (.slice q n c)/\z.cell? ⟨w.heap.size,2,none⟩=some (.slice q' n' c')) (first | exact hS3 | exact hS2 | exact hS1 | exact ts'.out _ _ _ (ts'.out _ _ _ (ts'.out _ _ _ hS3)))
  (first
    | (go_at_call 122;with_reducible refine(k1 _ ?_).mono ?_;exact hS1.1;rintro e w2 ⟨q1,c1,rfl,hA1,hb2⟩
       have hS2:=tr'.out _ _ hS1 hb2)
    | (go_at_call 122;with_reducible refine(k2 _ ?_).mono ?_;exact hS2.1;rintro e w3 ⟨q2,c2,rfl,hA2,hb3⟩
       have hS3:=tr'.out _ _ hS2 hb3
       have hs2:=hb2.size
       have hs3:=hb3.size
       have r3:w3.cell? ⟨w.heap.size+1,0,none⟩=some (.bool false):=(hb3.cell (by show w.heap.size+1<_;omega)).trans ((hb2.cell (by show w.heap.size+1<_;omega)).trans p3)
       have r4:w3.cell? ⟨w.heap.size+1,1,none⟩=some (.slice none 0 0):=(hb3.cell (by show w.heap.size+1<_;omega)).trans ((hb2.cell (by show w.heap.size+1<_;omega)).trans p4)
       have r5:w3.cell? ⟨w.heap.size+1,2,none⟩=some (.slice none 0 0):=(hb3.cell (by show w.heap.size+1<_;omega)).trans ((hb2.cell (by show w.heap.size+1<_;omega)).trans p5)
       have r6:∀j,w3.frozen? ⟨w.heap.size+1,j,none⟩=false:=fun j=>(hb3.frozen (by show w.heap.size+1<_;omega)).trans ((hb2.frozen (by show w.heap.size+1<_;omega)).trans (p6 j))))
 go_wp2_with fail
 generalize hw4:((w3.setCell _ _).setCell _ _).setCell _ _=w4
 obtain⟨d,hu,hd⟩:=zf2
 have hr:w4.rangeAt (w.heap.size+1) 0 [.bool g,.slice q1 n c1,.slice q2 n' c2]:=by
  rw[<-hw4]
  intro j v hv
  match j,hv with
  | 0,hv=>
   simp only[List.getElem?_cons_zero,Option.some.injEq] at hv
   subst hv
   rw[World.cell?_setCell_other _ _ _ _ (by simp),World.cell?_setCell_other _ _ _ _ (by simp),World.cell?_setCell_same _ _ _ r3]
  | 1,hv=>
   simp only[List.getElem?_cons_succ,List.getElem?_cons_zero,Option.some.injEq] at hv
   subst hv
   rw[World.cell?_setCell_other _ _ _ _ (by simp),World.cell?_setCell_same _ _ _ (by rw[World.cell?_setCell_other _ _ _ _ (by simp)];exact r4)]
  | 2,hv=>
   simp only[List.getElem?_cons_succ,List.getElem?_cons_zero,Option.some.injEq] at hv
   subst hv
   rw[World.cell?_setCell_same _ _ _ (by rw[World.cell?_setCell_other _ _ _ _ (by simp),World.cell?_setCell_other _ _ _ _ (by simp)];exact r5)]
 have hk:Keeps (fun b=>w.heap.size+2<=b) w3 w4:=by
  rw[<-hw4]
  exact((zad _ _ _ _ (by simp)).trans (zad _ _ _ _ (by simp))).trans (zad _ _ _ _ (by simp))
 have hs4:w4.heap.size=w3.heap.size:=by rw[<-hw4];simp
 have hW4:Below w.heap.size w w4:=by
  rw[<-hw4]
  exact((hS3.1.setCell (by show _<=w.heap.size+1;omega) _).setCell (by show _<=w.heap.size+1;omega) _).setCell (by show _<=w.heap.size+1;omega) _
 refine bodyPost_ret (zac rfl _ _ (w.heap.size+1) _ d rfl hr hu hd zeb) rfl ?_
 refine⟨q1,c1,q2,c2,rfl,?_,?_,hW4⟩
 ·refine SlA.keep (A:=Fresh w1.drew w2) ((zah hb3).mono (fun b hb=>hb.2) |>.trans (hk.mono fun b hb=>?_)) (fun b hb=>?_) hA1
  ·have:=hb.1;omega
  ·have h1:=hb.1
   have h2:=hb.2
   exact⟨by omega,by omega⟩
 ·refine SlA.keep (A:=Fresh w2 w3) (hk.mono fun b hb=>?_) (fun b hb=>?_) hA2
  ·have:=hb.1;omega
  ·have h1:=hb.1
   have h2:=hb.2
   exact⟨by omega,by omega⟩
set_option maxRecDepth 100000 in
set_option maxHeartbeats 1000000 in
theorem zcw {w:World} {d:Nd} {nu de:List Int} (ds:Nat->Nd) (ar:Nat->Ex) (hn:d.sn<=1048576)
  (hR:∀z,Below w.heap.size w z->Calls Tryz.prog 90 #[.agg #[.bool d.neg,.slice d.aq d.an d.ac,.slice d.cq d.cn d.cc]] z fun e w'=>∃q1 c1 q2 c2,e=.returned (.agg #[.bool d.neg,.slice q1 d.an c1,.slice q2 d.cn c2])/\SlA w' (Fresh z w') (.slice q1 d.an c1) nu/\SlA w' (Fresh z w') (.slice q2 d.cn c2) de/\Below z.heap.size z w')
  (hk:d.sn=0\/∃b o,d.sq=some ⟨b,o,none⟩/\b<w.heap.size/\∀i,i<d.sn->w.rangeAt b (o+i*7) (ds i).cells)
  (hK:∀i,i<d.sn->∀z,Below w.heap.size w z->Calls Tryz.prog 89 #[.agg (ds i).cells.toArray] z fun e w'=>∃d':Nd,e=.returned (.agg #[.int .i64 d'.k,.int .i64 d'.f,.bool d'.neg,.slice d'.aq d'.an d'.ac,.slice d'.cq d'.cn d'.cc,.string d'.m,.slice d'.sq d'.sn d'.sc])/\ExA w' (Fresh z w') (ar i) d'/\Below z.heap.size z w'):
  Calls Tryz.prog 89 #[.agg #[.int .i64 d.k,.int .i64 d.f,.bool d.neg,.slice d.aq d.an d.ac,.slice d.cq d.cn d.cc,.string d.m,.slice d.sq d.sn d.sc]] w fun e w'=>∃q1 c1 q2 c2 q3 c3,e=.returned (.agg #[.int .i64 d.k,.int .i64 d.f,.bool d.neg,.slice q1 d.an c1,.slice q2 d.cn c2,.string d.m,.slice q3 d.sn c3])/\
   SlA w' (Fresh w w') (.slice q1 d.an c1) nu/\SlA w' (Fresh w w') (.slice q2 d.cn c2) de/\(d.sn=0\/∃b,q3=some ⟨b,0,none⟩/\Fresh w w' b/\∃es:Nat->Nd,∀i,i<d.sn->w'.rangeAt b (0+i*7) (es i).cells/\ExA w' (Fresh w w') (ar i) (es i))/\Below w.heap.size w w':=by
 have hk':Hid (d.sn=0\/∃b o,d.sq=some ⟨b,o,none⟩/\b<w.heap.size/\∀i,i<d.sn->w.rangeAt b (o+i*7) (ds i).cells):=hk
 clear hk
 go_enter Tryz.func89,Tryz.ntmps89
 go_wp2_with fail
 generalize hw1:(w.alloc _).alloc _=w1 at*
 have hS1:(fun z=>Below w.heap.size w z/\w.heap.size+2<=z.heap.size/\z.cell? ⟨w.heap.size,0,none⟩=some (.int .i64 d.k)/\z.cell? ⟨w.heap.size,1,none⟩=some (.int .i64 d.f)/\z.cell? ⟨w.heap.size,2,none⟩=some (.bool d.neg)/\z.cell? ⟨w.heap.size,3,none⟩=some (.slice d.aq d.an d.ac)/\z.cell? ⟨w.heap.size,4,none⟩=some (.slice d.cq d.cn d.cc)/\z.cell? ⟨w.heap.size,5,none⟩=some (.string d.m)/\z.cell? ⟨w.heap.size,6,none⟩=some (.slice d.sq d.sn d.sc)/\z.heap[w.heap.size+1]?=some (.cells zw7 44 (0,0))) w1:=by
  rw[<-hw1]
  exact⟨below_two _ _ _,by simp,by simp,by simp,by simp,by simp,by simp,by simp,by simp,by have h:=heap_alloc_last (w.alloc (.cells #[.int .i64 d.k,.int .i64 d.f,.bool d.neg,.slice d.aq d.an d.ac,.slice d.cq d.cn d.cc,.string d.m,.slice d.sq d.sn d.sc] 44)) (.cells zw7 44 (0,0));rw[show (w.alloc (.cells #[.int .i64 d.k,.int .i64 d.f,.bool d.neg,.slice d.aq d.an d.ac,.slice d.cq d.cn d.cc,.string d.m,.slice d.sq d.sn d.sc] 44)).heap.size=w.heap.size+1 by simp] at h;exact h⟩
 have hz1:w1.heap.size=w.heap.size+2:=by rw[<-hw1];simp
 clear hw1
 have tr:∀z z',(fun z=>Below w.heap.size w z/\w.heap.size+2<=z.heap.size/\z.cell? ⟨w.heap.size,0,none⟩=some (.int .i64 d.k)/\z.cell? ⟨w.heap.size,1,none⟩=some (.int .i64 d.f)/\z.cell? ⟨w.heap.size,2,none⟩=some (.bool d.neg)/\z.cell? ⟨w.heap.size,3,none⟩=some (.slice d.aq d.an d.ac)/\z.cell? ⟨w.heap.size,4,none⟩=some (.slice d.cq d.cn d.cc)/\z.cell? ⟨w.heap.size,5,none⟩=some (.string d.m)/\z.cell? ⟨w.heap.size,6,none⟩=some (.slice d.sq d.sn d.sc)/\z.heap[w.heap.size+1]?=some (.cells zw7 44 (0,0))) z->Below z.heap.size z z'->(fun z=>Below w.heap.size w z/\w.heap.size+2<=z.heap.size/\z.cell? ⟨w.heap.size,0,none⟩=some (.int .i64 d.k)/\z.cell? ⟨w.heap.size,1,none⟩=some (.int .i64 d.f)/\z.cell? ⟨w.heap.size,2,none⟩=some (.bool d.neg)/\z.cell? ⟨w.heap.size,3,none⟩=some (.slice d.aq d.an d.ac)/\z.cell? ⟨w.heap.size,4,none⟩=some (.slice d.cq d.cn d.cc)/\z.cell? ⟨w.heap.size,5,none⟩=some (.string d.m)/\z.cell? ⟨w.heap.size,6,none⟩=some (.slice d.sq d.sn d.sc)/\z.heap[w.heap.size+1]?=some (.cells zw7 44 (0,0))) z':=by
  rintro z z' ⟨a0,a1,a2,a3,a4,a5,a6,a7,a8,a9⟩ hb
  have hs:=hb.size
  have hl:w.heap.size<z.heap.size:=by omega
  exact⟨a0.trans (hb.mono a0.size),by omega,(hb.cell (by exact hl)).trans a2,(hb.cell (by exact hl)).trans a3,(hb.cell (by exact hl)).trans a4,(hb.cell (by exact hl)).trans a5,(hb.cell (by exact hl)).trans a6,(hb.cell (by exact hl)).trans a7,(hb.cell (by exact hl)).trans a8,(hb.block _ (by omega)).trans a9⟩
 have ts:∀z B j u,w.heap.size+2<=B->(fun z=>Below w.heap.size w z/\w.heap.size+2<=z.heap.size/\z.cell? ⟨w.heap.size,0,none⟩=some (.int .i64 d.k)/\z.cell? ⟨w.heap.size,1,none⟩=some (.int .i64 d.f)/\z.cell? ⟨w.heap.size,2,none⟩=some (.bool d.neg)/\z.cell? ⟨w.heap.size,3,none⟩=some (.slice d.aq d.an d.ac)/\z.cell? ⟨w.heap.size,4,none⟩=some (.slice d.cq d.cn d.cc)/\z.cell? ⟨w.heap.size,5,none⟩=some (.string d.m)/\z.cell? ⟨w.heap.size,6,none⟩=some (.slice d.sq d.sn d.sc)/\z.heap[w.heap.size+1]?=some (.cells zw7 44 (0,0))) z->(fun z=>Below w.heap.size w z/\w.heap.size+2<=z.heap.size/\z.cell? ⟨w.heap.size,0,none⟩=some (.int .i64 d.k)/\z.cell? ⟨w.heap.size,1,none⟩=some (.int .i64 d.f)/\z.cell? ⟨w.heap.size,2,none⟩=some (.bool d.neg)/\z.cell? ⟨w.heap.size,3,none⟩=some (.slice d.aq d.an d.ac)/\z.cell? ⟨w.heap.size,4,none⟩=some (.slice d.cq d.cn d.cc)/\z.cell? ⟨w.heap.size,5,none⟩=some (.string d.m)/\z.cell? ⟨w.heap.size,6,none⟩=some (.slice d.sq d.sn d.sc)/\z.heap[w.heap.size+1]?=some (.cells zw7 44 (0,0))) (z.setCell ⟨B,j,none⟩ u):=by
  rintro z B j u hB ⟨a0,a1,a2,a3,a4,a5,a6,a7,a8,a9⟩
  have hne:¬B=w.heap.size:=by omega
  exact⟨a0.setCell (by show _<=B;omega) u,by simp;omega,(World.cell?_setCell_far _ _ _ _ (by simp[hne])).trans a2,(World.cell?_setCell_far _ _ _ _ (by simp[hne])).trans a3,(World.cell?_setCell_far _ _ _ _ (by simp[hne])).trans a4,(World.cell?_setCell_far _ _ _ _ (by simp[hne])).trans a5,(World.cell?_setCell_far _ _ _ _ (by simp[hne])).trans a6,(World.cell?_setCell_far _ _ _ _ (by simp[hne])).trans a7,(World.cell?_setCell_far _ _ _ _ (by simp[hne])).trans a8,
   (Below.heap_setCell _ _ _ _ (by show ¬_=B;omega)).trans a9⟩
 have td:∀z,(fun z=>Below w.heap.size w z/\w.heap.size+2<=z.heap.size/\z.cell? ⟨w.heap.size,0,none⟩=some (.int .i64 d.k)/\z.cell? ⟨w.heap.size,1,none⟩=some (.int .i64 d.f)/\z.cell? ⟨w.heap.size,2,none⟩=some (.bool d.neg)/\z.cell? ⟨w.heap.size,3,none⟩=some (.slice d.aq d.an d.ac)/\z.cell? ⟨w.heap.size,4,none⟩=some (.slice d.cq d.cn d.cc)/\z.cell? ⟨w.heap.size,5,none⟩=some (.string d.m)/\z.cell? ⟨w.heap.size,6,none⟩=some (.slice d.sq d.sn d.sc)/\z.heap[w.heap.size+1]?=some (.cells zw7 44 (0,0))) z->(fun z=>Below w.heap.size w z/\w.heap.size+2<=z.heap.size/\z.cell? ⟨w.heap.size,0,none⟩=some (.int .i64 d.k)/\z.cell? ⟨w.heap.size,1,none⟩=some (.int .i64 d.f)/\z.cell? ⟨w.heap.size,2,none⟩=some (.bool d.neg)/\z.cell? ⟨w.heap.size,3,none⟩=some (.slice d.aq d.an d.ac)/\z.cell? ⟨w.heap.size,4,none⟩=some (.slice d.cq d.cn d.cc)/\z.cell? ⟨w.heap.size,5,none⟩=some (.string d.m)/\z.cell? ⟨w.heap.size,6,none⟩=some (.slice d.sq d.sn d.sc)/\z.heap[w.heap.size+1]?=some (.cells zw7 44 (0,0))) z.drew:=fun z h=>⟨h.1.drew,h.2⟩
 have td':=hid_of td
 have hSd:(fun z=>Below w.heap.size w z/\w.heap.size+2<=z.heap.size/\z.cell? ⟨w.heap.size,0,none⟩=some (.int .i64 d.k)/\z.cell? ⟨w.heap.size,1,none⟩=some (.int .i64 d.f)/\z.cell? ⟨w.heap.size,2,none⟩=some (.bool d.neg)/\z.cell? ⟨w.heap.size,3,none⟩=some (.slice d.aq d.an d.ac)/\z.cell? ⟨w.heap.size,4,none⟩=some (.slice d.cq d.cn d.cc)/\z.cell? ⟨w.heap.size,5,none⟩=some (.string d.m)/\z.cell? ⟨w.heap.size,6,none⟩=some (.slice d.sq d.sn d.sc)/\z.heap[w.heap.size+1]?=some (.cells zw7 44 (0,0))) w1.drew:=td _ hS1
 have tr':=hid_of tr
 have ts':=hid_of ts
 have hsd:w1.drew.heap.size=w1.heap.size:=rfl
 have hSh:=hid_of hS1
 clear tr ts td hS1
 go_cut [3] from 6 (fun v wc=>∃G q1 c1 q2 c2,v=.pointer (some ⟨G,0,none⟩)/\w.heap.size+2<=G/\G<wc.heap.size/\wc.heap[G]?=some (.cells #[.int .i64 d.k,.int .i64 d.f,.bool d.neg,.slice q1 d.an c1,.slice q2 d.cn c2,.string d.m,.slice none 0 0] 44 (0,0))/\
  SlA wc (fun b=>w.heap.size+2<=b/\b<wc.heap.size/\b≠G) (.slice q1 d.an c1) nu/\SlA wc (fun b=>w.heap.size+2<=b/\b<wc.heap.size/\b≠G) (.slice q2 d.cn c2) de/\(fun z=>Below w.heap.size w z/\w.heap.size+2<=z.heap.size/\z.cell? ⟨w.heap.size,0,none⟩=some (.int .i64 d.k)/\z.cell? ⟨w.heap.size,1,none⟩=some (.int .i64 d.f)/\z.cell? ⟨w.heap.size,2,none⟩=some (.bool d.neg)/\z.cell? ⟨w.heap.size,3,none⟩=some (.slice d.aq d.an d.ac)/\z.cell? ⟨w.heap.size,4,none⟩=some (.slice d.cq d.cn d.cc)/\z.cell? ⟨w.heap.size,5,none⟩=some (.string d.m)/\z.cell? ⟨w.heap.size,6,none⟩=some (.slice d.sq d.sn d.sc)/\z.heap[w.heap.size+1]?=some (.cells zw7 44 (0,0))) wc)
 case first=>
  go_region_held3 (fun z=>Below w.heap.size w z/\w.heap.size+2<=z.heap.size/\z.cell? ⟨w.heap.size,0,none⟩=some (.int .i64 d.k)/\z.cell? ⟨w.heap.size,1,none⟩=some (.int .i64 d.f)/\z.cell? ⟨w.heap.size,2,none⟩=some (.bool d.neg)/\z.cell? ⟨w.heap.size,3,none⟩=some (.slice d.aq d.an d.ac)/\z.cell? ⟨w.heap.size,4,none⟩=some (.slice d.cq d.cn d.cc)/\z.cell? ⟨w.heap.size,5,none⟩=some (.string d.m)/\z.cell? ⟨w.heap.size,6,none⟩=some (.slice d.sq d.sn d.sc)/\z.heap[w.heap.size+1]?=some (.cells zw7 44 (0,0))) (first | with_reducible exact hSd | with_reducible exact hS2 | with_reducible exact hS3 | with_reducible exact td'.out _ (tr'.out _ _ hSh.out (zaa _ _)) | with_reducible exact tr'.out _ _ hS2 (zaa _ _) | ((repeat with_reducible refine ts'.out _ _ _ _ (by omega) ?_);with_reducible exact hS3))
   (first
     | (go_at_call 90;with_reducible refine(hR _ ?_).mono ?_;exact hSd.1;rintro e w2 ⟨q1,c1,q2,c2,rfl,hA1,hA2,hb2⟩
        have hS2:=tr'.out _ _ hSd hb2)
     | (go_at_call 90;with_reducible refine(hR _ ?_).mono ?_;exact(td'.out _ (tr'.out _ _ hSh.out (zaa _ _))).1;rintro e w3 ⟨q1,c1,q2,c2,rfl,hA1,hA2,hb3⟩
        have hS3:=tr'.out _ _ (td'.out _ (tr'.out _ _ hSh.out (zaa _ _))) hb3
        have hblk:w3.heap[w.heap.size+2]?=some (.cells zw7 44 (0,0)):=by
         have h:=heap_alloc_last w1 (.cells zw7 44 (0,0))
         rw[hz1] at h
         exact(hb3.block _ (by show _<(w1.heap.push _).size;simp;omega)).trans h
        have y0:w3.cell? ⟨w.heap.size+2,0,none⟩=some (.int .i64 0):=by rw[cell_of_row _ _ _ _ _ _ hblk];rfl
        have y1:w3.cell? ⟨w.heap.size+2,1,none⟩=some (.int .i64 0):=by rw[cell_of_row _ _ _ _ _ _ hblk];rfl
        have y2:w3.cell? ⟨w.heap.size+2,2,none⟩=some (.bool false):=by rw[cell_of_row _ _ _ _ _ _ hblk];rfl
        have y3:w3.cell? ⟨w.heap.size+2,3,none⟩=some (.slice none 0 0):=by rw[cell_of_row _ _ _ _ _ _ hblk];rfl
        have y4:w3.cell? ⟨w.heap.size+2,4,none⟩=some (.slice none 0 0):=by rw[cell_of_row _ _ _ _ _ _ hblk];rfl
        have y5:w3.cell? ⟨w.heap.size+2,5,none⟩=some (.string ⟨#[]⟩):=by rw[cell_of_row _ _ _ _ _ _ hblk];rfl
        have y6:w3.cell? ⟨w.heap.size+2,6,none⟩=some (.slice none 0 0):=by rw[cell_of_row _ _ _ _ _ _ hblk];rfl
        have yf:∀j,w3.frozen? ⟨w.heap.size+2,j,none⟩=false:=fun j=>by unfold World.frozen?;rw[hblk];simp))
  ·go_wp2_with fail
   go_meet
   case rel=>
    have hs2:=hb2.size
    refine⟨w2.heap.size,q1,c1,q2,c2,rfl,by omega,by show _<(w2.heap.push _).size;simp,heap_alloc_last _ _,?_,?_,tr'.out _ _ hS2 (zaa _ _)⟩
    ·refine SlA.keep (A:=Fresh w1.drew w2) ((zah (zaa w2 _)).mono fun b hb=>hb.2) (fun b hb=>?_) hA1
     have h1:=hb.1
     have h2:=hb.2
     exact⟨by omega,by show _<(w2.heap.push _).size;simp;omega,by omega⟩
    ·refine SlA.keep (A:=Fresh w1.drew w2) ((zah (zaa w2 _)).mono fun b hb=>hb.2) (fun b hb=>?_) hA2
     have h1:=hb.1
     have h2:=hb.2
     exact⟨by omega,by show _<(w2.heap.push _).size;simp;omega,by omega⟩
  ·go_wp2_with fail
   go_meet
   case rel=>
    have hs3:=hb3.size
    have hsz:(w1.alloc (.cells #[.int .i64 0,.int .i64 0,.bool false,.slice none 0 0,.slice none 0 0,.string ⟨#[]⟩,.slice none 0 0] 44 (0,0))).drew.heap.size=w.heap.size+3:=by show(w1.heap.push _).size=_;simp;omega
    have hk:∀A:Nat->Prop,¬A (w.heap.size+2)->Keeps A w3 (((((((w3.setCell ⟨w.heap.size+2,0,none⟩ (.int .i64 d.k)).setCell ⟨w.heap.size+2,1,none⟩ (.int .i64 d.f)).setCell ⟨w.heap.size+2,2,none⟩ (.bool d.neg)).setCell ⟨w.heap.size+2,3,none⟩ (.slice q1 d.an c1)).setCell ⟨w.heap.size+2,4,none⟩ (.slice q2 d.cn c2)).setCell ⟨w.heap.size+2,5,none⟩ (.string d.m)).setCell ⟨w.heap.size+2,6,none⟩ (.slice none 0 0)):=fun A hA=>
     ((((((zad A _ _ _ hA).trans (zad A _ _ _ hA)).trans (zad A _ _ _ hA)).trans (zad A _ _ _ hA)).trans (zad A _ _ _ hA)).trans (zad A _ _ _ hA)).trans (zad A _ _ _ hA)
    refine⟨w.heap.size+2,q1,c1,q2,c2,rfl,by omega,by simp;omega,?_,?_,?_,?_⟩
    ·have g0:=zab hblk (j:=0) (u:=.int .i64 d.k)
     have g1:=zab g0 (j:=1) (u:=.int .i64 d.f)
     have g2:=zab g1 (j:=2) (u:=.bool d.neg)
     have g3:=zab g2 (j:=3) (u:=.slice q1 d.an c1)
     have g4:=zab g3 (j:=4) (u:=.slice q2 d.cn c2)
     have g5:=zab g4 (j:=5) (u:=.string d.m)
     have g6:=zab g5 (j:=6) (u:=.slice none 0 0)
     exact g6
    ·refine SlA.keep (A:=Fresh _ w3) (hk _ (fun hb=>?_)) (fun b hb=>?_) hA1
     ·have:=hb.1
      omega
     ·have h1:=hb.1
      have h2:=hb.2
      exact⟨by omega,by simp;omega,by omega⟩
    ·refine SlA.keep (A:=Fresh _ w3) (hk _ (fun hb=>?_)) (fun b hb=>?_) hA2
     ·have:=hb.1
      omega
     ·have h1:=hb.1
      have h2:=hb.2
      exact⟨by omega,by simp;omega,by omega⟩
    ·repeat with_reducible refine ts'.out _ _ _ _ (by omega) ?_
     exact hS3
 case rest=>
  obtain⟨G,q1,c1,q2,c2,rfl,hG1,hG2,hG3,hA1,hA2,hSc⟩:=hcut
  obtain⟨b0,b1,_,_,_,_,_,_,b8,b9⟩:=hSc
  clear tr' ts' td' hSd hSh hR hsd hz1
  obtain⟨dd,hu,hd⟩:=nd_row
  have hHu:Hid (Tryz.prog.underlying 44=some dd):=hu
  clear hu
  have hN0:wc.heap.size<=wc.heap.size:=Nat.le_refl _
  obtain⟨i0,hi,hz0,hz1,hz2⟩:=info_parts (show(Tryz.prog.info? 44).map (fun i=>(i.zero,i.size,i.bytes))=some (some (.agg zw7),7,112) by kernel_rfl)
  go_wp2_with fail
  go_loopw [19] (fun i wr=>∃k:Nat,k<=d.sn/\i=.int .i64 k/\∃(v:Value) (L:List Nd),L.length=k/\wr.heap[G]?=some (.cells #[.int .i64 d.k,.int .i64 d.f,.bool d.neg,.slice q1 d.an c1,.slice q2 d.cn c2,.string d.m,v] 44 (0,0))/\
   wr.ownsRow (w.heap.size+2) 44 7 v k (L.flatMap Nd.cells)/\v.ownBlock≠some G/\(∀i x,L[i]?=some x->ExA wr (Free (w.heap.size+2) wr G v) (ar i) x)/\SlA wr (Free (w.heap.size+2) wr G v) (.slice q1 d.an c1) nu/\SlA wr (Free (w.heap.size+2) wr G v) (.slice q2 d.cn c2) de/\
   Below w.heap.size w wr/\G<wr.heap.size/\wr.heap[w.heap.size+1]?=some (.cells zw7 44 (0,0))) (fun i _=>d.sn - (intOf i).toNat)
  case atStart=>
   refine⟨0,Nat.zero_le _,rfl,.slice none 0 0,[],rfl,hG3,World.ownsRow_nil _ _ _ _,by simp[Value.ownBlock],fun i x h=>by simp at h,hA1.keep (Keeps.refl _ _) (fun b hb=>⟨hb.1,hb.2.1,hb.2.2,by simp[Value.ownBlock]⟩),hA2.keep (Keeps.refl _ _) (fun b hb=>⟨hb.1,hb.2.1,hb.2.2,by simp[Value.ownBlock]⟩),b0,hG2,b9⟩
  case round=>
   clear hA1 hA2 hG3 b0 b1 b8 b9 hG2
   obtain⟨k,hk,rfl,v,L,hLk,hblk,hown,hne,hLx,hA1,hA2,hbw,hGr,hres⟩:=hrel
   by_cases hlt:k<d.sn
   ·have hlt':(k:Int)<(d.sn:Int):=by omega
    have hKk:=hK k hlt
    rcases hk'.out with h0 | ⟨b,o,hq,hbb,hcx⟩
    ·omega
    have hx:=rangeAt_below (hcx k hlt) hbw hbb
    have lx:(ds k).cells.length=7:=rfl
    have ox:(ds k).cells.toArray.all (·.oneCell')=true:=by
     refine all_oneCell_toArray ?_
     intro u hu
     simp only[Nd.cells,List.mem_cons,List.not_mem_nil,or_false] at hu
     rcases hu with rfl | rfl | rfl | rfl | rfl | rfl | rfl<;>rfl
    have ox':Hid ((ds k).cells.toArray.all (·.oneCell')=true):=ox
    clear ox hcx
    generalize (ds k).cells=cx at*
    rw[hq]
    have hws:=hbw.size
    go_wp2_with (first
     | (with_reducible refine wpList_load_mid ?_ 44 (.tmp 21) ?_ b (o+k*7) ?_ cx dd hx hHu.out hd ?_ ?_
        rotate_left 1
        ·with_reducible rfl
        ·rfl
        ·(rw[lx];exact zat)
        rotate_left 1
        ·rfl)
     | (with_reducible refine wpList_store_new ?_ 44 (.tmp 5) (.tmp 22) ?_ cx.toArray wr.heap.size rfl ?_ ?_ ?_ ?_ ox'.out ?_
        rotate_left 1
        ·with_reducible rfl
        ·rfl
        ·rfl
        ·simp[lx]
        ·(simp only[List.size_toArray,lx];exact zat)
        rotate_left 1
        ·rfl))
    simp only[Act.put]
    have hT:(wr.alloc (.cells cx.toArray 44)).rangeAt wr.heap.size 0 cx:=range_new _ _ _
    have hz:Below wr.heap.size wr (wr.alloc (.cells cx.toArray 44)).drew:=(zaa _ _).drew
    have hzs:(wr.alloc (.cells cx.toArray 44)).drew.heap.size=wr.heap.size+1:=by show(wr.heap.push _).size=_;simp
    have hbz:Below w.heap.size w (wr.alloc (.cells cx.toArray 44)).drew:=hbw.trans (hz.mono hbw.size)
    have c6:(wr.alloc (.cells cx.toArray 44)).cell? ⟨G,6,none⟩=some v:=by rw[World.cell?_alloc_lt _ _ _ (by exact hGr),cell_of_row _ _ _ _ _ _ hblk];rfl
    have hrl:=hown.lt
    refine wp_region_held_drew (S:=fun z=>z.rangeAt wr.heap.size 0 cx) (by kernel_rfl) hT (fun hHeld=>?_)
    refine wpAnyH_take (i:=0) (v:=.pointer (some ⟨G,6,none⟩)) rfl (by kernel_rfl) (by kernel_rfl) (by kernel_rfl) (fun _ _ _ h=>h) (.inl ⟨by rfl,fun z hSz=>by go_simp⟩) hHeld ?_
    simp only[Act.put]
    refine wpAnyH_take (i:=2) (oi:=?op2) (v:=.agg cx.toArray) ?ta2 ?tb2 ?tc2 ?td2 ?tq2 ?ty2 hHeld ?_
    case ta2=>rfl
    case tb2=>kernel_rfl
    case tc2=>kernel_rfl
    case td2=>kernel_rfl
    case tq2=>exact fun _ _ _ h=>h
    case ty2=>
     refine yieldsIf_load_mid ?tw2 44 (.tmp 5) ?to2 wr.heap.size 0 ?tx2 cx dd (fun z hz=>hz) hHu.out hd (by rw[lx];exact zat)
     case tw2=>kernel_rfl
     case to2=>rfl
     case tx2=>kernel_rfl
    simp only[Act.put]
    refine wpAnyH_ready (rs:=[1,3]) (by kernel_rfl) (by simp) ?_
    refine AllReadyH.cons rfl (fun K hKK=>?w21) (AllReadyH.cons rfl (fun K hKK=>?w22) AllReadyH.nil)
    case' w21=>
     go_simp
     refine hKK.out _ _ hHeld (fun _=>?_)
     clear hKK K
     refine wpAnyH_ready (rs:=[3]) (by kernel_rfl) (by simp) ?_
     refine AllReadyH.cons rfl (fun K hKK=>?_) AllReadyH.nil
     go_simp
     refine(hKk _ hbz).mono ?_
     rintro e w5 ⟨d',rfl,hA5,hb5⟩
     have hs5:=hb5.size
     have hT5:w5.rangeAt wr.heap.size 0 cx:=rangeAt_below (w:=(wr.alloc (.cells cx.toArray 44)).drew) hT hb5 (by omega)
     have c65:w5.cell? ⟨G,6,none⟩=some v:=(hb5.cell (by show G<_;omega)).trans c6
     have hown5:w5.ownsRow (w.heap.size+2) 44 7 v k (L.flatMap Nd.cells):=((hown.alloc _).drew).kept (row:=none) ⟨hb5.os,hb5.tape,hb5.output,hb5.size,fun b hb _=>hb5.block b hb⟩ (by cases hv:v.ownBlock with | none=>exact .inl rfl | some _=>exact .inr (by simp))
     refine hKK.out _ _ hT5 (fun _=>?_)
     clear hKK K
     refine wpAnyH_ready (rs:=[4]) (by kernel_rfl) (by simp) ?_
     refine AllReadyH.cons rfl (fun K hKK=>?_) AllReadyH.nil
     go_simp
     have hT6:(w5.alloc (.cells d'.cells.toArray 44)).rangeAt wr.heap.size 0 cx:=World.rangeAt_alloc hT5 _
     have c66:(w5.alloc (.cells d'.cells.toArray 44)).cell? ⟨G,6,none⟩=some v:=by rw[World.cell?_alloc_lt _ _ _ (by show G<_;omega)];exact c65
     have c66w:(w5.alloc (.cells #[.int .i64 d'.k,.int .i64 d'.f,.bool d'.neg,.slice d'.aq d'.an d'.ac,.slice d'.cq d'.cn d'.cc,.string d'.m,.slice d'.sq d'.sn d'.sc] 44)).cell? ⟨G,6,none⟩=some v:=c66
    case' w22=>
     go_simp
     refine(hKk _ hbz).mono ?_
     rintro e w5 ⟨d',rfl,hA5,hb5⟩
     have hs5:=hb5.size
     have hT5:w5.rangeAt wr.heap.size 0 cx:=rangeAt_below (w:=(wr.alloc (.cells cx.toArray 44)).drew) hT hb5 (by omega)
     have c65:w5.cell? ⟨G,6,none⟩=some v:=(hb5.cell (by show G<_;omega)).trans c6
     have hown5:w5.ownsRow (w.heap.size+2) 44 7 v k (L.flatMap Nd.cells):=((hown.alloc _).drew).kept (row:=none) ⟨hb5.os,hb5.tape,hb5.output,hb5.size,fun b hb _=>hb5.block b hb⟩ (by cases hv:v.ownBlock with | none=>exact .inl rfl | some _=>exact .inr (by simp))
     refine hKK.out _ _ hT5 (fun _=>?_)
     clear hKK K
     refine wpAnyH_ready (rs:=[1,4]) (by kernel_rfl) (by simp) ?_
     refine AllReadyH.cons rfl (fun K hKK=>?w23) (AllReadyH.cons rfl (fun K hKK=>?w24) AllReadyH.nil)
     case' w23=>
      go_simp
      refine hKK.out _ _ hT5 (fun _=>?_)
      clear hKK K
      refine wpAnyH_ready (rs:=[4]) (by kernel_rfl) (by simp) ?_
      refine AllReadyH.cons rfl (fun K hKK=>?_) AllReadyH.nil
      go_simp
      have hT6:(w5.alloc (.cells d'.cells.toArray 44)).rangeAt wr.heap.size 0 cx:=World.rangeAt_alloc hT5 _
      have c66:(w5.alloc (.cells d'.cells.toArray 44)).cell? ⟨G,6,none⟩=some v:=by rw[World.cell?_alloc_lt _ _ _ (by show G<_;omega)];exact c65
      have c66w:(w5.alloc (.cells #[.int .i64 d'.k,.int .i64 d'.f,.bool d'.neg,.slice d'.aq d'.an d'.ac,.slice d'.cq d'.cn d'.cc,.string d'.m,.slice d'.sq d'.sn d'.sc] 44)).cell? ⟨G,6,none⟩=some v:=c66
     case' w24=>
      go_simp
      have hT6:(w5.alloc (.cells d'.cells.toArray 44)).rangeAt wr.heap.size 0 cx:=World.rangeAt_alloc hT5 _
      have c66:(w5.alloc (.cells d'.cells.toArray 44)).cell? ⟨G,6,none⟩=some v:=by rw[World.cell?_alloc_lt _ _ _ (by show G<_;omega)];exact c65
      have c66w:(w5.alloc (.cells #[.int .i64 d'.k,.int .i64 d'.f,.bool d'.neg,.slice d'.aq d'.an d'.ac,.slice d'.cq d'.cn d'.cc,.string d'.m,.slice d'.sq d'.sn d'.sc] 44)).cell? ⟨G,6,none⟩=some v:=c66
      refine hKK.out _ _ hT6 (fun _=>?_)
      clear hKK K
      refine wpAnyH_ready (rs:=[1]) (by kernel_rfl) (by simp) ?_
      refine AllReadyH.cons rfl (fun K hKK=>?_) AllReadyH.nil
      go_simp
    all_goals
     refine hKK.out _ _ hT6 (fun _=>?_)
     clear hKK K
     refine wpAnyH_ready (rs:=[5]) (by kernel_rfl) (by simp) ?_
     refine AllReadyH.cons rfl (fun K hKK=>?_) AllReadyH.nil
     refine step_append_lies _ rfl _ _ 42 rfl (w.heap.size+2) 44 i0 (.agg zw7) 7 112 Tryz.underlying42 hi hz0 hz1 hz2 rfl (by decide) v k (L.flatMap Nd.cells) rfl (hown5.alloc _) ⟨w5.heap.size,0,none⟩ 1 1 d'.cells rfl rfl (World.news_of_block (heap_alloc_last w5 (.cells d'.cells.toArray 44))) (zec d') (by decide) (by unfold maxLen;omega) (by omega) (by simp;omega) _ rfl ?_
     intro g cap w7 hown7 hgrow7 hat7 hlt7
     have hTne:some wr.heap.size≠v.ownBlock:=fun e=>by have:=(hrl _ e.symm).2;omega
     have hT7:w7.rangeAt wr.heap.size 0 cx:=fun j u hu=>hgrow7.cell (hT6 j u hu) hTne
     have c67:w7.cell? ⟨G,6,none⟩=some v:=hgrow7.cell c66 (fun e=>hne e.symm)
     obtain⟨m1,m2,m3,m4,m5,m6,m7,m8⟩:=zau (j:=6) (u:=.slice (some ⟨g,0,none⟩) (k+1) cap) hGr (by omega:w.heap.size+2<=wr.heap.size) hz hb5 hgrow7 hat7 hlt7 hrl hne rfl
     have f67:∀j,w7.frozen? ⟨G,j,none⟩=false:=fun j=>frozen_of_row _ _ _ _ _ (m5 _ _ _ hblk)
     refine hKK.out _ _ hT7 (fun hHeld7=>?_)
     clear hKK K
     refine wpAnyH_take (i:=6) (v:=.pointer (some ⟨G,6,none⟩)) rfl (by kernel_rfl) (by kernel_rfl) (by kernel_rfl) (fun _ _ _ h=>h) (.inl ⟨by rfl,fun z hSz=>by go_simp⟩) hHeld7 ?_
     simp only[Act.put]
     refine wpAnyH_ready (rs:=[7]) (by kernel_rfl) (by simp) ?_
     refine AllReadyH.cons rfl (fun K hKK=>?_) AllReadyH.nil
     go_simp
     refine hKK.out _ _ (fun j u hu=>(World.cell?_setCell_far _ _ _ _ (by show G≠wr.heap.size;omega)).trans (hT7 j u hu)) (fun _=>?_)
     clear hKK K
     refine wpAnyH_done (by kernel_rfl) ?_ _
     go_wp2_with fail
     go_roundw
     case rel=>
      refine⟨k+1,by omega,by go_num,.slice (some ⟨g,0,none⟩) (k+1) cap,L++[d'],by simp[hLk],zab (m5 _ _ _ hblk),?_,m6,?_,hA1.keep m1 m2,hA2.keep m1 m2,?_,by omega,?_⟩
      ·rw[List.flatMap_append,List.flatMap_singleton]
       exact zak hown7 m6
      ·intro i x hi
       by_cases hik:i<k
       ·rw[List.getElem?_append_left (by omega)] at hi
        exact(hLx i x hi).keep m1 m2
       ·rw[List.getElem?_append_right (by omega)] at hi
        have hi0:i - L.length=0:=by
         rcases Nat.eq_zero_or_pos (i - L.length) with h | h
         ·exact h
         ·rw[List.getElem?_eq_none (by simp;omega)] at hi
          cases hi
        rw[hi0] at hi
        simp only[List.getElem?_cons_zero,Option.some.injEq] at hi
        subst hi
        have:i=k:=by omega
        subst this
        exact hA5.keep m3 m4
      ·refine Below.setCell ?_ (by show w.heap.size<=G;omega) _
       exact((hbz.trans (hb5.mono hbz.size)).alloc (by omega) _).grown hgrow7 (by simp;omega) (fun b hb=>by have:=(hrl b hb).1;omega)
      ·rw[m8 (w.heap.size+1) (by omega) (by omega) (fun e=>by have:=(hrl _ e).1;omega)]
       exact hres
     case measure=>simp[intOf];omega
   ·have hk2:d.sn=k:=by omega
    have hr3:wr.rangeAt G 0 [.int .i64 d.k,.int .i64 d.f,.bool d.neg,.slice q1 d.an c1,.slice q2 d.cn c2,.string d.m,v]:=by
     have h:=World.rangeAt_of_block hblk 0 7
     simpa using h
    have hr2:wr.there (w.heap.size+1) 0 7:=fun j hj=>⟨by rw[cell_of_row _ _ _ _ _ _ hres];match j,hj with | 0,_=>rfl | 1,_=>rfl | 2,_=>rfl | 3,_=>rfl | 4,_=>rfl | 5,_=>rfl | 6,_=>rfl,frozen_of_row _ _ _ _ _ hres⟩
    have hws:=hbw.size
    have hvf:∃q c,v=.slice q k c:=by
     rcases hown.2 with⟨h,h0⟩ | ⟨g,cp,cur,h,_⟩
     ·exact⟨none,0,by rw[h,h0]⟩
     ·exact⟨_,_,h⟩
    obtain⟨q3,c3,rfl⟩:=hvf
    have hr2':Hid (wr.there (w.heap.size+1) 0 7):=hr2
    have hr3':Hid (wr.rangeAt G 0 [.int .i64 d.k,.int .i64 d.f,.bool d.neg,.slice q1 d.an c1,.slice q2 d.cn c2,.string d.m,.slice q3 k c3]):=hr3
    clear hr2 hr3
    go_wp2_with (first
     | (with_reducible refine wpList_load_mid ?_ 44 (.tmp 3) ?_ G 0 ?_ [.int .i64 d.k,.int .i64 d.f,.bool d.neg,.slice q1 d.an c1,.slice q2 d.cn c2,.string d.m,.slice q3 k c3] dd hr3'.out hHu.out hd ?_ ?_
        rotate_left 1
        ·with_reducible rfl
        ·rfl
        ·exact zat
        rotate_left 1
        ·rfl)
     | (with_reducible refine wpList_store_mid ?_ 44 (.tmp 2) (.tmp 31) ?_ (w.heap.size+1) 0 #[.int .i64 d.k,.int .i64 d.f,.bool d.neg,.slice q1 d.an c1,.slice q2 d.cn c2,.string d.m,.slice q3 k c3] ?_ ?_ ?_ ?_ ?_ ?_
        rotate_left 1
        ·with_reducible rfl
        ·rfl
        ·rfl
        ·exact hr2'.out
        ·exact zat
        ·exact all_oneCell_toArray (zec ⟨d.k,d.f,d.neg,q1,d.an,c1,q2,d.cn,c2,d.m,q3,k,c3⟩)
        rotate_left 1
        ·rfl))
    obtain⟨hW8,hs8,hb8⟩:=zae w.heap.size (w.heap.size+1) (by omega) [.int .i64 d.k,.int .i64 d.f,.bool d.neg,.slice q1 d.an c1,.slice q2 d.cn c2,.string d.m,.slice q3 k c3] 0 w wr hbw
    have hr8:=World.rangeAt_setCells_same wr (w.heap.size+1) 0 [.int .i64 d.k,.int .i64 d.f,.bool d.neg,.slice q1 d.an c1,.slice q2 d.cn c2,.string d.m,.slice q3 k c3] hr2'.out
    change bodyPost _ _ _ _ _ (wr.setCells (w.heap.size+1) 0 [.int .i64 d.k,.int .i64 d.f,.bool d.neg,.slice q1 d.an c1,.slice q2 d.cn c2,.string d.m,.slice q3 k c3])
    generalize wr.setCells (w.heap.size+1) 0 [.int .i64 d.k,.int .i64 d.f,.bool d.neg,.slice q1 d.an c1,.slice q2 d.cn c2,.string d.m,.slice q3 k c3]=w8 at*
    have hk8:Keeps (Free (w.heap.size+2) wr G (.slice q3 k c3)) wr w8:=fun b hb=>hb8 b (by have:=hb.1;omega)
    have ha8:∀b,Free (w.heap.size+2) wr G (.slice q3 k c3) b->Fresh w w8 b:=fun b hb=>⟨by have:=hb.1;omega,by have:=hb.2.1;omega⟩
    refine bodyPost_ret (zac rfl _ _ (w.heap.size+1) _ dd rfl hr8 hHu.out hd zat) rfl ?_
    refine⟨q1,c1,q2,c2,q3,c3,by rw[hk2],hA1.keep hk8 ha8,hA2.keep hk8 ha8,?_,hW8⟩
    by_cases h0:k=0
    ·exact .inl (by omega)
    ·refine .inr ?_
     obtain⟨g,cp,hg,hge,hgl⟩:=hown.form (by omega)
     simp only[Value.slice.injEq] at hg
     obtain⟨rfl,_,rfl⟩:=hg
     refine⟨g,rfl,⟨by omega,by omega⟩,fun i=>L.getD i default,fun i hi=>?_⟩
     have hiL:i<L.length:=by omega
     have hgi:L[i]?=some (L.getD i default):=by simp[List.getD,hiL]
     refine⟨fun j u hu=>?_,(hLx i _ hgi).keep hk8 ha8⟩
     have hc:=zam (s:=7) (f:=Nd.cells) (fun _=>rfl) hown hgi j u hu
     rw[<-hc]
     exact World.cell?_of_block (hb8 g (by omega))
theorem zca:∀(x:Ex) (d:Nd) (w:World),ExOk w x d->ExSmall x->Calls Tryz.prog 89 #[d.val] w fun e w'=>∃d':Nd,e=.returned (.agg #[.int .i64 d'.k,.int .i64 d'.f,.bool d'.neg,.slice d'.aq d'.an d'.ac,.slice d'.cq d'.cn d'.cc,.string d'.m,.slice d'.sq d'.sn d'.sc])/\ExA w' (Fresh w w') x d'/\Below w.heap.size w w':=by
 intro x
 induction x with
 | non=>exact fun d w h=>h.elim
 | mk k f ng nu de m n ar ih=>
  intro d w h hsm
  unfold ExOk at h
  unfold ExSmall at hsm
  obtain⟨⟨rfl,rfl,rfl,rfl,rfl⟩,h2,h3,h4,h5,h6,h7⟩:=h
  obtain⟨ds,hd1,hd2⟩:∃ds:Nat->Nd,(d.sn=0\/∃b o,d.sq=some ⟨b,o,none⟩/\b<w.heap.size/\∀i,i<d.sn->w.rangeAt b (o+i*7) (ds i).cells)/\∀i,i<d.sn->ExOk w (ar i) (ds i):=by
   rcases h7 with h0 | ⟨b,o,hq,hb,ds,hds⟩
   ·exact⟨fun _=>default,.inl h0,fun i hi=>by omega⟩
   ·exact⟨ds,.inr ⟨b,o,hq,hb,fun i hi=>zbm (hds i hi).1⟩,fun i hi=>(hds i hi).2⟩
  refine(zcw ds ar hsm.1 (fun z hz=>zbs (h2.below hz) (h3.below hz)) hd1 (fun i hi z hz=>ih i (ds i) z ((hd2 i hi).below hz) (hsm.2 i hi))).mono ?_
  rintro e w' ⟨q1,c1,q2,c2,q3,c3,rfl,a1,a2,a3,hb⟩
  refine⟨⟨d.k,d.f,d.neg,q1,d.an,c1,q2,d.cn,c2,d.m,q3,d.sn,c3⟩,rfl,⟨⟨rfl,rfl,rfl,rfl,rfl⟩,a1,a2,h4,h5,h6,a3.imp id ?_⟩,hb⟩
  rintro⟨b,hq,hf,es,hes⟩
  exact⟨b,0,hq,hf,es,fun i hi=>⟨zbl (hes i hi).1,(hes i hi).2⟩⟩
end Go.Proofs.YtfhjhnofkaiceaaGreatDoor
