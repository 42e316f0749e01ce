import Derived.Test.YtfhjhnofkaiceaaGreatDoorXdB
import Derived.Deep.RegionHeld3
import Derived.Deep.CutRange
namespace Go.Proofs.YtfhjhnofkaiceaaGreatDoor
open Go Go.RowKit
def sideC (p:Si × Sv):List Value:=p.1.cells p.2
def condC (p:Co × Nd):List Value:=p.1.cells p.2
theorem side_row:∃d,Tryz.prog.underlying 94=some d/\d.isRow=true:=⟨_,Tryz.underlying94,rfl⟩
theorem cond_row:∃d,Tryz.prog.underlying 127=some d/\d.isRow=true:=⟨_,Tryz.underlying127,rfl⟩
theorem cl_row:∃d,Tryz.prog.underlying 48=some d/\d.isRow=true:=⟨_,Tryz.underlying48,rfl⟩
theorem zdc:(Tryz.prog.info? 94).map (·.size)=some 9:=by kernel_rfl
theorem zdd:(Tryz.prog.info? 127).map (·.size)=some 8:=by kernel_rfl
theorem zcp:(Tryz.prog.info? 48).map (·.size)=some 10:=by kernel_rfl
def Fr (lo:Nat) (w:World) (g:Option Nat) (b:Nat):Prop:=lo<=b/\b<w.heap.size/\g≠some b
theorem zbd {z y:World} {lo:Nat} {g:Option Nat} {v:Value} {xs:List Int} (h:SlA y (Fresh z y) v xs) (hlo:lo<=z.heap.size) (hg:∀b,g=some b->b<z.heap.size):SlA y (Fr lo y g) v xs:=
 h.keep (Keeps.refl _ _) (fun b hb=>⟨Nat.le_trans hlo hb.1,hb.2,fun e=>by have:=hg b e;have:=hb.1;omega⟩)
theorem zbr {z y:World} {lo:Nat} {g:Option Nat} {v:Value} {xs:List Int} (h:SlA z (Fr lo z g) v xs) (hb:Below z.heap.size z y):SlA y (Fr lo y g) v xs:=
 h.keep ((zah hb).mono fun _b hb=>hb.2.1) (fun _b hb'=>⟨hb'.1,Nat.lt_of_lt_of_le hb'.2.1 hb.size,hb'.2.2⟩)
theorem zbb {z:World} {lo:Nat} {o:Obj} {v:Value} {xs:List Int} (h:SlA z (Fr lo z none) v xs):SlA (z.alloc o) (Fr lo (z.alloc o) (some z.heap.size)) v xs:=
 h.keep ((zah (zaa z o)).mono fun b hb=>hb.2.1) (fun b hb'=>⟨hb'.1,by have:=hb'.2.1;simp;omega,fun e=>by have:=hb'.2.1;have:=Option.some.inj e;omega⟩)
theorem za1 {z:World} {lo g:Nat} {vs:List Value} {v:Value} {xs:List Int} (hg:lo<=g) (_hz:lo<=z.heap.size) (h:SlA z (Fr lo z (some g)) v xs):SlA (z.setCells g 0 vs) (fun b=>lo<=b/\b<(z.setCells g 0 vs).heap.size) v xs:=by
 obtain⟨_,s,k⟩:=zae lo g hg vs 0 z z (Below.refl _ _)
 exact h.keep (fun b hb=>k b (fun e=>hb.2.2 (by rw[e]))) (fun b hb'=>⟨hb'.1,by rw[s];exact hb'.2.1⟩)
theorem set8 {w:World} {N:Nat} {t:TypeId} {y0 y1 y2 y3 y4 y5 y6 y7:Value} (h:BlkI w N t #[y0,y1,y2,y3,y4,y5,y6,y7]) (v0 v1 v2 v3 v4 v5 v6 v7:Value):BlkI (w.setCells N 0 [v0,v1,v2,v3,v4,v5,v6,v7]) N t #[v0,v1,v2,v3,v4,v5,v6,v7]:=by
 have a0:BlkI _ N t #[v0,y1,y2,y3,y4,y5,y6,y7]:=h.set 0 v0
 have a1:BlkI _ N t #[v0,v1,y2,y3,y4,y5,y6,y7]:=a0.set 1 v1
 have a2:BlkI _ N t #[v0,v1,v2,y3,y4,y5,y6,y7]:=a1.set 2 v2
 have a3:BlkI _ N t #[v0,v1,v2,v3,y4,y5,y6,y7]:=a2.set 3 v3
 have a4:BlkI _ N t #[v0,v1,v2,v3,v4,y5,y6,y7]:=a3.set 4 v4
 have a5:BlkI _ N t #[v0,v1,v2,v3,v4,v5,y6,y7]:=a4.set 5 v5
 have a6:BlkI _ N t #[v0,v1,v2,v3,v4,v5,v6,y7]:=a5.set 6 v6
 exact a6.set 7 v7
theorem zfs {z:World} {p:Nat} (h:BlkI z p 92 zw8):z.there p 0 8:=by
 intro j hj
 have c:=h.cell j
 have f:=h.fr j
 refine⟨?_,by simpa using f⟩
 rw[Nat.zero_add,c]
 match j,hj with
 | 0,_=>rfl
 | 1,_=>rfl
 | 2,_=>rfl
 | 3,_=>rfl
 | 4,_=>rfl
 | 5,_=>rfl
 | 6,_=>rfl
 | 7,_=>rfl
set_option maxRecDepth 100000 in
set_option maxHeartbeats 8000000 in
theorem zcq {w:World} {d:Nd} {st:Bool} {nb nc bc cc:Nat} {bq cq:Option Addr} {goal:Ex} (bs:Nat->Si) (xs:Nat->Sv) (cs:Nat->Co) (ys:Nat->Nd) (hnb:nb<=1048576) (hnc:nc<=1048576)
  (hE:∀z,Below w.heap.size w z->Calls Tryz.prog 89 #[.agg #[.int .i64 d.k,.int .i64 d.f,.bool d.neg,.slice d.aq d.an d.ac,.slice d.cq d.cn d.cc,.string d.m,.slice d.sq d.sn d.sc]] z fun e w'=>∃e':Nd,e=.returned (.agg #[.int .i64 e'.k,.int .i64 e'.f,.bool e'.neg,.slice e'.aq e'.an e'.ac,.slice e'.cq e'.cn e'.cc,.string e'.m,.slice e'.sq e'.sn e'.sc])/\ExA w' (Fresh z w') goal e'/\Below z.heap.size z w')
  (hp0:nb=0\/∃b o,bq=some ⟨b,o,none⟩/\b<w.heap.size/\∀i,i<nb->w.rangeAt b (o+i*9) ((bs i).cells (xs i)))
  (hSm:∀i,i<nb->(bs i).nu1.length<=1048576/\(bs i).de1.length<=1048576/\(bs i).nu2.length<=1048576/\(bs i).de2.length<=1048576)
  (hL:∀i,i<nb->∀z,Below w.heap.size w z->Calls Tryz.prog 90 #[.agg #[.bool (bs i).g1,.slice (xs i).q1 (xs i).l1 (xs i).c1,.slice (xs i).p1 (xs i).m1 (xs i).e1]] z fun e w'=>∃r1 s1 r2 s2,e=.returned (.agg #[.bool (bs i).g1,.slice r1 (xs i).l1 s1,.slice r2 (xs i).m1 s2])/\SlA w' (Fresh z w') (.slice r1 (xs i).l1 s1) (bs i).nu1/\SlA w' (Fresh z w') (.slice r2 (xs i).m1 s2) (bs i).de1/\Below z.heap.size z w')
  (hR:∀i,i<nb->∀z,Below w.heap.size w z->Calls Tryz.prog 90 #[.agg #[.bool (bs i).g2,.slice (xs i).q2 (xs i).l2 (xs i).c2,.slice (xs i).p2 (xs i).m2 (xs i).e2]] z fun e w'=>∃r1 s1 r2 s2,e=.returned (.agg #[.bool (bs i).g2,.slice r1 (xs i).l2 s1,.slice r2 (xs i).m2 s2])/\SlA w' (Fresh z w') (.slice r1 (xs i).l2 s1) (bs i).nu2/\SlA w' (Fresh z w') (.slice r2 (xs i).m2 s2) (bs i).de2/\Below z.heap.size z w')
  (hb0:nc=0\/∃b o,cq=some ⟨b,o,none⟩/\b<w.heap.size/\∀i,i<nc->w.rangeAt b (o+i*8) ((cs i).cells (ys i)))
  (hK:∀i,i<nc->∀z,Below w.heap.size w z->Calls Tryz.prog 89 #[.agg #[.int .i64 (ys i).k,.int .i64 (ys i).f,.bool (ys i).neg,.slice (ys i).aq (ys i).an (ys i).ac,.slice (ys i).cq (ys i).cn (ys i).cc,.string (ys i).m,.slice (ys i).sq (ys i).sn (ys i).sc]] z fun e w'=>∃f':Nd,e=.returned (.agg #[.int .i64 f'.k,.int .i64 f'.f,.bool f'.neg,.slice f'.aq f'.an f'.ac,.slice f'.cq f'.cn f'.cc,.string f'.m,.slice f'.sq f'.sn f'.sc])/\ExA w' (Fresh z w') (cs i).x f'/\Below z.heap.size z w'):
  Calls Tryz.prog 69 #[.agg #[.int .i64 d.k,.int .i64 d.f,.bool d.neg,.slice d.aq d.an d.ac,.slice d.cq d.cn d.cc,.string d.m,.slice d.sq d.sn d.sc,.bool st,.slice bq nb bc,.slice cq nc cc]] w fun e w'=>∃(e':Nd) (q3:Option Addr) (c3:Nat) (q4:Option Addr) (c4:Nat),e=.returned (.agg #[.int .i64 e'.k,.int .i64 e'.f,.bool e'.neg,.slice e'.aq e'.an e'.ac,.slice e'.cq e'.cn e'.cc,.string e'.m,.slice e'.sq e'.sn e'.sc,.bool st,.slice q3 nb c3,.slice q4 nc c4])/\ExA w' (Fresh w w') goal e'/\SisA w' (Fresh w w') q3 nb bs/\CosA w' (Fresh w w') q4 nc cs/\Below w.heap.size w w':=by
 have hp:=hid_of hp0
 have hb:=hid_of hb0
 clear hp0 hb0
 obtain⟨dd,hu,hd⟩:=cl_row
 have hHu:=hid_of hu
 clear hu
 go_enter Tryz.func69,Tryz.ntmps69
 go_wp2_with fail
 generalize hw1:(w.alloc _).alloc _=w1 at*
 have hS1:(fun z=>Below w.heap.size w z/\w.heap.size+2<=z.heap.size/\z.cell? ⟨w.heap.size,0,none⟩=some (.int .i64 d.k)/\z.cell? ⟨w.heap.size,1,none⟩=some (.int .i64 d.f)/\z.cell? ⟨w.heap.size,2,none⟩=some (.bool d.neg)/\z.cell? ⟨w.heap.size,3,none⟩=some (.slice d.aq d.an d.ac)/\z.cell? ⟨w.heap.size,4,none⟩=some (.slice d.cq d.cn d.cc)/\z.cell? ⟨w.heap.size,5,none⟩=some (.string d.m)/\z.cell? ⟨w.heap.size,6,none⟩=some (.slice d.sq d.sn d.sc)/\z.cell? ⟨w.heap.size,7,none⟩=some (.bool st)/\z.cell? ⟨w.heap.size,8,none⟩=some (.slice bq nb bc)/\z.cell? ⟨w.heap.size,9,none⟩=some (.slice cq nc cc)/\z.heap[w.heap.size+1]?=some (.cells zw10 48 (0,0))) w1:=by
  rw[<-hw1]
  exact⟨below_two _ _ _,by simp,by simp,by simp,by simp,by simp,by simp,by simp,by simp,by simp,by simp,by simp,by have h:=heap_alloc_last (w.alloc (.cells #[.int .i64 d.k,.int .i64 d.f,.bool d.neg,.slice d.aq d.an d.ac,.slice d.cq d.cn d.cc,.string d.m,.slice d.sq d.sn d.sc,.bool st,.slice bq nb bc,.slice cq nc cc] 48)) (.cells zw10 48 (0,0));rw[show (w.alloc (.cells #[.int .i64 d.k,.int .i64 d.f,.bool d.neg,.slice d.aq d.an d.ac,.slice d.cq d.cn d.cc,.string d.m,.slice d.sq d.sn d.sc,.bool st,.slice bq nb bc,.slice cq nc cc] 48)).heap.size=w.heap.size+1 by simp] at h;exact h⟩
 have hz1:w1.heap.size=w.heap.size+2:=by rw[<-hw1];simp
 clear hw1
 have tr:∀z z',(fun z=>Below w.heap.size w z/\w.heap.size+2<=z.heap.size/\z.cell? ⟨w.heap.size,0,none⟩=some (.int .i64 d.k)/\z.cell? ⟨w.heap.size,1,none⟩=some (.int .i64 d.f)/\z.cell? ⟨w.heap.size,2,none⟩=some (.bool d.neg)/\z.cell? ⟨w.heap.size,3,none⟩=some (.slice d.aq d.an d.ac)/\z.cell? ⟨w.heap.size,4,none⟩=some (.slice d.cq d.cn d.cc)/\z.cell? ⟨w.heap.size,5,none⟩=some (.string d.m)/\z.cell? ⟨w.heap.size,6,none⟩=some (.slice d.sq d.sn d.sc)/\z.cell? ⟨w.heap.size,7,none⟩=some (.bool st)/\z.cell? ⟨w.heap.size,8,none⟩=some (.slice bq nb bc)/\z.cell? ⟨w.heap.size,9,none⟩=some (.slice cq nc cc)/\z.heap[w.heap.size+1]?=some (.cells zw10 48 (0,0))) z->Below z.heap.size z z'->(fun z=>Below w.heap.size w z/\w.heap.size+2<=z.heap.size/\z.cell? ⟨w.heap.size,0,none⟩=some (.int .i64 d.k)/\z.cell? ⟨w.heap.size,1,none⟩=some (.int .i64 d.f)/\z.cell? ⟨w.heap.size,2,none⟩=some (.bool d.neg)/\z.cell? ⟨w.heap.size,3,none⟩=some (.slice d.aq d.an d.ac)/\z.cell? ⟨w.heap.size,4,none⟩=some (.slice d.cq d.cn d.cc)/\z.cell? ⟨w.heap.size,5,none⟩=some (.string d.m)/\z.cell? ⟨w.heap.size,6,none⟩=some (.slice d.sq d.sn d.sc)/\z.cell? ⟨w.heap.size,7,none⟩=some (.bool st)/\z.cell? ⟨w.heap.size,8,none⟩=some (.slice bq nb bc)/\z.cell? ⟨w.heap.size,9,none⟩=some (.slice cq nc cc)/\z.heap[w.heap.size+1]?=some (.cells zw10 48 (0,0))) z':=by
  rintro z z' ⟨a0,a1,a2,a3,a4,a5,a6,a7,a8,a9,a10,a11,a12⟩ hb
  have hs:=hb.size
  have hl:w.heap.size<z.heap.size:=by omega
  exact⟨a0.trans (hb.mono a0.size),by omega,(hb.cell (by exact hl)).trans a2,(hb.cell (by exact hl)).trans a3,(hb.cell (by exact hl)).trans a4,(hb.cell (by exact hl)).trans a5,(hb.cell (by exact hl)).trans a6,(hb.cell (by exact hl)).trans a7,(hb.cell (by exact hl)).trans a8,(hb.cell (by exact hl)).trans a9,(hb.cell (by exact hl)).trans a10,(hb.cell (by exact hl)).trans a11,(hb.block _ (by omega)).trans a12⟩
 have ts:∀z B j u,w.heap.size+2<=B->(fun z=>Below w.heap.size w z/\w.heap.size+2<=z.heap.size/\z.cell? ⟨w.heap.size,0,none⟩=some (.int .i64 d.k)/\z.cell? ⟨w.heap.size,1,none⟩=some (.int .i64 d.f)/\z.cell? ⟨w.heap.size,2,none⟩=some (.bool d.neg)/\z.cell? ⟨w.heap.size,3,none⟩=some (.slice d.aq d.an d.ac)/\z.cell? ⟨w.heap.size,4,none⟩=some (.slice d.cq d.cn d.cc)/\z.cell? ⟨w.heap.size,5,none⟩=some (.string d.m)/\z.cell? ⟨w.heap.size,6,none⟩=some (.slice d.sq d.sn d.sc)/\z.cell? ⟨w.heap.size,7,none⟩=some (.bool st)/\z.cell? ⟨w.heap.size,8,none⟩=some (.slice bq nb bc)/\z.cell? ⟨w.heap.size,9,none⟩=some (.slice cq nc cc)/\z.heap[w.heap.size+1]?=some (.cells zw10 48 (0,0))) z->(fun z=>Below w.heap.size w z/\w.heap.size+2<=z.heap.size/\z.cell? ⟨w.heap.size,0,none⟩=some (.int .i64 d.k)/\z.cell? ⟨w.heap.size,1,none⟩=some (.int .i64 d.f)/\z.cell? ⟨w.heap.size,2,none⟩=some (.bool d.neg)/\z.cell? ⟨w.heap.size,3,none⟩=some (.slice d.aq d.an d.ac)/\z.cell? ⟨w.heap.size,4,none⟩=some (.slice d.cq d.cn d.cc)/\z.cell? ⟨w.heap.size,5,none⟩=some (.string d.m)/\z.cell? ⟨w.heap.size,6,none⟩=some (.slice d.sq d.sn d.sc)/\z.cell? ⟨w.heap.size,7,none⟩=some (.bool st)/\z.cell? ⟨w.heap.size,8,none⟩=some (.slice bq nb bc)/\z.cell? ⟨w.heap.size,9,none⟩=some (.slice cq nc cc)/\z.heap[w.heap.size+1]?=some (.cells zw10 48 (0,0))) (z.setCell ⟨B,j,none⟩ u):=by
  rintro z B j u hB ⟨a0,a1,a2,a3,a4,a5,a6,a7,a8,a9,a10,a11,a12⟩
  have hne:¬B=w.heap.size:=by omega
  exact⟨a0.setCell (by show _<=B;omega) u,by simp;omega,(World.cell?_setCell_far _ _ _ _ (by simp[hne])).trans a2,(World.cell?_setCell_far _ _ _ _ (by simp[hne])).trans a3,(World.cell?_setCell_far _ _ _ _ (by simp[hne])).trans a4,(World.cell?_setCell_far _ _ _ _ (by simp[hne])).trans a5,(World.cell?_setCell_far _ _ _ _ (by simp[hne])).trans a6,(World.cell?_setCell_far _ _ _ _ (by simp[hne])).trans a7,(World.cell?_setCell_far _ _ _ _ (by simp[hne])).trans a8,(World.cell?_setCell_far _ _ _ _ (by simp[hne])).trans a9,(World.cell?_setCell_far _ _ _ _ (by simp[hne])).trans a10,(World.cell?_setCell_far _ _ _ _ (by simp[hne])).trans a11,
   (Below.heap_setCell _ _ _ _ (by show ¬_=B;omega)).trans a12⟩
 have td:∀z,(fun z=>Below w.heap.size w z/\w.heap.size+2<=z.heap.size/\z.cell? ⟨w.heap.size,0,none⟩=some (.int .i64 d.k)/\z.cell? ⟨w.heap.size,1,none⟩=some (.int .i64 d.f)/\z.cell? ⟨w.heap.size,2,none⟩=some (.bool d.neg)/\z.cell? ⟨w.heap.size,3,none⟩=some (.slice d.aq d.an d.ac)/\z.cell? ⟨w.heap.size,4,none⟩=some (.slice d.cq d.cn d.cc)/\z.cell? ⟨w.heap.size,5,none⟩=some (.string d.m)/\z.cell? ⟨w.heap.size,6,none⟩=some (.slice d.sq d.sn d.sc)/\z.cell? ⟨w.heap.size,7,none⟩=some (.bool st)/\z.cell? ⟨w.heap.size,8,none⟩=some (.slice bq nb bc)/\z.cell? ⟨w.heap.size,9,none⟩=some (.slice cq nc cc)/\z.heap[w.heap.size+1]?=some (.cells zw10 48 (0,0))) z->(fun z=>Below w.heap.size w z/\w.heap.size+2<=z.heap.size/\z.cell? ⟨w.heap.size,0,none⟩=some (.int .i64 d.k)/\z.cell? ⟨w.heap.size,1,none⟩=some (.int .i64 d.f)/\z.cell? ⟨w.heap.size,2,none⟩=some (.bool d.neg)/\z.cell? ⟨w.heap.size,3,none⟩=some (.slice d.aq d.an d.ac)/\z.cell? ⟨w.heap.size,4,none⟩=some (.slice d.cq d.cn d.cc)/\z.cell? ⟨w.heap.size,5,none⟩=some (.string d.m)/\z.cell? ⟨w.heap.size,6,none⟩=some (.slice d.sq d.sn d.sc)/\z.cell? ⟨w.heap.size,7,none⟩=some (.bool st)/\z.cell? ⟨w.heap.size,8,none⟩=some (.slice bq nb bc)/\z.cell? ⟨w.heap.size,9,none⟩=some (.slice cq nc cc)/\z.heap[w.heap.size+1]?=some (.cells zw10 48 (0,0))) z.drew:=fun z h=>⟨h.1.drew,h.2⟩
 have td':=hid_of td
 have hSd:(fun z=>Below w.heap.size w z/\w.heap.size+2<=z.heap.size/\z.cell? ⟨w.heap.size,0,none⟩=some (.int .i64 d.k)/\z.cell? ⟨w.heap.size,1,none⟩=some (.int .i64 d.f)/\z.cell? ⟨w.heap.size,2,none⟩=some (.bool d.neg)/\z.cell? ⟨w.heap.size,3,none⟩=some (.slice d.aq d.an d.ac)/\z.cell? ⟨w.heap.size,4,none⟩=some (.slice d.cq d.cn d.cc)/\z.cell? ⟨w.heap.size,5,none⟩=some (.string d.m)/\z.cell? ⟨w.heap.size,6,none⟩=some (.slice d.sq d.sn d.sc)/\z.cell? ⟨w.heap.size,7,none⟩=some (.bool st)/\z.cell? ⟨w.heap.size,8,none⟩=some (.slice bq nb bc)/\z.cell? ⟨w.heap.size,9,none⟩=some (.slice cq nc cc)/\z.heap[w.heap.size+1]?=some (.cells zw10 48 (0,0))) w1.drew:=td _ hS1
 have tr':=hid_of tr
 have ts':=hid_of ts
 have hsd:w1.drew.heap.size=w1.heap.size:=rfl
 have hSh:=hid_of hS1
 clear tr ts td hS1
 go_cut [3] from 9 (fun v wc=>∃(G:Nat) (e':Nd),v=.pointer (some ⟨G,0,none⟩)/\w.heap.size+2<=G/\G<wc.heap.size/\wc.heap[G]?=some (.cells #[.int .i64 e'.k,.int .i64 e'.f,.bool e'.neg,.slice e'.aq e'.an e'.ac,.slice e'.cq e'.cn e'.cc,.string e'.m,.slice e'.sq e'.sn e'.sc,.bool st,.slice none 0 0,.slice none 0 0] 48 (0,0))/\
  ExA wc (fun b=>w.heap.size+2<=b/\b<wc.heap.size/\b≠G) goal e'/\(fun z=>Below w.heap.size w z/\w.heap.size+2<=z.heap.size/\z.cell? ⟨w.heap.size,0,none⟩=some (.int .i64 d.k)/\z.cell? ⟨w.heap.size,1,none⟩=some (.int .i64 d.f)/\z.cell? ⟨w.heap.size,2,none⟩=some (.bool d.neg)/\z.cell? ⟨w.heap.size,3,none⟩=some (.slice d.aq d.an d.ac)/\z.cell? ⟨w.heap.size,4,none⟩=some (.slice d.cq d.cn d.cc)/\z.cell? ⟨w.heap.size,5,none⟩=some (.string d.m)/\z.cell? ⟨w.heap.size,6,none⟩=some (.slice d.sq d.sn d.sc)/\z.cell? ⟨w.heap.size,7,none⟩=some (.bool st)/\z.cell? ⟨w.heap.size,8,none⟩=some (.slice bq nb bc)/\z.cell? ⟨w.heap.size,9,none⟩=some (.slice cq nc cc)/\z.heap[w.heap.size+1]?=some (.cells zw10 48 (0,0))) wc)
 case first=>
  go_region_held3 (fun z=>Below w.heap.size w z/\w.heap.size+2<=z.heap.size/\z.cell? ⟨w.heap.size,0,none⟩=some (.int .i64 d.k)/\z.cell? ⟨w.heap.size,1,none⟩=some (.int .i64 d.f)/\z.cell? ⟨w.heap.size,2,none⟩=some (.bool d.neg)/\z.cell? ⟨w.heap.size,3,none⟩=some (.slice d.aq d.an d.ac)/\z.cell? ⟨w.heap.size,4,none⟩=some (.slice d.cq d.cn d.cc)/\z.cell? ⟨w.heap.size,5,none⟩=some (.string d.m)/\z.cell? ⟨w.heap.size,6,none⟩=some (.slice d.sq d.sn d.sc)/\z.cell? ⟨w.heap.size,7,none⟩=some (.bool st)/\z.cell? ⟨w.heap.size,8,none⟩=some (.slice bq nb bc)/\z.cell? ⟨w.heap.size,9,none⟩=some (.slice cq nc cc)/\z.heap[w.heap.size+1]?=some (.cells zw10 48 (0,0))) (first | with_reducible exact hSd | with_reducible exact hS2 | with_reducible exact hS3 | with_reducible exact td'.out _ (tr'.out _ _ hSh.out (zaa _ _)) | with_reducible exact tr'.out _ _ hS2 (zaa _ _) | ((repeat with_reducible refine ts'.out _ _ _ _ (by omega) ?_);with_reducible exact hS3))
   (first
     | (go_at_call 89;with_reducible refine(hE _ ?_).mono ?_;exact hSd.1;rintro e w2 ⟨e',rfl,hA1,hb2⟩
        have hS2:=tr'.out _ _ hSd hb2)
     | (go_at_call 89;with_reducible refine(hE _ ?_).mono ?_;exact(td'.out _ (tr'.out _ _ hSh.out (zaa _ _))).1;rintro e w3 ⟨e',rfl,hA1,hb3⟩
        have hS3:=tr'.out _ _ (td'.out _ (tr'.out _ _ hSh.out (zaa _ _))) hb3
        have hblk:w3.heap[w.heap.size+2]?=some (.cells zw10 48 (0,0)):=by
         have h:=heap_alloc_last w1 (.cells zw10 48 (0,0))
         rw[hz1] at h
         exact(hb3.block _ (by show _<(w1.heap.push _).size;simp;omega)).trans h
        have y0:w3.cell? ⟨w.heap.size+2,0,none⟩=some (.int .i64 0):=by rw[cell_of_row _ _ _ _ _ _ hblk];rfl
        have y1:w3.cell? ⟨w.heap.size+2,1,none⟩=some (.int .i64 0):=by rw[cell_of_row _ _ _ _ _ _ hblk];rfl
        have y2:w3.cell? ⟨w.heap.size+2,2,none⟩=some (.bool false):=by rw[cell_of_row _ _ _ _ _ _ hblk];rfl
        have y3:w3.cell? ⟨w.heap.size+2,3,none⟩=some (.slice none 0 0):=by rw[cell_of_row _ _ _ _ _ _ hblk];rfl
        have y4:w3.cell? ⟨w.heap.size+2,4,none⟩=some (.slice none 0 0):=by rw[cell_of_row _ _ _ _ _ _ hblk];rfl
        have y5:w3.cell? ⟨w.heap.size+2,5,none⟩=some (.string ⟨#[]⟩):=by rw[cell_of_row _ _ _ _ _ _ hblk];rfl
        have y6:w3.cell? ⟨w.heap.size+2,6,none⟩=some (.slice none 0 0):=by rw[cell_of_row _ _ _ _ _ _ hblk];rfl
        have y7:w3.cell? ⟨w.heap.size+2,7,none⟩=some (.bool false):=by rw[cell_of_row _ _ _ _ _ _ hblk];rfl
        have y8:w3.cell? ⟨w.heap.size+2,8,none⟩=some (.slice none 0 0):=by rw[cell_of_row _ _ _ _ _ _ hblk];rfl
        have y9:w3.cell? ⟨w.heap.size+2,9,none⟩=some (.slice none 0 0):=by rw[cell_of_row _ _ _ _ _ _ hblk];rfl
        have yf:∀j,w3.frozen? ⟨w.heap.size+2,j,none⟩=false:=fun j=>frozen_of_row _ _ _ _ _ hblk))
  ·go_wp2_with fail
   go_meet
   case rel=>
    have hs2:=hb2.size
    refine⟨w2.heap.size,e',rfl,by omega,by show _<(w2.heap.push _).size;simp,heap_alloc_last _ _,?_,tr'.out _ _ hS2 (zaa _ _)⟩
    refine ExA.keep (A:=Fresh w1.drew w2) ((zah (zaa w2 _)).mono fun b hb=>hb.2) (fun b hb=>?_) hA1
    have h1:=hb.1
    have h2:=hb.2
    exact⟨by omega,by show _<(w2.heap.push _).size;simp;omega,by omega⟩
  ·go_wp2_with fail
   go_meet
   case rel=>
    have hs3:=hb3.size
    have hsz:(w1.alloc (.cells #[.int .i64 0,.int .i64 0,.bool false,.slice none 0 0,.slice none 0 0,.string ⟨#[]⟩,.slice none 0 0,.bool false,.slice none 0 0,.slice none 0 0] 48 (0,0))).drew.heap.size=w.heap.size+3:=by show(w1.heap.push _).size=_;simp;omega
    have hk:∀A:Nat->Prop,¬A (w.heap.size+2)->Keeps A w3 ((((((((((w3.setCell ⟨w.heap.size+2,0,none⟩ (.int .i64 e'.k)).setCell ⟨w.heap.size+2,1,none⟩ (.int .i64 e'.f)).setCell ⟨w.heap.size+2,2,none⟩ (.bool e'.neg)).setCell ⟨w.heap.size+2,3,none⟩ (.slice e'.aq e'.an e'.ac)).setCell ⟨w.heap.size+2,4,none⟩ (.slice e'.cq e'.cn e'.cc)).setCell ⟨w.heap.size+2,5,none⟩ (.string e'.m)).setCell ⟨w.heap.size+2,6,none⟩ (.slice e'.sq e'.sn e'.sc)).setCell ⟨w.heap.size+2,7,none⟩ (.bool st)).setCell ⟨w.heap.size+2,8,none⟩ (.slice none 0 0)).setCell ⟨w.heap.size+2,9,none⟩ (.slice none 0 0)):=fun A hA=>(((((((((zad A _ _ _ hA).trans (zad A _ _ _ hA)).trans (zad A _ _ _ hA)).trans (zad A _ _ _ hA)).trans (zad A _ _ _ hA)).trans (zad A _ _ _ hA)).trans (zad A _ _ _ hA)).trans (zad A _ _ _ hA)).trans (zad A _ _ _ hA)).trans (zad A _ _ _ hA)
    refine⟨w.heap.size+2,e',rfl,by omega,by simp;omega,?_,?_,?_⟩
    ·have g0:=zab hblk (j:=0) (u:=.int .i64 e'.k)
     have g1:=zab g0 (j:=1) (u:=.int .i64 e'.f)
     have g2:=zab g1 (j:=2) (u:=.bool e'.neg)
     have g3:=zab g2 (j:=3) (u:=.slice e'.aq e'.an e'.ac)
     have g4:=zab g3 (j:=4) (u:=.slice e'.cq e'.cn e'.cc)
     have g5:=zab g4 (j:=5) (u:=.string e'.m)
     have g6:=zab g5 (j:=6) (u:=.slice e'.sq e'.sn e'.sc)
     have g7:=zab g6 (j:=7) (u:=.bool st)
     have g8:=zab g7 (j:=8) (u:=.slice none 0 0)
     have g9:=zab g8 (j:=9) (u:=.slice none 0 0)
     exact g9
    ·refine ExA.keep (A:=Fresh _ w3) (hk _ (fun hb=>?_)) (fun b hb=>?_) hA1
     ·have:=hb.1
      omega
     ·have h1:=hb.1
      have h2:=hb.2
      exact⟨by omega,by simp;omega,by omega⟩
    ·repeat with_reducible refine ts'.out _ _ _ _ (by omega) ?_
     exact hS3
 case rest=>
  obtain⟨G,e',rfl,hG1,hG2,hblk0,hA0,hSc⟩:=hcut
  obtain⟨hWc,hgs,p0,p1,p2,p3,p4,p5,p6,p7,p8,p9,hresc⟩:=hSc
  clear tr' ts' td' hSd hSh hE hsd hz1
  have hboxc:Hid (wc.rangeAt w.heap.size 0 [.int .i64 d.k,.int .i64 d.f,.bool d.neg,.slice d.aq d.an d.ac,.slice d.cq d.cn d.cc,.string d.m,.slice d.sq d.sn d.sc,.bool st,.slice bq nb bc,.slice cq nc cc]):=by
   intro j v hv
   match j,hv with
   | 0,hv=>cases hv;exact p0
   | 1,hv=>cases hv;exact p1
   | 2,hv=>cases hv;exact p2
   | 3,hv=>cases hv;exact p3
   | 4,hv=>cases hv;exact p4
   | 5,hv=>cases hv;exact p5
   | 6,hv=>cases hv;exact p6
   | 7,hv=>cases hv;exact p7
   | 8,hv=>cases hv;exact p8
   | 9,hv=>cases hv;exact p9
  have B3:ExA wc (Free (w.heap.size+2) wc G (.slice none 0 0)) goal e':=hA0.keep (Keeps.refl _ _) (fun b hb=>⟨hb.1,hb.2.1,hb.2.2,by simp[Value.ownBlock]⟩)
  clear hA0 p0 p1 p2 p3 p4 p5 p6 p7 p9
  obtain⟨i0,hi,hz0,hz1,hz2⟩:=info_parts (show(Tryz.prog.info? 94).map (fun i=>(i.zero,i.size,i.bytes))=some (some (.agg #[.string ⟨#[]⟩,.bool false,.slice none 0 0,.slice none 0 0,.bool false,.slice none 0 0,.slice none 0 0,.bool false,.bool false]),9,136) by kernel_rfl)
  go_wp2_with fail
  go_loopw [18] (fun i wr=>∃k:Nat,k<=nb/\i=.int .i64 k/\∃(v:Value) (L:List (Si × Sv)),L.length=k/\wr.heap[G]?=some (.cells #[.int .i64 e'.k,.int .i64 e'.f,.bool e'.neg,.slice e'.aq e'.an e'.ac,.slice e'.cq e'.cn e'.cc,.string e'.m,.slice e'.sq e'.sn e'.sc,.bool st,v,.slice none 0 0] 48 (0,0))/\wr.ownsRow (w.heap.size+2) 94 9 v k (L.flatMap sideC)/\v.ownBlock≠some G/\(∀i x,L[i]?=some x->x.1=bs i/\SiA wr (Free (w.heap.size+2) wr G v) x.1 x.2)/\ExA wr (Free (w.heap.size+2) wr G v) goal e'/\True/\Below w.heap.size w wr/\G<wr.heap.size/\wr.heap[w.heap.size+1]?=some (.cells zw10 48 (0,0))/\Hid (wr.rangeAt w.heap.size 0 [.int .i64 d.k,.int .i64 d.f,.bool d.neg,.slice d.aq d.an d.ac,.slice d.cq d.cn d.cc,.string d.m,.slice d.sq d.sn d.sc,.bool st,.slice bq nb bc,.slice cq nc cc])) (fun i _=>nb - (intOf i).toNat)
  case atStart=>
   exact⟨0,Nat.zero_le _,rfl,.slice none 0 0,[],rfl,hblk0,World.ownsRow_nil _ _ _ _,by simp[Value.ownBlock],fun i x h=>by simp at h,B3,trivial,hWc,hG2,hresc,hboxc⟩
  case round=>
   clear hblk0 hG2 hWc hresc hboxc B3 hgs
   obtain⟨k,hk,rfl,v,L,hLk,hblk,hown,hne,hLx,hA3,_,hbw,hGr,hres,hbox⟩:=hrel
   have hws:=hbw.size
   by_cases hlt:k<nb
   ·have hlt':(k:Int)<(nb:Int):=by omega
    have hKl:=hL k hlt
    have hKr:=hR k hlt
    have hSk:=hSm k hlt
    rcases hp.out with h0 | ⟨b,o,hq,hbb,hcx⟩
    ·omega
    have hx:=rangeAt_below (hcx k hlt) hbw hbb
    clear hcx p8
    generalize hX:bs k=X at*
    generalize hY:xs k=Y at*
    rw[hq] at hbox ⊢
    obtain⟨de',hu',hd'⟩:=side_row
    have hHu':=hid_of hu'
    clear hu'
    go_wp2_with (first
     | (with_reducible refine wpList_load_mid ?_ 94 (.tmp 20) ?_ b (o+k*9) ?_ [.string X.m,.bool X.g1,.slice Y.q1 Y.l1 Y.c1,.slice Y.p1 Y.m1 Y.e1,.bool X.g2,.slice Y.q2 Y.l2 Y.c2,.slice Y.p2 Y.m2 Y.e2,.bool X.li,.bool X.hh] de' ?_ hHu'.out hd' ?_ ?_
        rotate_left 1
        ·with_reducible rfl
        ·rfl
        ·exact hx
        ·exact zdc
        rotate_left 1
        ·rfl)
     | (with_reducible refine wpList_store_new ?_ 94 (.tmp 5) (.tmp 21) ?_ #[.string X.m,.bool X.g1,.slice Y.q1 Y.l1 Y.c1,.slice Y.p1 Y.m1 Y.e1,.bool X.g2,.slice Y.q2 Y.l2 Y.c2,.slice Y.p2 Y.m2 Y.e2,.bool X.li,.bool X.hh] wr.heap.size rfl ?_ ?_ ?_ ?_ ?_ ?_
        rotate_left 1
        ·with_reducible rfl
        ·rfl
        ·rfl
        ·rfl
        ·exact zdc
        ·exact all_oneCell_toArray (Si.one X Y)
        rotate_left 1
        ·rfl))
    simp only[Act.put]
    have hTl:(fun z=>z.cell? ⟨wr.heap.size,0,none⟩=some (.string X.m)/\z.cell? ⟨wr.heap.size,1,none⟩=some (.bool X.g1)/\z.cell? ⟨wr.heap.size,2,none⟩=some (.slice Y.q1 Y.l1 Y.c1)/\z.cell? ⟨wr.heap.size,3,none⟩=some (.slice Y.p1 Y.m1 Y.e1)/\z.cell? ⟨wr.heap.size,4,none⟩=some (.bool X.g2)/\z.cell? ⟨wr.heap.size,5,none⟩=some (.slice Y.q2 Y.l2 Y.c2)/\z.cell? ⟨wr.heap.size,6,none⟩=some (.slice Y.p2 Y.m2 Y.e2)/\z.cell? ⟨wr.heap.size,7,none⟩=some (.bool X.li)/\z.cell? ⟨wr.heap.size,8,none⟩=some (.bool X.hh)) (wr.alloc (.cells #[.string X.m,.bool X.g1,.slice Y.q1 Y.l1 Y.c1,.slice Y.p1 Y.m1 Y.e1,.bool X.g2,.slice Y.q2 Y.l2 Y.c2,.slice Y.p2 Y.m2 Y.e2,.bool X.li,.bool X.hh] 94)):=⟨by simp,by simp,by simp,by simp,by simp,by simp,by simp,by simp,by simp⟩
    have hzl:Below wr.heap.size wr (wr.alloc (.cells #[.string X.m,.bool X.g1,.slice Y.q1 Y.l1 Y.c1,.slice Y.p1 Y.m1 Y.e1,.bool X.g2,.slice Y.q2 Y.l2 Y.c2,.slice Y.p2 Y.m2 Y.e2,.bool X.li,.bool X.hh] 94)):=zaa _ _
    have hsl:(wr.alloc (.cells #[.string X.m,.bool X.g1,.slice Y.q1 Y.l1 Y.c1,.slice Y.p1 Y.m1 Y.e1,.bool X.g2,.slice Y.q2 Y.l2 Y.c2,.slice Y.p2 Y.m2 Y.e2,.bool X.li,.bool X.hh] 94)).heap.size=wr.heap.size+1:=by simp
    generalize (wr.alloc (.cells #[.string X.m,.bool X.g1,.slice Y.q1 Y.l1 Y.c1,.slice Y.p1 Y.m1 Y.e1,.bool X.g2,.slice Y.q2 Y.l2 Y.c2,.slice Y.p2 Y.m2 Y.e2,.bool X.li,.bool X.hh] 94))=wl at*
    have k5:Hid (∀z z',(fun z=>z.cell? ⟨wr.heap.size,0,none⟩=some (.string X.m)/\z.cell? ⟨wr.heap.size,1,none⟩=some (.bool X.g1)/\z.cell? ⟨wr.heap.size,2,none⟩=some (.slice Y.q1 Y.l1 Y.c1)/\z.cell? ⟨wr.heap.size,3,none⟩=some (.slice Y.p1 Y.m1 Y.e1)/\z.cell? ⟨wr.heap.size,4,none⟩=some (.bool X.g2)/\z.cell? ⟨wr.heap.size,5,none⟩=some (.slice Y.q2 Y.l2 Y.c2)/\z.cell? ⟨wr.heap.size,6,none⟩=some (.slice Y.p2 Y.m2 Y.e2)/\z.cell? ⟨wr.heap.size,7,none⟩=some (.bool X.li)/\z.cell? ⟨wr.heap.size,8,none⟩=some (.bool X.hh)) z->wr.heap.size<z.heap.size->Below z.heap.size z z'->(fun z=>z.cell? ⟨wr.heap.size,0,none⟩=some (.string X.m)/\z.cell? ⟨wr.heap.size,1,none⟩=some (.bool X.g1)/\z.cell? ⟨wr.heap.size,2,none⟩=some (.slice Y.q1 Y.l1 Y.c1)/\z.cell? ⟨wr.heap.size,3,none⟩=some (.slice Y.p1 Y.m1 Y.e1)/\z.cell? ⟨wr.heap.size,4,none⟩=some (.bool X.g2)/\z.cell? ⟨wr.heap.size,5,none⟩=some (.slice Y.q2 Y.l2 Y.c2)/\z.cell? ⟨wr.heap.size,6,none⟩=some (.slice Y.p2 Y.m2 Y.e2)/\z.cell? ⟨wr.heap.size,7,none⟩=some (.bool X.li)/\z.cell? ⟨wr.heap.size,8,none⟩=some (.bool X.hh)) z'):=by
     rintro z z' ⟨a0,a1,a2,a3,a4,a5,a6,a7,a8⟩ hl hb
     exact⟨(hb.cell (by exact hl)).trans a0,(hb.cell (by exact hl)).trans a1,(hb.cell (by exact hl)).trans a2,(hb.cell (by exact hl)).trans a3,(hb.cell (by exact hl)).trans a4,(hb.cell (by exact hl)).trans a5,(hb.cell (by exact hl)).trans a6,(hb.cell (by exact hl)).trans a7,(hb.cell (by exact hl)).trans a8⟩
    have hKl':=hid_of hKl
    have hKr':=hid_of hKr
    clear hKl hKr
    go_cut [6] from 22 to 36 (fun v6 wx=>∃(g6:Nat) (a1 a2 a3 a4:Option Addr) (f1 f2 f3 f4:Nat),v6=.pointer (some ⟨g6,0,none⟩)/\g6<wx.heap.size/\wr.heap.size<=g6/\BlkI wx g6 92 #[.bool X.g1,.slice a1 Y.l1 f1,.slice a2 Y.m1 f2,.bool X.g2,.slice a3 Y.l2 f3,.slice a4 Y.m2 f4,.bool X.li,.bool X.hh]/\(SlA wx (fun b=>wr.heap.size<=b/\b<wx.heap.size) (.slice a1 Y.l1 f1) X.nu1/\SlA wx (fun b=>wr.heap.size<=b/\b<wx.heap.size) (.slice a2 Y.m1 f2) X.de1/\SlA wx (fun b=>wr.heap.size<=b/\b<wx.heap.size) (.slice a3 Y.l2 f3) X.nu2/\SlA wx (fun b=>wr.heap.size<=b/\b<wx.heap.size) (.slice a4 Y.m2 f4) X.de2)/\wx.cell? ⟨wr.heap.size,0,none⟩=some (.string X.m)/\Below wr.heap.size wr wx)
    case first=>
     try simp only[Act.put]
     have Gd:Below wr.heap.size wr wl.drew:=hzl.drew
     have Ld:wr.heap.size<wl.drew.heap.size:=by show _<wl.heap.size;omega
     have Td:(fun z=>z.cell? ⟨wr.heap.size,0,none⟩=some (.string X.m)/\z.cell? ⟨wr.heap.size,1,none⟩=some (.bool X.g1)/\z.cell? ⟨wr.heap.size,2,none⟩=some (.slice Y.q1 Y.l1 Y.c1)/\z.cell? ⟨wr.heap.size,3,none⟩=some (.slice Y.p1 Y.m1 Y.e1)/\z.cell? ⟨wr.heap.size,4,none⟩=some (.bool X.g2)/\z.cell? ⟨wr.heap.size,5,none⟩=some (.slice Y.q2 Y.l2 Y.c2)/\z.cell? ⟨wr.heap.size,6,none⟩=some (.slice Y.p2 Y.m2 Y.e2)/\z.cell? ⟨wr.heap.size,7,none⟩=some (.bool X.li)/\z.cell? ⟨wr.heap.size,8,none⟩=some (.bool X.hh)) wl.drew:=hTl
     refine wp_region_held_drew (S:=fun z=>z.cell? ⟨wr.heap.size,0,none⟩=some (.string X.m)/\z.cell? ⟨wr.heap.size,1,none⟩=some (.bool X.g1)/\z.cell? ⟨wr.heap.size,2,none⟩=some (.slice Y.q1 Y.l1 Y.c1)/\z.cell? ⟨wr.heap.size,3,none⟩=some (.slice Y.p1 Y.m1 Y.e1)/\z.cell? ⟨wr.heap.size,4,none⟩=some (.bool X.g2)/\z.cell? ⟨wr.heap.size,5,none⟩=some (.slice Y.q2 Y.l2 Y.c2)/\z.cell? ⟨wr.heap.size,6,none⟩=some (.slice Y.p2 Y.m2 Y.e2)/\z.cell? ⟨wr.heap.size,7,none⟩=some (.bool X.li)/\z.cell? ⟨wr.heap.size,8,none⟩=some (.bool X.hh)) (by kernel_rfl) hTl (fun hHeldz0=>?_)
     obtain⟨z0,hz0'⟩:∃v,v=wl.drew:=⟨_,rfl⟩
     rw[<-hz0'] at hHeldz0 Gd Ld Td ⊢
     have Gz0:=Gd
     have Lz0:=Ld
     have Tz0:=hid_of Td
     clear hz0' Gd Ld Td hTl
     refine wpAnyH_take (i:=0) (v:=.pointer (some ⟨wr.heap.size,1,none⟩)) rfl (by kernel_rfl) (by kernel_rfl) (by kernel_rfl) (fun _ _ _ h=>h) (.inl ⟨by rfl,fun z hSz=>by go_simp⟩) hHeldz0 ?_
     simp only[Act.put]
     refine wpAnyH_take (i:=1) (v:=.pointer (some ⟨wr.heap.size,1,none⟩)) rfl (by kernel_rfl) (by kernel_rfl) (by kernel_rfl) (fun _ _ _ h=>h) (.inl ⟨by rfl,fun z hSz=>by go_simp⟩) hHeldz0 ?_
     simp only[Act.put]
     refine wpAnyH_take (i:=2) (v:=.agg #[.bool X.g1,.slice Y.q1 Y.l1 Y.c1,.slice Y.p1 Y.m1 Y.e1]) rfl (by kernel_rfl) (by kernel_rfl) (by kernel_rfl) (fun _ _ _ h=>h) (.inl ⟨by rfl,fun z hSz=>by go_simp⟩) hHeldz0 ?_
     simp only[Act.put]
     refine wpAnyH_take (i:=4) (v:=.pointer (some ⟨wr.heap.size,1,none⟩)) rfl (by kernel_rfl) (by kernel_rfl) (by kernel_rfl) (fun _ _ _ h=>h) (.inl ⟨by rfl,fun z hSz=>by go_simp⟩) hHeldz0 ?_
     simp only[Act.put]
     refine wpAnyH_take (i:=5) (v:=.pointer (some ⟨wr.heap.size,4,none⟩)) rfl (by kernel_rfl) (by kernel_rfl) (by kernel_rfl) (fun _ _ _ h=>h) (.inl ⟨by rfl,fun z hSz=>by go_simp⟩) hHeldz0 ?_
     simp only[Act.put]
     refine wpAnyH_take (i:=6) (v:=.agg #[.bool X.g2,.slice Y.q2 Y.l2 Y.c2,.slice Y.p2 Y.m2 Y.e2]) rfl (by kernel_rfl) (by kernel_rfl) (by kernel_rfl) (fun _ _ _ h=>h) (.inl ⟨by rfl,fun z hSz=>by go_simp⟩) hHeldz0 ?_
     simp only[Act.put]
     refine wpAnyH_take (i:=8) (v:=.pointer (some ⟨wr.heap.size,1,none⟩)) rfl (by kernel_rfl) (by kernel_rfl) (by kernel_rfl) (fun _ _ _ h=>h) (.inl ⟨by rfl,fun z hSz=>by go_simp⟩) hHeldz0 ?_
     simp only[Act.put]
     refine wpAnyH_take (i:=9) (v:=.pointer (some ⟨wr.heap.size,7,none⟩)) rfl (by kernel_rfl) (by kernel_rfl) (by kernel_rfl) (fun _ _ _ h=>h) (.inl ⟨by rfl,fun z hSz=>by go_simp⟩) hHeldz0 ?_
     simp only[Act.put]
     refine wpAnyH_take (i:=10) (v:=.bool X.li) rfl (by kernel_rfl) (by kernel_rfl) (by kernel_rfl) (fun _ _ _ h=>h) (.inl ⟨by rfl,fun z hSz=>by go_simp⟩) hHeldz0 ?_
     simp only[Act.put]
     refine wpAnyH_take (i:=11) (v:=.pointer (some ⟨wr.heap.size,1,none⟩)) rfl (by kernel_rfl) (by kernel_rfl) (by kernel_rfl) (fun _ _ _ h=>h) (.inl ⟨by rfl,fun z hSz=>by go_simp⟩) hHeldz0 ?_
     simp only[Act.put]
     refine wpAnyH_take (i:=12) (v:=.pointer (some ⟨wr.heap.size,8,none⟩)) rfl (by kernel_rfl) (by kernel_rfl) (by kernel_rfl) (fun _ _ _ h=>h) (.inl ⟨by rfl,fun z hSz=>by go_simp⟩) hHeldz0 ?_
     simp only[Act.put]
     refine wpAnyH_take (i:=13) (v:=.bool X.hh) rfl (by kernel_rfl) (by kernel_rfl) (by kernel_rfl) (fun _ _ _ h=>h) (.inl ⟨by rfl,fun z hSz=>by go_simp⟩) hHeldz0 ?_
     simp only[Act.put]
     refine wpAnyH_ready (rs:=[3,15]) (by kernel_rfl) (by simp) ?_
     refine AllReadyH.cons rfl (fun K' hKK=>?_) (AllReadyH.cons rfl (fun K' hKK=>?_) AllReadyH.nil)
     ·go_simp
      refine(hKl'.out _ (hbw.trans (Gz0.mono hws))).mono ?_
      rintro e z1 ⟨a1,f1,a2,f2,rfl,hA1,hA2,hbz1⟩
      have Gz1:Below wr.heap.size wr z1:=Gz0.trans (hbz1.mono Gz0.size)
      have Lz1:wr.heap.size<z1.heap.size:=Nat.lt_of_lt_of_le Lz0 hbz1.size
      have Tz1:=hid_of (k5.out _ _ Tz0.out Lz0 hbz1)
      have P3z1:Hid (SlA z1 (Fr wr.heap.size z1 none) (.slice a1 Y.l1 f1) X.nu1/\SlA z1 (Fr wr.heap.size z1 none) (.slice a2 Y.m1 f2) X.de1):=⟨zbd hA1 Gz0.size (fun b hb=>by cases hb),zbd hA2 Gz0.size (fun b hb=>by cases hb)⟩
      clear hA1 hA2
      have H1:=Tz1.out
      refine hKK.out _ _ H1 (fun hHeldz1=>?_)
      clear hKK K' H1
      refine wpAnyH_ready (rs:=[7,15]) (by kernel_rfl) (by simp) ?_
      refine AllReadyH.cons rfl (fun K' hKK=>?_) (AllReadyH.cons rfl (fun K' hKK=>?_) AllReadyH.nil)
      ·go_simp
       refine(hKr'.out _ (hbw.trans (Gz1.mono hws))).mono ?_
       rintro e z2 ⟨a3,f3,a4,f4,rfl,hA3,hA4,hbz2⟩
       have Gz2:Below wr.heap.size wr z2:=Gz1.trans (hbz2.mono Gz1.size)
       have Lz2:wr.heap.size<z2.heap.size:=Nat.lt_of_lt_of_le Lz1 hbz2.size
       have Tz2:=hid_of (k5.out _ _ Tz1.out Lz1 hbz2)
       have P7z2:Hid (SlA z2 (Fr wr.heap.size z2 none) (.slice a3 Y.l2 f3) X.nu2/\SlA z2 (Fr wr.heap.size z2 none) (.slice a4 Y.m2 f4) X.de2):=⟨zbd hA3 Gz1.size (fun b hb=>by cases hb),zbd hA4 Gz1.size (fun b hb=>by cases hb)⟩
       clear hA3 hA4
       have P3z2:Hid (SlA z2 (Fr wr.heap.size z2 none) (.slice a1 Y.l1 f1) X.nu1/\SlA z2 (Fr wr.heap.size z2 none) (.slice a2 Y.m1 f2) X.de1):=⟨zbr P3z1.out.1 hbz2,zbr P3z1.out.2 hbz2⟩
       have H1:=Tz2.out
       refine hKK.out _ _ H1 (fun hHeldz2=>?_)
       clear hKK K' H1
       refine wpAnyH_take (i:=14) (v:=.agg #[.bool X.g1,.slice a1 Y.l1 f1,.slice a2 Y.m1 f2,.bool X.g2,.slice a3 Y.l2 f3,.slice a4 Y.m2 f4,.bool X.li,.bool X.hh]) rfl (by kernel_rfl) (by kernel_rfl) (by kernel_rfl) (fun _ _ _ h=>h) (.inl ⟨by rfl,fun z hSz=>by go_simp⟩) hHeldz2 ?_
       simp only[Act.put]
       refine wpAnyH_ready (rs:=[15]) (by kernel_rfl) (by simp) ?_
       refine AllReadyH.cons rfl (fun K' hKK=>?_) AllReadyH.nil
       ·go_simp
        obtain⟨z3,hz3⟩:∃v,v=z2.alloc (.cells zw8 92):=⟨_,rfl⟩
        rw[<-hz3]
        have Gz3:Below wr.heap.size wr z3:=by rw[hz3];exact Gz2.alloc Gz2.size _
        have Lz3:wr.heap.size<z3.heap.size:=by rw[hz3];simp;omega
        have Tz3:=hid_of (k5.out _ z3 Tz2.out Lz2 (by rw[hz3];exact zaa _ _))
        have Nz3:BlkI z3 z2.heap.size 92 zw8:=by rw[hz3];exact heap_alloc_last _ _
        have P3z3:Hid (SlA z3 (Fr wr.heap.size z3 (some z2.heap.size)) (.slice a1 Y.l1 f1) X.nu1/\SlA z3 (Fr wr.heap.size z3 (some z2.heap.size)) (.slice a2 Y.m1 f2) X.de1):=by rw[hz3];exact⟨zbb P3z2.out.1,zbb P3z2.out.2⟩
        have P7z3:Hid (SlA z3 (Fr wr.heap.size z3 (some z2.heap.size)) (.slice a3 Y.l2 f3) X.nu2/\SlA z3 (Fr wr.heap.size z3 (some z2.heap.size)) (.slice a4 Y.m2 f4) X.de2):=by rw[hz3];exact⟨zbb P7z2.out.1,zbb P7z2.out.2⟩
        have hlo:wr.heap.size<=z2.heap.size:=Gz2.size
        clear hz3
        have H1:=Tz3.out
        refine hKK.out _ _ H1 (fun hHeldz3=>?_)
        clear hKK K' H1
        have M8:BlkI (z3.setCells (z2.heap.size) 0 [.bool X.g1,.slice a1 Y.l1 f1,.slice a2 Y.m1 f2,.bool X.g2,.slice a3 Y.l2 f3,.slice a4 Y.m2 f4,.bool X.li,.bool X.hh]) (z2.heap.size) 92 #[.bool X.g1,.slice a1 Y.l1 f1,.slice a2 Y.m1 f2,.bool X.g2,.slice a3 Y.l2 f3,.slice a4 Y.m2 f4,.bool X.li,.bool X.hh]:=set8 Nz3 (.bool X.g1) (.slice a1 Y.l1 f1) (.slice a2 Y.m1 f2) (.bool X.g2) (.slice a3 Y.l2 f3) (.slice a4 Y.m2 f4) (.bool X.li) (.bool X.hh)
        obtain⟨gs1,gs2,gs3⟩:=zae wr.heap.size (z2.heap.size) hlo [.bool X.g1,.slice a1 Y.l1 f1,.slice a2 Y.m1 f2,.bool X.g2,.slice a3 Y.l2 f3,.slice a4 Y.m2 f4,.bool X.li,.bool X.hh] 0 wr z3 Gz3
        have hb9:=gs3 wr.heap.size (by omega)
        have hcl:∀j:Nat,(z3.setCells (z2.heap.size) 0 [.bool X.g1,.slice a1 Y.l1 f1,.slice a2 Y.m1 f2,.bool X.g2,.slice a3 Y.l2 f3,.slice a4 Y.m2 f4,.bool X.li,.bool X.hh]).cell? ⟨wr.heap.size,j,none⟩=z3.cell? ⟨wr.heap.size,j,none⟩:=fun j=>World.cell?_of_block hb9
        have hTe:(fun z=>z.cell? ⟨wr.heap.size,0,none⟩=some (.string X.m)/\z.cell? ⟨wr.heap.size,1,none⟩=some (.bool X.g1)/\z.cell? ⟨wr.heap.size,2,none⟩=some (.slice Y.q1 Y.l1 Y.c1)/\z.cell? ⟨wr.heap.size,3,none⟩=some (.slice Y.p1 Y.m1 Y.e1)/\z.cell? ⟨wr.heap.size,4,none⟩=some (.bool X.g2)/\z.cell? ⟨wr.heap.size,5,none⟩=some (.slice Y.q2 Y.l2 Y.c2)/\z.cell? ⟨wr.heap.size,6,none⟩=some (.slice Y.p2 Y.m2 Y.e2)/\z.cell? ⟨wr.heap.size,7,none⟩=some (.bool X.li)/\z.cell? ⟨wr.heap.size,8,none⟩=some (.bool X.hh)) (z3.setCells (z2.heap.size) 0 [.bool X.g1,.slice a1 Y.l1 f1,.slice a2 Y.m1 f2,.bool X.g2,.slice a3 Y.l2 f3,.slice a4 Y.m2 f4,.bool X.li,.bool X.hh]):=⟨(hcl 0).trans Tz3.out.1,(hcl 1).trans Tz3.out.2.1,(hcl 2).trans Tz3.out.2.2.1,(hcl 3).trans Tz3.out.2.2.2.1,(hcl 4).trans Tz3.out.2.2.2.2.1,(hcl 5).trans Tz3.out.2.2.2.2.2.1,(hcl 6).trans Tz3.out.2.2.2.2.2.2.1,(hcl 7).trans Tz3.out.2.2.2.2.2.2.2.1,(hcl 8).trans Tz3.out.2.2.2.2.2.2.2.2⟩
        have Pe:SlA (z3.setCells (z2.heap.size) 0 [.bool X.g1,.slice a1 Y.l1 f1,.slice a2 Y.m1 f2,.bool X.g2,.slice a3 Y.l2 f3,.slice a4 Y.m2 f4,.bool X.li,.bool X.hh]) (fun b=>wr.heap.size<=b/\b<(z3.setCells (z2.heap.size) 0 [.bool X.g1,.slice a1 Y.l1 f1,.slice a2 Y.m1 f2,.bool X.g2,.slice a3 Y.l2 f3,.slice a4 Y.m2 f4,.bool X.li,.bool X.hh]).heap.size) (.slice a1 Y.l1 f1) X.nu1/\SlA (z3.setCells (z2.heap.size) 0 [.bool X.g1,.slice a1 Y.l1 f1,.slice a2 Y.m1 f2,.bool X.g2,.slice a3 Y.l2 f3,.slice a4 Y.m2 f4,.bool X.li,.bool X.hh]) (fun b=>wr.heap.size<=b/\b<(z3.setCells (z2.heap.size) 0 [.bool X.g1,.slice a1 Y.l1 f1,.slice a2 Y.m1 f2,.bool X.g2,.slice a3 Y.l2 f3,.slice a4 Y.m2 f4,.bool X.li,.bool X.hh]).heap.size) (.slice a2 Y.m1 f2) X.de1/\SlA (z3.setCells (z2.heap.size) 0 [.bool X.g1,.slice a1 Y.l1 f1,.slice a2 Y.m1 f2,.bool X.g2,.slice a3 Y.l2 f3,.slice a4 Y.m2 f4,.bool X.li,.bool X.hh]) (fun b=>wr.heap.size<=b/\b<(z3.setCells (z2.heap.size) 0 [.bool X.g1,.slice a1 Y.l1 f1,.slice a2 Y.m1 f2,.bool X.g2,.slice a3 Y.l2 f3,.slice a4 Y.m2 f4,.bool X.li,.bool X.hh]).heap.size) (.slice a3 Y.l2 f3) X.nu2/\SlA (z3.setCells (z2.heap.size) 0 [.bool X.g1,.slice a1 Y.l1 f1,.slice a2 Y.m1 f2,.bool X.g2,.slice a3 Y.l2 f3,.slice a4 Y.m2 f4,.bool X.li,.bool X.hh]) (fun b=>wr.heap.size<=b/\b<(z3.setCells (z2.heap.size) 0 [.bool X.g1,.slice a1 Y.l1 f1,.slice a2 Y.m1 f2,.bool X.g2,.slice a3 Y.l2 f3,.slice a4 Y.m2 f4,.bool X.li,.bool X.hh]).heap.size) (.slice a4 Y.m2 f4) X.de2:=⟨za1 hlo Gz3.size P3z3.out.1,za1 hlo Gz3.size P3z3.out.2,za1 hlo Gz3.size P7z3.out.1,za1 hlo Gz3.size P7z3.out.2⟩
        refine wpAnyH_ready (rs:=[16]) (by kernel_rfl) (by simp) ?_
        refine AllReadyH.cons rfl ?_ AllReadyH.nil
        intro K' hKK
        rw[if_pos (by rfl)]
        refine wp_store_mid 92 (.tmp 6) (.tmp 36) rfl (z2.heap.size) 0 #[.bool X.g1,.slice a1 Y.l1 f1,.slice a2 Y.m1 f2,.bool X.g2,.slice a3 Y.l2 f3,.slice a4 Y.m2 f4,.bool X.li,.bool X.hh] rfl rfl (zfs Nz3) (by kernel_rfl) (by simp[Value.oneCell']) ?_
        refine hKK.out _ _ hTe (fun _=>?_)
        clear hKK K'
        refine wpAnyH_done (by kernel_rfl) ?_ _
        try simp only[Act.put,List.getElem_toArray,List.getElem_cons_succ,List.getElem_cons_zero]
        go_wp2_with fail
        go_meet
        case rel=>exact⟨z2.heap.size,a1,a2,a3,a4,f1,f2,f3,f4,rfl,M8.lt,hlo,M8,Pe,hTe.1,gs1⟩
      ·go_simp
       obtain⟨z4,hz4⟩:∃v,v=z1.alloc (.cells zw8 92):=⟨_,rfl⟩
       rw[<-hz4]
       have Gz4:Below wr.heap.size wr z4:=by rw[hz4];exact Gz1.alloc Gz1.size _
       have Lz4:wr.heap.size<z4.heap.size:=by rw[hz4];simp;omega
       have Tz4:=hid_of (k5.out _ z4 Tz1.out Lz1 (by rw[hz4];exact zaa _ _))
       have Nz4:BlkI z4 z1.heap.size 92 zw8:=by rw[hz4];exact heap_alloc_last _ _
       have P3z4:Hid (SlA z4 (Fr wr.heap.size z4 (some z1.heap.size)) (.slice a1 Y.l1 f1) X.nu1/\SlA z4 (Fr wr.heap.size z4 (some z1.heap.size)) (.slice a2 Y.m1 f2) X.de1):=by rw[hz4];exact⟨zbb P3z1.out.1,zbb P3z1.out.2⟩
       have hlo:wr.heap.size<=z1.heap.size:=Gz1.size
       clear hz4
       have H1:=Tz4.out
       refine hKK.out _ _ H1 (fun hHeldz4=>?_)
       clear hKK K' H1
       refine wpAnyH_ready (rs:=[7]) (by kernel_rfl) (by simp) ?_
       refine AllReadyH.cons rfl (fun K' hKK=>?_) AllReadyH.nil
       ·go_simp
        refine(hKr'.out _ (hbw.trans (Gz4.mono hws))).mono ?_
        rintro e z5 ⟨a3,f3,a4,f4,rfl,hA3,hA4,hbz5⟩
        have Gz5:Below wr.heap.size wr z5:=Gz4.trans (hbz5.mono Gz4.size)
        have Lz5:wr.heap.size<z5.heap.size:=Nat.lt_of_lt_of_le Lz4 hbz5.size
        have Tz5:=hid_of (k5.out _ _ Tz4.out Lz4 hbz5)
        have P7z5:Hid (SlA z5 (Fr wr.heap.size z5 (some z1.heap.size)) (.slice a3 Y.l2 f3) X.nu2/\SlA z5 (Fr wr.heap.size z5 (some z1.heap.size)) (.slice a4 Y.m2 f4) X.de2):=⟨zbd hA3 Gz4.size (fun b hb=>by have:=Option.some.inj hb;have:=Nz4.lt;omega),zbd hA4 Gz4.size (fun b hb=>by have:=Option.some.inj hb;have:=Nz4.lt;omega)⟩
        clear hA3 hA4
        have P3z5:Hid (SlA z5 (Fr wr.heap.size z5 (some z1.heap.size)) (.slice a1 Y.l1 f1) X.nu1/\SlA z5 (Fr wr.heap.size z5 (some z1.heap.size)) (.slice a2 Y.m1 f2) X.de1):=⟨zbr P3z4.out.1 hbz5,zbr P3z4.out.2 hbz5⟩
        have Nz5:=Nz4.below hbz5
        have H1:=Tz5.out
        refine hKK.out _ _ H1 (fun hHeldz5=>?_)
        clear hKK K' H1
        refine wpAnyH_take (i:=14) (v:=.agg #[.bool X.g1,.slice a1 Y.l1 f1,.slice a2 Y.m1 f2,.bool X.g2,.slice a3 Y.l2 f3,.slice a4 Y.m2 f4,.bool X.li,.bool X.hh]) rfl (by kernel_rfl) (by kernel_rfl) (by kernel_rfl) (fun _ _ _ h=>h) (.inl ⟨by rfl,fun z hSz=>by go_simp⟩) hHeldz5 ?_
        simp only[Act.put]
        have M8:BlkI (z5.setCells (z1.heap.size) 0 [.bool X.g1,.slice a1 Y.l1 f1,.slice a2 Y.m1 f2,.bool X.g2,.slice a3 Y.l2 f3,.slice a4 Y.m2 f4,.bool X.li,.bool X.hh]) (z1.heap.size) 92 #[.bool X.g1,.slice a1 Y.l1 f1,.slice a2 Y.m1 f2,.bool X.g2,.slice a3 Y.l2 f3,.slice a4 Y.m2 f4,.bool X.li,.bool X.hh]:=set8 Nz5 (.bool X.g1) (.slice a1 Y.l1 f1) (.slice a2 Y.m1 f2) (.bool X.g2) (.slice a3 Y.l2 f3) (.slice a4 Y.m2 f4) (.bool X.li) (.bool X.hh)
        obtain⟨gs1,gs2,gs3⟩:=zae wr.heap.size (z1.heap.size) hlo [.bool X.g1,.slice a1 Y.l1 f1,.slice a2 Y.m1 f2,.bool X.g2,.slice a3 Y.l2 f3,.slice a4 Y.m2 f4,.bool X.li,.bool X.hh] 0 wr z5 Gz5
        have hb9:=gs3 wr.heap.size (by omega)
        have hcl:∀j:Nat,(z5.setCells (z1.heap.size) 0 [.bool X.g1,.slice a1 Y.l1 f1,.slice a2 Y.m1 f2,.bool X.g2,.slice a3 Y.l2 f3,.slice a4 Y.m2 f4,.bool X.li,.bool X.hh]).cell? ⟨wr.heap.size,j,none⟩=z5.cell? ⟨wr.heap.size,j,none⟩:=fun j=>World.cell?_of_block hb9
        have hTe:(fun z=>z.cell? ⟨wr.heap.size,0,none⟩=some (.string X.m)/\z.cell? ⟨wr.heap.size,1,none⟩=some (.bool X.g1)/\z.cell? ⟨wr.heap.size,2,none⟩=some (.slice Y.q1 Y.l1 Y.c1)/\z.cell? ⟨wr.heap.size,3,none⟩=some (.slice Y.p1 Y.m1 Y.e1)/\z.cell? ⟨wr.heap.size,4,none⟩=some (.bool X.g2)/\z.cell? ⟨wr.heap.size,5,none⟩=some (.slice Y.q2 Y.l2 Y.c2)/\z.cell? ⟨wr.heap.size,6,none⟩=some (.slice Y.p2 Y.m2 Y.e2)/\z.cell? ⟨wr.heap.size,7,none⟩=some (.bool X.li)/\z.cell? ⟨wr.heap.size,8,none⟩=some (.bool X.hh)) (z5.setCells (z1.heap.size) 0 [.bool X.g1,.slice a1 Y.l1 f1,.slice a2 Y.m1 f2,.bool X.g2,.slice a3 Y.l2 f3,.slice a4 Y.m2 f4,.bool X.li,.bool X.hh]):=⟨(hcl 0).trans Tz5.out.1,(hcl 1).trans Tz5.out.2.1,(hcl 2).trans Tz5.out.2.2.1,(hcl 3).trans Tz5.out.2.2.2.1,(hcl 4).trans Tz5.out.2.2.2.2.1,(hcl 5).trans Tz5.out.2.2.2.2.2.1,(hcl 6).trans Tz5.out.2.2.2.2.2.2.1,(hcl 7).trans Tz5.out.2.2.2.2.2.2.2.1,(hcl 8).trans Tz5.out.2.2.2.2.2.2.2.2⟩
        have Pe:SlA (z5.setCells (z1.heap.size) 0 [.bool X.g1,.slice a1 Y.l1 f1,.slice a2 Y.m1 f2,.bool X.g2,.slice a3 Y.l2 f3,.slice a4 Y.m2 f4,.bool X.li,.bool X.hh]) (fun b=>wr.heap.size<=b/\b<(z5.setCells (z1.heap.size) 0 [.bool X.g1,.slice a1 Y.l1 f1,.slice a2 Y.m1 f2,.bool X.g2,.slice a3 Y.l2 f3,.slice a4 Y.m2 f4,.bool X.li,.bool X.hh]).heap.size) (.slice a1 Y.l1 f1) X.nu1/\SlA (z5.setCells (z1.heap.size) 0 [.bool X.g1,.slice a1 Y.l1 f1,.slice a2 Y.m1 f2,.bool X.g2,.slice a3 Y.l2 f3,.slice a4 Y.m2 f4,.bool X.li,.bool X.hh]) (fun b=>wr.heap.size<=b/\b<(z5.setCells (z1.heap.size) 0 [.bool X.g1,.slice a1 Y.l1 f1,.slice a2 Y.m1 f2,.bool X.g2,.slice a3 Y.l2 f3,.slice a4 Y.m2 f4,.bool X.li,.bool X.hh]).heap.size) (.slice a2 Y.m1 f2) X.de1/\SlA (z5.setCells (z1.heap.size) 0 [.bool X.g1,.slice a1 Y.l1 f1,.slice a2 Y.m1 f2,.bool X.g2,.slice a3 Y.l2 f3,.slice a4 Y.m2 f4,.bool X.li,.bool X.hh]) (fun b=>wr.heap.size<=b/\b<(z5.setCells (z1.heap.size) 0 [.bool X.g1,.slice a1 Y.l1 f1,.slice a2 Y.m1 f2,.bool X.g2,.slice a3 Y.l2 f3,.slice a4 Y.m2 f4,.bool X.li,.bool X.hh]).heap.size) (.slice a3 Y.l2 f3) X.nu2/\SlA (z5.setCells (z1.heap.size) 0 [.bool X.g1,.slice a1 Y.l1 f1,.slice a2 Y.m1 f2,.bool X.g2,.slice a3 Y.l2 f3,.slice a4 Y.m2 f4,.bool X.li,.bool X.hh]) (fun b=>wr.heap.size<=b/\b<(z5.setCells (z1.heap.size) 0 [.bool X.g1,.slice a1 Y.l1 f1,.slice a2 Y.m1 f2,.bool X.g2,.slice a3 Y.l2 f3,.slice a4 Y.m2 f4,.bool X.li,.bool X.hh]).heap.size) (.slice a4 Y.m2 f4) X.de2:=⟨za1 hlo Gz5.size P3z5.out.1,za1 hlo Gz5.size P3z5.out.2,za1 hlo Gz5.size P7z5.out.1,za1 hlo Gz5.size P7z5.out.2⟩
        refine wpAnyH_ready (rs:=[16]) (by kernel_rfl) (by simp) ?_
        refine AllReadyH.cons rfl ?_ AllReadyH.nil
        intro K' hKK
        rw[if_pos (by rfl)]
        refine wp_store_mid 92 (.tmp 6) (.tmp 36) rfl (z1.heap.size) 0 #[.bool X.g1,.slice a1 Y.l1 f1,.slice a2 Y.m1 f2,.bool X.g2,.slice a3 Y.l2 f3,.slice a4 Y.m2 f4,.bool X.li,.bool X.hh] rfl rfl (zfs Nz5) (by kernel_rfl) (by simp[Value.oneCell']) ?_
        refine hKK.out _ _ hTe (fun _=>?_)
        clear hKK K'
        refine wpAnyH_done (by kernel_rfl) ?_ _
        try simp only[Act.put,List.getElem_toArray,List.getElem_cons_succ,List.getElem_cons_zero,List.setIfInBounds_toArray,List.set_cons_zero,List.set_cons_succ]
        go_wp2_with fail
        go_meet
        case rel=>exact⟨z1.heap.size,a1,a2,a3,a4,f1,f2,f3,f4,rfl,M8.lt,hlo,M8,Pe,hTe.1,gs1⟩
     ·go_simp
      obtain⟨z6,hz6⟩:∃v,v=z0.alloc (.cells zw8 92):=⟨_,rfl⟩
      rw[<-hz6]
      have Gz6:Below wr.heap.size wr z6:=by rw[hz6];exact Gz0.alloc Gz0.size _
      have Lz6:wr.heap.size<z6.heap.size:=by rw[hz6];simp;omega
      have Tz6:=hid_of (k5.out _ z6 Tz0.out Lz0 (by rw[hz6];exact zaa _ _))
      have Nz6:BlkI z6 z0.heap.size 92 zw8:=by rw[hz6];exact heap_alloc_last _ _
      have hlo:wr.heap.size<=z0.heap.size:=Gz0.size
      clear hz6
      have H1:=Tz6.out
      refine hKK.out _ _ H1 (fun hHeldz6=>?_)
      clear hKK K' H1
      refine wpAnyH_ready (rs:=[3]) (by kernel_rfl) (by simp) ?_
      refine AllReadyH.cons rfl (fun K' hKK=>?_) AllReadyH.nil
      ·go_simp
       refine(hKl'.out _ (hbw.trans (Gz6.mono hws))).mono ?_
       rintro e z7 ⟨a1,f1,a2,f2,rfl,hA1,hA2,hbz7⟩
       have Gz7:Below wr.heap.size wr z7:=Gz6.trans (hbz7.mono Gz6.size)
       have Lz7:wr.heap.size<z7.heap.size:=Nat.lt_of_lt_of_le Lz6 hbz7.size
       have Tz7:=hid_of (k5.out _ _ Tz6.out Lz6 hbz7)
       have P3z7:Hid (SlA z7 (Fr wr.heap.size z7 (some z0.heap.size)) (.slice a1 Y.l1 f1) X.nu1/\SlA z7 (Fr wr.heap.size z7 (some z0.heap.size)) (.slice a2 Y.m1 f2) X.de1):=⟨zbd hA1 Gz6.size (fun b hb=>by have:=Option.some.inj hb;have:=Nz6.lt;omega),zbd hA2 Gz6.size (fun b hb=>by have:=Option.some.inj hb;have:=Nz6.lt;omega)⟩
       clear hA1 hA2
       have Nz7:=Nz6.below hbz7
       have H1:=Tz7.out
       refine hKK.out _ _ H1 (fun hHeldz7=>?_)
       clear hKK K' H1
       refine wpAnyH_ready (rs:=[7]) (by kernel_rfl) (by simp) ?_
       refine AllReadyH.cons rfl (fun K' hKK=>?_) AllReadyH.nil
       ·go_simp
        refine(hKr'.out _ (hbw.trans (Gz7.mono hws))).mono ?_
        rintro e z8 ⟨a3,f3,a4,f4,rfl,hA3,hA4,hbz8⟩
        have Gz8:Below wr.heap.size wr z8:=Gz7.trans (hbz8.mono Gz7.size)
        have Lz8:wr.heap.size<z8.heap.size:=Nat.lt_of_lt_of_le Lz7 hbz8.size
        have Tz8:=hid_of (k5.out _ _ Tz7.out Lz7 hbz8)
        have P7z8:Hid (SlA z8 (Fr wr.heap.size z8 (some z0.heap.size)) (.slice a3 Y.l2 f3) X.nu2/\SlA z8 (Fr wr.heap.size z8 (some z0.heap.size)) (.slice a4 Y.m2 f4) X.de2):=⟨zbd hA3 Gz7.size (fun b hb=>by have:=Option.some.inj hb;have:=Nz7.lt;omega),zbd hA4 Gz7.size (fun b hb=>by have:=Option.some.inj hb;have:=Nz7.lt;omega)⟩
        clear hA3 hA4
        have P3z8:Hid (SlA z8 (Fr wr.heap.size z8 (some z0.heap.size)) (.slice a1 Y.l1 f1) X.nu1/\SlA z8 (Fr wr.heap.size z8 (some z0.heap.size)) (.slice a2 Y.m1 f2) X.de1):=⟨zbr P3z7.out.1 hbz8,zbr P3z7.out.2 hbz8⟩
        have Nz8:=Nz7.below hbz8
        have H1:=Tz8.out
        refine hKK.out _ _ H1 (fun hHeldz8=>?_)
        clear hKK K' H1
        refine wpAnyH_take (i:=14) (v:=.agg #[.bool X.g1,.slice a1 Y.l1 f1,.slice a2 Y.m1 f2,.bool X.g2,.slice a3 Y.l2 f3,.slice a4 Y.m2 f4,.bool X.li,.bool X.hh]) rfl (by kernel_rfl) (by kernel_rfl) (by kernel_rfl) (fun _ _ _ h=>h) (.inl ⟨by rfl,fun z hSz=>by go_simp⟩) hHeldz8 ?_
        simp only[Act.put]
        have M8:BlkI (z8.setCells (z0.heap.size) 0 [.bool X.g1,.slice a1 Y.l1 f1,.slice a2 Y.m1 f2,.bool X.g2,.slice a3 Y.l2 f3,.slice a4 Y.m2 f4,.bool X.li,.bool X.hh]) (z0.heap.size) 92 #[.bool X.g1,.slice a1 Y.l1 f1,.slice a2 Y.m1 f2,.bool X.g2,.slice a3 Y.l2 f3,.slice a4 Y.m2 f4,.bool X.li,.bool X.hh]:=set8 Nz8 (.bool X.g1) (.slice a1 Y.l1 f1) (.slice a2 Y.m1 f2) (.bool X.g2) (.slice a3 Y.l2 f3) (.slice a4 Y.m2 f4) (.bool X.li) (.bool X.hh)
        obtain⟨gs1,gs2,gs3⟩:=zae wr.heap.size (z0.heap.size) hlo [.bool X.g1,.slice a1 Y.l1 f1,.slice a2 Y.m1 f2,.bool X.g2,.slice a3 Y.l2 f3,.slice a4 Y.m2 f4,.bool X.li,.bool X.hh] 0 wr z8 Gz8
        have hb9:=gs3 wr.heap.size (by omega)
        have hcl:∀j:Nat,(z8.setCells (z0.heap.size) 0 [.bool X.g1,.slice a1 Y.l1 f1,.slice a2 Y.m1 f2,.bool X.g2,.slice a3 Y.l2 f3,.slice a4 Y.m2 f4,.bool X.li,.bool X.hh]).cell? ⟨wr.heap.size,j,none⟩=z8.cell? ⟨wr.heap.size,j,none⟩:=fun j=>World.cell?_of_block hb9
        have hTe:(fun z=>z.cell? ⟨wr.heap.size,0,none⟩=some (.string X.m)/\z.cell? ⟨wr.heap.size,1,none⟩=some (.bool X.g1)/\z.cell? ⟨wr.heap.size,2,none⟩=some (.slice Y.q1 Y.l1 Y.c1)/\z.cell? ⟨wr.heap.size,3,none⟩=some (.slice Y.p1 Y.m1 Y.e1)/\z.cell? ⟨wr.heap.size,4,none⟩=some (.bool X.g2)/\z.cell? ⟨wr.heap.size,5,none⟩=some (.slice Y.q2 Y.l2 Y.c2)/\z.cell? ⟨wr.heap.size,6,none⟩=some (.slice Y.p2 Y.m2 Y.e2)/\z.cell? ⟨wr.heap.size,7,none⟩=some (.bool X.li)/\z.cell? ⟨wr.heap.size,8,none⟩=some (.bool X.hh)) (z8.setCells (z0.heap.size) 0 [.bool X.g1,.slice a1 Y.l1 f1,.slice a2 Y.m1 f2,.bool X.g2,.slice a3 Y.l2 f3,.slice a4 Y.m2 f4,.bool X.li,.bool X.hh]):=⟨(hcl 0).trans Tz8.out.1,(hcl 1).trans Tz8.out.2.1,(hcl 2).trans Tz8.out.2.2.1,(hcl 3).trans Tz8.out.2.2.2.1,(hcl 4).trans Tz8.out.2.2.2.2.1,(hcl 5).trans Tz8.out.2.2.2.2.2.1,(hcl 6).trans Tz8.out.2.2.2.2.2.2.1,(hcl 7).trans Tz8.out.2.2.2.2.2.2.2.1,(hcl 8).trans Tz8.out.2.2.2.2.2.2.2.2⟩
        have Pe:SlA (z8.setCells (z0.heap.size) 0 [.bool X.g1,.slice a1 Y.l1 f1,.slice a2 Y.m1 f2,.bool X.g2,.slice a3 Y.l2 f3,.slice a4 Y.m2 f4,.bool X.li,.bool X.hh]) (fun b=>wr.heap.size<=b/\b<(z8.setCells (z0.heap.size) 0 [.bool X.g1,.slice a1 Y.l1 f1,.slice a2 Y.m1 f2,.bool X.g2,.slice a3 Y.l2 f3,.slice a4 Y.m2 f4,.bool X.li,.bool X.hh]).heap.size) (.slice a1 Y.l1 f1) X.nu1/\SlA (z8.setCells (z0.heap.size) 0 [.bool X.g1,.slice a1 Y.l1 f1,.slice a2 Y.m1 f2,.bool X.g2,.slice a3 Y.l2 f3,.slice a4 Y.m2 f4,.bool X.li,.bool X.hh]) (fun b=>wr.heap.size<=b/\b<(z8.setCells (z0.heap.size) 0 [.bool X.g1,.slice a1 Y.l1 f1,.slice a2 Y.m1 f2,.bool X.g2,.slice a3 Y.l2 f3,.slice a4 Y.m2 f4,.bool X.li,.bool X.hh]).heap.size) (.slice a2 Y.m1 f2) X.de1/\SlA (z8.setCells (z0.heap.size) 0 [.bool X.g1,.slice a1 Y.l1 f1,.slice a2 Y.m1 f2,.bool X.g2,.slice a3 Y.l2 f3,.slice a4 Y.m2 f4,.bool X.li,.bool X.hh]) (fun b=>wr.heap.size<=b/\b<(z8.setCells (z0.heap.size) 0 [.bool X.g1,.slice a1 Y.l1 f1,.slice a2 Y.m1 f2,.bool X.g2,.slice a3 Y.l2 f3,.slice a4 Y.m2 f4,.bool X.li,.bool X.hh]).heap.size) (.slice a3 Y.l2 f3) X.nu2/\SlA (z8.setCells (z0.heap.size) 0 [.bool X.g1,.slice a1 Y.l1 f1,.slice a2 Y.m1 f2,.bool X.g2,.slice a3 Y.l2 f3,.slice a4 Y.m2 f4,.bool X.li,.bool X.hh]) (fun b=>wr.heap.size<=b/\b<(z8.setCells (z0.heap.size) 0 [.bool X.g1,.slice a1 Y.l1 f1,.slice a2 Y.m1 f2,.bool X.g2,.slice a3 Y.l2 f3,.slice a4 Y.m2 f4,.bool X.li,.bool X.hh]).heap.size) (.slice a4 Y.m2 f4) X.de2:=⟨za1 hlo Gz8.size P3z8.out.1,za1 hlo Gz8.size P3z8.out.2,za1 hlo Gz8.size P7z8.out.1,za1 hlo Gz8.size P7z8.out.2⟩
        refine wpAnyH_ready (rs:=[16]) (by kernel_rfl) (by simp) ?_
        refine AllReadyH.cons rfl ?_ AllReadyH.nil
        intro K' hKK
        rw[if_pos (by rfl)]
        refine wp_store_mid 92 (.tmp 6) (.tmp 36) rfl (z0.heap.size) 0 #[.bool X.g1,.slice a1 Y.l1 f1,.slice a2 Y.m1 f2,.bool X.g2,.slice a3 Y.l2 f3,.slice a4 Y.m2 f4,.bool X.li,.bool X.hh] rfl rfl (zfs Nz8) (by kernel_rfl) (by simp[Value.oneCell']) ?_
        refine hKK.out _ _ hTe (fun _=>?_)
        clear hKK K'
        refine wpAnyH_done (by kernel_rfl) ?_ _
        try simp only[Act.put,List.getElem_toArray,List.getElem_cons_succ,List.getElem_cons_zero,List.setIfInBounds_toArray,List.set_cons_zero,List.set_cons_succ]
        go_wp2_with fail
        go_meet
        case rel=>exact⟨z0.heap.size,a1,a2,a3,a4,f1,f2,f3,f4,rfl,M8.lt,hlo,M8,Pe,hTe.1,gs1⟩
    case rest=>
     obtain⟨g6,a1,a2,a3,a4,f1,f2,f3,f4,rfl,hg6,hg6l,hB6,⟨Q1,Q2,Q3,Q4⟩,hm,hbx⟩:=hcut
     clear k5 hKl' hKr' hTl hzl hsl hx
     have hsx:=hbx.size
     have u0:wc.cell? ⟨g6,0,none⟩=some (.bool X.g1):=hB6.cell 0
     have u1:wc.cell? ⟨g6,1,none⟩=some (.slice a1 Y.l1 f1):=hB6.cell 1
     have u2:wc.cell? ⟨g6,2,none⟩=some (.slice a2 Y.m1 f2):=hB6.cell 2
     have u3:wc.cell? ⟨g6,3,none⟩=some (.bool X.g2):=hB6.cell 3
     have u4:wc.cell? ⟨g6,4,none⟩=some (.slice a3 Y.l2 f3):=hB6.cell 4
     have u5:wc.cell? ⟨g6,5,none⟩=some (.slice a4 Y.m2 f4):=hB6.cell 5
     have u6:wc.cell? ⟨g6,6,none⟩=some (.bool X.li):=hB6.cell 6
     have u7:wc.cell? ⟨g6,7,none⟩=some (.bool X.hh):=hB6.cell 7
     have hGc:=(hbx.block _ hGr).trans hblk
     have cG:wc.cell? ⟨G,8,none⟩=some v:=by rw[cell_of_row _ _ _ _ _ _ hGc];rfl
     have hown5:wc.ownsRow (w.heap.size+2) 94 9 v k (L.flatMap sideC):=hown.kept (row:=none) ⟨hbx.os,hbx.tape,hbx.output,hbx.size,fun b hb _=>hbx.block b hb⟩ (by cases hv:v.ownBlock with | none=>exact .inl rfl | some _=>exact .inr (by simp))
     have hrl:=hown.lt
     have one9:∀u∈([.string X.m,.bool X.g1,.slice a1 Y.l1 f1,.slice a2 Y.m1 f2,.bool X.g2,.slice a3 Y.l2 f3,.slice a4 Y.m2 f4,.bool X.li,.bool X.hh]:List Value),u.oneCell'=true:=Si.one ((X,⟨a1,Y.l1,f1,a2,Y.m1,f2,a3,Y.l2,f3,a4,Y.m2,f4⟩):Si × Sv).1 ((X,⟨a1,Y.l1,f1,a2,Y.m1,f2,a3,Y.l2,f3,a4,Y.m2,f4⟩):Si × Sv).2
     have hHB:=hid_of hB6
     have hHQ:Hid (SlA wc (fun b=>wr.heap.size<=b/\b<wc.heap.size) (.slice a1 Y.l1 f1) X.nu1/\SlA wc (fun b=>wr.heap.size<=b/\b<wc.heap.size) (.slice a2 Y.m1 f2) X.de1/\SlA wc (fun b=>wr.heap.size<=b/\b<wc.heap.size) (.slice a3 Y.l2 f3) X.nu2/\SlA wc (fun b=>wr.heap.size<=b/\b<wc.heap.size) (.slice a4 Y.m2 f4) X.de2):=⟨Q1,Q2,Q3,Q4⟩
     clear hB6 Q1 Q2 Q3 Q4
     go_wp2_with (at_builtin;(refine wpList_append_lies _ rfl _ _ 45 rfl (w.heap.size+2) 94 i0 (.agg #[.string ⟨#[]⟩,.bool false,.slice none 0 0,.slice none 0 0,.bool false,.slice none 0 0,.slice none 0 0,.bool false,.bool false]) 9 136 Tryz.underlying45 hi hz0 hz1 hz2 rfl (by decide) v k (L.flatMap sideC) rfl (hown5.alloc _) ⟨wc.heap.size,0,none⟩ 1 1 [.string X.m,.bool X.g1,.slice a1 Y.l1 f1,.slice a2 Y.m1 f2,.bool X.g2,.slice a3 Y.l2 f3,.slice a4 Y.m2 f4,.bool X.li,.bool X.hh] rfl rfl (World.news_of_block (heap_alloc_last wc (.cells #[.string X.m,.bool X.g1,.slice a1 Y.l1 f1,.slice a2 Y.m1 f2,.bool X.g2,.slice a3 Y.l2 f3,.slice a4 Y.m2 f4,.bool X.li,.bool X.hh] 94))) one9 (by decide) (by unfold maxLen;omega) (by omega) (by simp;omega) _ rfl ?_;intro g cap w7 hown7 hgrow7 hat7 hlt7;have c67:w7.cell? ⟨G,8,none⟩=some v:=hgrow7.cell ((World.cell?_alloc_lt _ _ _ (by show G<_;omega)).trans cG) (fun e=>hne e.symm);obtain⟨m1,m2,m3,m4,m5,m6,m7,m8⟩:=zau (j:=8) (u:=.slice (some ⟨g,0,none⟩) (k+1) cap) hGr (by omega:(w.heap.size+2)<=wr.heap.size) (Below.refl _ wr) hbx hgrow7 hat7 hlt7 hrl hne rfl;have f67:∀j,w7.frozen? ⟨G,j,none⟩=false:=fun j=>frozen_of_row _ _ _ _ _ (m5 _ _ _ hblk)))
     go_roundw
     case rel=>
      refine⟨k+1,by omega,by go_num,.slice (some ⟨g,0,none⟩) (k+1) cap,L++[((X,⟨a1,Y.l1,f1,a2,Y.m1,f2,a3,Y.l2,f3,a4,Y.m2,f4⟩):Si × Sv)],by simp[hLk],zab (m5 _ _ _ hblk),?_,m6,?_,hA3.keep m1 m2,trivial,?_,by omega,?_,?_⟩
      ·rw[List.flatMap_append,List.flatMap_singleton]
       exact zak hown7 m6
      ·intro i x hi
       by_cases hik:i<k
       ·rw[List.getElem?_append_left (by omega)] at hi
        exact⟨(hLx i x hi).1,(hLx i x hi).2.keep m1 m2⟩
       ·rw[List.getElem?_append_right (by omega)] at hi
        have hi0:i - L.length=0:=by
         rcases Nat.eq_zero_or_pos (i - L.length) with h | h
         ·exact h
         ·rw[List.getElem?_eq_none (by simp;omega)] at hi
          cases hi
        rw[hi0] at hi
        simp only[List.getElem?_cons_zero,Option.some.injEq] at hi
        subst hi
        have:i=k:=by omega
        subst this
        exact⟨hX.symm,hHQ.out.1.keep m3 m4,hHQ.out.2.1.keep m3 m4,hHQ.out.2.2.1.keep m3 m4,hHQ.out.2.2.2.keep m3 m4,hSk⟩
      ·refine Below.setCell ?_ (by show w.heap.size<=G;omega) _
       exact(((hbw.trans (hbx.mono hws)).alloc (by omega) _).grown hgrow7 (by simp;omega) (fun b hb=>by have:=(hrl b hb).1;omega))
      ·rw[m8 (w.heap.size+1) (by omega) (by omega) (fun e=>by have:=(hrl _ e).1;omega)]
       exact hres
      ·intro j u hu
       exact(World.cell?_of_block (m8 w.heap.size (by omega) (by omega) (fun e=>by have:=(hrl _ e).1;omega))).trans (hbox.out j u hu)
     case measure=>simp[intOf];omega
   ·have hk2:nb=k:=by omega
    have hnk:¬(k:Int)<(nb:Int):=by omega
    subst hk2
    have hvf:∃q c,v=.slice q nb c:=by
     rcases hown.2 with⟨h,h0⟩ | ⟨g,cp,cur,h,_⟩
     ·exact⟨none,0,by rw[h,h0]⟩
     ·exact⟨_,_,h⟩
    obtain⟨q3,c3,rfl⟩:=hvf
    have B4:SisA wr (Free (w.heap.size+2) wr G (.slice none 0 0)) q3 nb bs:=by
     by_cases h0:nb=0
     ·exact .inl h0
     ·refine .inr ?_
      obtain⟨g,cp,hg,hge,hgl⟩:=hown.form (by omega)
      simp only[Value.slice.injEq] at hg
      obtain⟨rfl,_,rfl⟩:=hg
      have hgG:g≠G:=fun e=>hne (by rw[<-e];rfl)
      refine⟨g,0,rfl,⟨hge,hgl,hgG,by simp[Value.ownBlock]⟩,fun i=>(L.getD i default).2,fun i hi=>?_⟩
      have hiL:i<L.length:=by omega
      have hgi:L[i]?=some (L.getD i default):=by simp[List.getD,hiL]
      have hown':wr.ownsRow (w.heap.size+2) 94 9 (.slice (some ⟨g,0,none⟩) nb c3) nb (L.flatMap sideC):=hown
      have hc:=zam (s:=9) (f:=sideC) (fun _=>rfl) hown' hgi
      obtain⟨hl1,hl2⟩:=hLx i _ hgi
      refine⟨?_,?_⟩
      ·rw[<-hl1]
       exact hc
      ·rw[<-hl1]
       exact⟨hl2.1.keep (Keeps.refl _ _) (fun b hb=>⟨hb.1,hb.2.1,hb.2.2.1,by simp[Value.ownBlock]⟩),hl2.2.1.keep (Keeps.refl _ _) (fun b hb=>⟨hb.1,hb.2.1,hb.2.2.1,by simp[Value.ownBlock]⟩),hl2.2.2.1.keep (Keeps.refl _ _) (fun b hb=>⟨hb.1,hb.2.1,hb.2.2.1,by simp[Value.ownBlock]⟩),hl2.2.2.2.1.keep (Keeps.refl _ _) (fun b hb=>⟨hb.1,hb.2.1,hb.2.2.1,by simp[Value.ownBlock]⟩),hl2.2.2.2.2⟩
    have B3:=hA3.keep (Keeps.refl _ _) (fun b (hb:Free (w.heap.size+2) wr G (.slice q3 nb c3) b)=>(⟨hb.1,hb.2.1,hb.2.2.1,by simp[Value.ownBlock]⟩:Free (w.heap.size+2) wr G (.slice none 0 0) b))
    have k9:wr.cell? ⟨w.heap.size,9,none⟩=some (.slice cq nc cc):=by have:=hbox.out 9 _ rfl;simpa using this
    have hblk0:wr.heap[G]?=some (.cells #[.int .i64 e'.k,.int .i64 e'.f,.bool e'.neg,.slice e'.aq e'.an e'.ac,.slice e'.cq e'.cn e'.cc,.string e'.m,.slice e'.sq e'.sn e'.sc,.bool st,.slice q3 nb c3,.slice none 0 0] 48 (0,0)):=hblk
    have hWc:=hbw
    have hG2:=hGr
    have hresc:=hres
    have hboxc:=hbox
    clear hA3 hLx hown hne hblk hbw hGr hres hbox hLk hi hz0 hz1 hz2 hL hR hSm hp hlt p8 hk
    obtain⟨i0,hi,hz0,hz1,hz2⟩:=info_parts (show(Tryz.prog.info? 127).map (fun i=>(i.zero,i.size,i.bytes))=some (some (.agg #[.int .i64 0,.int .i64 0,.bool false,.slice none 0 0,.slice none 0 0,.string ⟨#[]⟩,.slice none 0 0,.bool false]),8,120) by kernel_rfl)
    go_wp2_with fail
    go_loopw [50] (fun i wr=>∃k:Nat,k<=nc/\i=.int .i64 k/\∃(v:Value) (L:List (Co × Nd)),L.length=k/\wr.heap[G]?=some (.cells #[.int .i64 e'.k,.int .i64 e'.f,.bool e'.neg,.slice e'.aq e'.an e'.ac,.slice e'.cq e'.cn e'.cc,.string e'.m,.slice e'.sq e'.sn e'.sc,.bool st,.slice q3 nb c3,v] 48 (0,0))/\wr.ownsRow (w.heap.size+2) 127 8 v k (L.flatMap condC)/\v.ownBlock≠some G/\(∀i x,L[i]?=some x->x.1=cs i/\ExA wr (Free (w.heap.size+2) wr G v) x.1.x x.2)/\ExA wr (Free (w.heap.size+2) wr G v) goal e'/\SisA wr (Free (w.heap.size+2) wr G v) q3 nb bs/\Below w.heap.size w wr/\G<wr.heap.size/\wr.heap[w.heap.size+1]?=some (.cells zw10 48 (0,0))/\Hid (wr.rangeAt w.heap.size 0 [.int .i64 d.k,.int .i64 d.f,.bool d.neg,.slice d.aq d.an d.ac,.slice d.cq d.cn d.cc,.string d.m,.slice d.sq d.sn d.sc,.bool st,.slice bq nb bc,.slice cq nc cc])) (fun i _=>nc - (intOf i).toNat)
    case atStart=>
     exact⟨0,Nat.zero_le _,rfl,.slice none 0 0,[],rfl,hblk0,World.ownsRow_nil _ _ _ _,by simp[Value.ownBlock],fun i x h=>by simp at h,B3,B4,hWc,hG2,hresc,hboxc⟩
    case round=>
     clear hblk0 hG2 hWc hresc hboxc B3 B4 k9
     obtain⟨k,hk,rfl,v,L,hLk,hblk,hown,hne,hLx,hA3,hA4,hbw,hGr,hres,hbox⟩:=hrel
     have hws:=hbw.size
     by_cases hlt:k<nc
     ·have hlt':(k:Int)<(nc:Int):=by omega
      have hKk:=hK k hlt
      rcases hb.out with h0 | ⟨b,o,hq,hbb,hcx⟩
      ·omega
      have hx:=rangeAt_below (hcx k hlt) hbw hbb
      clear hcx
      generalize hX:cs k=X at*
      generalize hY:ys k=Y at*
      rw[hq] at hbox ⊢
      obtain⟨de',hu',hd'⟩:=cond_row
      have hHu':=hid_of hu'
      clear hu'
      go_wp2_with (first
       | (with_reducible refine wpList_load_mid ?_ 127 (.tmp 52) ?_ b (o+k*8) ?_ [.int .i64 Y.k,.int .i64 Y.f,.bool Y.neg,.slice Y.aq Y.an Y.ac,.slice Y.cq Y.cn Y.cc,.string Y.m,.slice Y.sq Y.sn Y.sc,.bool X.st] de' ?_ hHu'.out hd' ?_ ?_
          rotate_left 1
          ·with_reducible rfl
          ·rfl
          ·exact hx
          ·exact zdd
          rotate_left 1
          ·rfl)
       | (with_reducible refine wpList_store_new ?_ 127 (.tmp 8) (.tmp 53) ?_ #[.int .i64 Y.k,.int .i64 Y.f,.bool Y.neg,.slice Y.aq Y.an Y.ac,.slice Y.cq Y.cn Y.cc,.string Y.m,.slice Y.sq Y.sn Y.sc,.bool X.st] wr.heap.size rfl ?_ ?_ ?_ ?_ ?_ ?_
          rotate_left 1
          ·with_reducible rfl
          ·rfl
          ·rfl
          ·rfl
          ·exact zdd
          ·exact all_oneCell_toArray (Co.one X Y)
          rotate_left 1
          ·rfl))
      simp only[Act.put]
      have hT:(fun z=>z.cell? ⟨wr.heap.size,0,none⟩=some (.int .i64 Y.k)/\z.cell? ⟨wr.heap.size,1,none⟩=some (.int .i64 Y.f)/\z.cell? ⟨wr.heap.size,2,none⟩=some (.bool Y.neg)/\z.cell? ⟨wr.heap.size,3,none⟩=some (.slice Y.aq Y.an Y.ac)/\z.cell? ⟨wr.heap.size,4,none⟩=some (.slice Y.cq Y.cn Y.cc)/\z.cell? ⟨wr.heap.size,5,none⟩=some (.string Y.m)/\z.cell? ⟨wr.heap.size,6,none⟩=some (.slice Y.sq Y.sn Y.sc)/\z.cell? ⟨wr.heap.size,7,none⟩=some (.bool X.st)) (wr.alloc (.cells #[.int .i64 Y.k,.int .i64 Y.f,.bool Y.neg,.slice Y.aq Y.an Y.ac,.slice Y.cq Y.cn Y.cc,.string Y.m,.slice Y.sq Y.sn Y.sc,.bool X.st] 127)):=⟨by simp,by simp,by simp,by simp,by simp,by simp,by simp,by simp⟩
      have hz:Below wr.heap.size wr (wr.alloc (.cells #[.int .i64 Y.k,.int .i64 Y.f,.bool Y.neg,.slice Y.aq Y.an Y.ac,.slice Y.cq Y.cn Y.cc,.string Y.m,.slice Y.sq Y.sn Y.sc,.bool X.st] 127)).drew:=(zaa _ _).drew
      have hzs:(wr.alloc (.cells #[.int .i64 Y.k,.int .i64 Y.f,.bool Y.neg,.slice Y.aq Y.an Y.ac,.slice Y.cq Y.cn Y.cc,.string Y.m,.slice Y.sq Y.sn Y.sc,.bool X.st] 127)).drew.heap.size=wr.heap.size+1:=by show(wr.heap.push _).size=_;simp
      have hbz:Below w.heap.size w (wr.alloc (.cells #[.int .i64 Y.k,.int .i64 Y.f,.bool Y.neg,.slice Y.aq Y.an Y.ac,.slice Y.cq Y.cn Y.cc,.string Y.m,.slice Y.sq Y.sn Y.sc,.bool X.st] 127)).drew:=hbw.trans (hz.mono hbw.size)
      have c6:(wr.alloc (.cells #[.int .i64 Y.k,.int .i64 Y.f,.bool Y.neg,.slice Y.aq Y.an Y.ac,.slice Y.cq Y.cn Y.cc,.string Y.m,.slice Y.sq Y.sn Y.sc,.bool X.st] 127)).cell? ⟨G,9,none⟩=some v:=by rw[World.cell?_alloc_lt _ _ _ (by exact hGr),cell_of_row _ _ _ _ _ _ hblk];rfl
      have hrl:=hown.lt
      refine wp_region_held_drew (S:=fun z=>z.cell? ⟨wr.heap.size,0,none⟩=some (.int .i64 Y.k)/\z.cell? ⟨wr.heap.size,1,none⟩=some (.int .i64 Y.f)/\z.cell? ⟨wr.heap.size,2,none⟩=some (.bool Y.neg)/\z.cell? ⟨wr.heap.size,3,none⟩=some (.slice Y.aq Y.an Y.ac)/\z.cell? ⟨wr.heap.size,4,none⟩=some (.slice Y.cq Y.cn Y.cc)/\z.cell? ⟨wr.heap.size,5,none⟩=some (.string Y.m)/\z.cell? ⟨wr.heap.size,6,none⟩=some (.slice Y.sq Y.sn Y.sc)/\z.cell? ⟨wr.heap.size,7,none⟩=some (.bool X.st)) (by kernel_rfl) hT (fun hHeld=>?_)
      refine wpAnyH_take (i:=0) (v:=.pointer (some ⟨G,9,none⟩)) rfl (by kernel_rfl) (by kernel_rfl) (by kernel_rfl) (fun _ _ _ h=>h) (.inl ⟨by rfl,fun z hSz=>by go_simp⟩) hHeld ?_
      simp only[Act.put]
      refine wpAnyH_take (i:=2) (v:=.pointer (some ⟨wr.heap.size,0,none⟩)) rfl (by kernel_rfl) (by kernel_rfl) (by kernel_rfl) (fun _ _ _ h=>h) (.inl ⟨by rfl,fun z hSz=>by go_simp⟩) hHeld ?_
      simp only[Act.put]
      refine wpAnyH_take (i:=3) (v:=.agg #[.int .i64 Y.k,.int .i64 Y.f,.bool Y.neg,.slice Y.aq Y.an Y.ac,.slice Y.cq Y.cn Y.cc,.string Y.m,.slice Y.sq Y.sn Y.sc]) rfl (by kernel_rfl) (by kernel_rfl) (by kernel_rfl) (fun _ _ _ h=>h) (.inl ⟨by rfl,fun z hSz=>by go_simp⟩) hHeld ?_
      simp only[Act.put]
      refine wpAnyH_take (i:=5) (v:=.pointer (some ⟨wr.heap.size,7,none⟩)) rfl (by kernel_rfl) (by kernel_rfl) (by kernel_rfl) (fun _ _ _ h=>h) (.inl ⟨by rfl,fun z hSz=>by go_simp⟩) hHeld ?_
      simp only[Act.put]
      refine wpAnyH_take (i:=6) (v:=.bool X.st) rfl (by kernel_rfl) (by kernel_rfl) (by kernel_rfl) (fun _ _ _ h=>h) (.inl ⟨by rfl,fun z hSz=>by go_simp⟩) hHeld ?_
      simp only[Act.put]
      refine wpAnyH_ready (rs:=[1,4]) (by kernel_rfl) (by simp) ?_
      refine AllReadyH.cons rfl (fun K hKK=>?w17) (AllReadyH.cons rfl (fun K hKK=>?w18) AllReadyH.nil)
      case' w17=>
       go_simp
       refine hKK.out _ _ hHeld (fun _=>?_)
       clear hKK K
       refine wpAnyH_ready (rs:=[4]) (by kernel_rfl) (by simp) ?_
       refine AllReadyH.cons rfl (fun K hKK=>?_) AllReadyH.nil
       go_simp
       refine(hKk _ hbz).mono ?_
       rintro e w5 ⟨f',rfl,hA51,hb5⟩
       have hs5:=hb5.size
       have hT5:(fun z=>z.cell? ⟨wr.heap.size,0,none⟩=some (.int .i64 Y.k)/\z.cell? ⟨wr.heap.size,1,none⟩=some (.int .i64 Y.f)/\z.cell? ⟨wr.heap.size,2,none⟩=some (.bool Y.neg)/\z.cell? ⟨wr.heap.size,3,none⟩=some (.slice Y.aq Y.an Y.ac)/\z.cell? ⟨wr.heap.size,4,none⟩=some (.slice Y.cq Y.cn Y.cc)/\z.cell? ⟨wr.heap.size,5,none⟩=some (.string Y.m)/\z.cell? ⟨wr.heap.size,6,none⟩=some (.slice Y.sq Y.sn Y.sc)/\z.cell? ⟨wr.heap.size,7,none⟩=some (.bool X.st)) w5:=⟨(hb5.cell (by show wr.heap.size<_;omega)).trans hT.1,(hb5.cell (by show wr.heap.size<_;omega)).trans hT.2.1,(hb5.cell (by show wr.heap.size<_;omega)).trans hT.2.2.1,(hb5.cell (by show wr.heap.size<_;omega)).trans hT.2.2.2.1,(hb5.cell (by show wr.heap.size<_;omega)).trans hT.2.2.2.2.1,(hb5.cell (by show wr.heap.size<_;omega)).trans hT.2.2.2.2.2.1,(hb5.cell (by show wr.heap.size<_;omega)).trans hT.2.2.2.2.2.2.1,(hb5.cell (by show wr.heap.size<_;omega)).trans hT.2.2.2.2.2.2.2⟩
       have c65:w5.cell? ⟨G,9,none⟩=some v:=(hb5.cell (by show G<_;omega)).trans c6
       have hown5:w5.ownsRow (w.heap.size+2) 127 8 v k (L.flatMap condC):=((hown.alloc _).drew).kept (row:=none) ⟨hb5.os,hb5.tape,hb5.output,hb5.size,fun b hb _=>hb5.block b hb⟩ (by cases hv:v.ownBlock with | none=>exact .inl rfl | some _=>exact .inr (by simp))
       refine hKK.out _ _ hT5 (fun hHeld5=>?_)
       clear hKK K
       refine wpAnyH_take (i:=7) (v:=.agg #[.int .i64 f'.k,.int .i64 f'.f,.bool f'.neg,.slice f'.aq f'.an f'.ac,.slice f'.cq f'.cn f'.cc,.string f'.m,.slice f'.sq f'.sn f'.sc,.bool X.st]) rfl (by kernel_rfl) (by kernel_rfl) (by kernel_rfl) (fun _ _ _ h=>h) (.inl ⟨by rfl,fun z hSz=>by go_simp⟩) hHeld5 ?_
       simp only[Act.put]
       refine wpAnyH_ready (rs:=[8]) (by kernel_rfl) (by simp) ?_
       refine AllReadyH.cons rfl (fun K hKK=>?_) AllReadyH.nil
       go_simp
       have hT6:(fun z=>z.cell? ⟨wr.heap.size,0,none⟩=some (.int .i64 Y.k)/\z.cell? ⟨wr.heap.size,1,none⟩=some (.int .i64 Y.f)/\z.cell? ⟨wr.heap.size,2,none⟩=some (.bool Y.neg)/\z.cell? ⟨wr.heap.size,3,none⟩=some (.slice Y.aq Y.an Y.ac)/\z.cell? ⟨wr.heap.size,4,none⟩=some (.slice Y.cq Y.cn Y.cc)/\z.cell? ⟨wr.heap.size,5,none⟩=some (.string Y.m)/\z.cell? ⟨wr.heap.size,6,none⟩=some (.slice Y.sq Y.sn Y.sc)/\z.cell? ⟨wr.heap.size,7,none⟩=some (.bool X.st)) (w5.alloc (.cells #[.int .i64 f'.k,.int .i64 f'.f,.bool f'.neg,.slice f'.aq f'.an f'.ac,.slice f'.cq f'.cn f'.cc,.string f'.m,.slice f'.sq f'.sn f'.sc,.bool X.st] 127)):=⟨(World.cell?_alloc_lt _ _ _ (by show wr.heap.size<_;omega)).trans hT5.1,(World.cell?_alloc_lt _ _ _ (by show wr.heap.size<_;omega)).trans hT5.2.1,(World.cell?_alloc_lt _ _ _ (by show wr.heap.size<_;omega)).trans hT5.2.2.1,(World.cell?_alloc_lt _ _ _ (by show wr.heap.size<_;omega)).trans hT5.2.2.2.1,(World.cell?_alloc_lt _ _ _ (by show wr.heap.size<_;omega)).trans hT5.2.2.2.2.1,(World.cell?_alloc_lt _ _ _ (by show wr.heap.size<_;omega)).trans hT5.2.2.2.2.2.1,(World.cell?_alloc_lt _ _ _ (by show wr.heap.size<_;omega)).trans hT5.2.2.2.2.2.2.1,(World.cell?_alloc_lt _ _ _ (by show wr.heap.size<_;omega)).trans hT5.2.2.2.2.2.2.2⟩
       have c66:(w5.alloc (.cells #[.int .i64 f'.k,.int .i64 f'.f,.bool f'.neg,.slice f'.aq f'.an f'.ac,.slice f'.cq f'.cn f'.cc,.string f'.m,.slice f'.sq f'.sn f'.sc,.bool X.st] 127)).cell? ⟨G,9,none⟩=some v:=by rw[World.cell?_alloc_lt _ _ _ (by show G<_;omega)];exact c65
      case' w18=>
       go_simp
       refine(hKk _ hbz).mono ?_
       rintro e w5 ⟨f',rfl,hA51,hb5⟩
       have hs5:=hb5.size
       have hT5:(fun z=>z.cell? ⟨wr.heap.size,0,none⟩=some (.int .i64 Y.k)/\z.cell? ⟨wr.heap.size,1,none⟩=some (.int .i64 Y.f)/\z.cell? ⟨wr.heap.size,2,none⟩=some (.bool Y.neg)/\z.cell? ⟨wr.heap.size,3,none⟩=some (.slice Y.aq Y.an Y.ac)/\z.cell? ⟨wr.heap.size,4,none⟩=some (.slice Y.cq Y.cn Y.cc)/\z.cell? ⟨wr.heap.size,5,none⟩=some (.string Y.m)/\z.cell? ⟨wr.heap.size,6,none⟩=some (.slice Y.sq Y.sn Y.sc)/\z.cell? ⟨wr.heap.size,7,none⟩=some (.bool X.st)) w5:=⟨(hb5.cell (by show wr.heap.size<_;omega)).trans hT.1,(hb5.cell (by show wr.heap.size<_;omega)).trans hT.2.1,(hb5.cell (by show wr.heap.size<_;omega)).trans hT.2.2.1,(hb5.cell (by show wr.heap.size<_;omega)).trans hT.2.2.2.1,(hb5.cell (by show wr.heap.size<_;omega)).trans hT.2.2.2.2.1,(hb5.cell (by show wr.heap.size<_;omega)).trans hT.2.2.2.2.2.1,(hb5.cell (by show wr.heap.size<_;omega)).trans hT.2.2.2.2.2.2.1,(hb5.cell (by show wr.heap.size<_;omega)).trans hT.2.2.2.2.2.2.2⟩
       have c65:w5.cell? ⟨G,9,none⟩=some v:=(hb5.cell (by show G<_;omega)).trans c6
       have hown5:w5.ownsRow (w.heap.size+2) 127 8 v k (L.flatMap condC):=((hown.alloc _).drew).kept (row:=none) ⟨hb5.os,hb5.tape,hb5.output,hb5.size,fun b hb _=>hb5.block b hb⟩ (by cases hv:v.ownBlock with | none=>exact .inl rfl | some _=>exact .inr (by simp))
       refine hKK.out _ _ hT5 (fun hHeld5=>?_)
       clear hKK K
       refine wpAnyH_take (i:=7) (v:=.agg #[.int .i64 f'.k,.int .i64 f'.f,.bool f'.neg,.slice f'.aq f'.an f'.ac,.slice f'.cq f'.cn f'.cc,.string f'.m,.slice f'.sq f'.sn f'.sc,.bool X.st]) rfl (by kernel_rfl) (by kernel_rfl) (by kernel_rfl) (fun _ _ _ h=>h) (.inl ⟨by rfl,fun z hSz=>by go_simp⟩) hHeld5 ?_
       simp only[Act.put]
       refine wpAnyH_ready (rs:=[1,8]) (by kernel_rfl) (by simp) ?_
       refine AllReadyH.cons rfl (fun K hKK=>?w19) (AllReadyH.cons rfl (fun K hKK=>?w20) AllReadyH.nil)
       case' w19=>
        go_simp
        refine hKK.out _ _ hT5 (fun _=>?_)
        clear hKK K
        refine wpAnyH_ready (rs:=[8]) (by kernel_rfl) (by simp) ?_
        refine AllReadyH.cons rfl (fun K hKK=>?_) AllReadyH.nil
        go_simp
        have hT6:(fun z=>z.cell? ⟨wr.heap.size,0,none⟩=some (.int .i64 Y.k)/\z.cell? ⟨wr.heap.size,1,none⟩=some (.int .i64 Y.f)/\z.cell? ⟨wr.heap.size,2,none⟩=some (.bool Y.neg)/\z.cell? ⟨wr.heap.size,3,none⟩=some (.slice Y.aq Y.an Y.ac)/\z.cell? ⟨wr.heap.size,4,none⟩=some (.slice Y.cq Y.cn Y.cc)/\z.cell? ⟨wr.heap.size,5,none⟩=some (.string Y.m)/\z.cell? ⟨wr.heap.size,6,none⟩=some (.slice Y.sq Y.sn Y.sc)/\z.cell? ⟨wr.heap.size,7,none⟩=some (.bool X.st)) (w5.alloc (.cells #[.int .i64 f'.k,.int .i64 f'.f,.bool f'.neg,.slice f'.aq f'.an f'.ac,.slice f'.cq f'.cn f'.cc,.string f'.m,.slice f'.sq f'.sn f'.sc,.bool X.st] 127)):=⟨(World.cell?_alloc_lt _ _ _ (by show wr.heap.size<_;omega)).trans hT5.1,(World.cell?_alloc_lt _ _ _ (by show wr.heap.size<_;omega)).trans hT5.2.1,(World.cell?_alloc_lt _ _ _ (by show wr.heap.size<_;omega)).trans hT5.2.2.1,(World.cell?_alloc_lt _ _ _ (by show wr.heap.size<_;omega)).trans hT5.2.2.2.1,(World.cell?_alloc_lt _ _ _ (by show wr.heap.size<_;omega)).trans hT5.2.2.2.2.1,(World.cell?_alloc_lt _ _ _ (by show wr.heap.size<_;omega)).trans hT5.2.2.2.2.2.1,(World.cell?_alloc_lt _ _ _ (by show wr.heap.size<_;omega)).trans hT5.2.2.2.2.2.2.1,(World.cell?_alloc_lt _ _ _ (by show wr.heap.size<_;omega)).trans hT5.2.2.2.2.2.2.2⟩
        have c66:(w5.alloc (.cells #[.int .i64 f'.k,.int .i64 f'.f,.bool f'.neg,.slice f'.aq f'.an f'.ac,.slice f'.cq f'.cn f'.cc,.string f'.m,.slice f'.sq f'.sn f'.sc,.bool X.st] 127)).cell? ⟨G,9,none⟩=some v:=by rw[World.cell?_alloc_lt _ _ _ (by show G<_;omega)];exact c65
       case' w20=>
        go_simp
        have hT6:(fun z=>z.cell? ⟨wr.heap.size,0,none⟩=some (.int .i64 Y.k)/\z.cell? ⟨wr.heap.size,1,none⟩=some (.int .i64 Y.f)/\z.cell? ⟨wr.heap.size,2,none⟩=some (.bool Y.neg)/\z.cell? ⟨wr.heap.size,3,none⟩=some (.slice Y.aq Y.an Y.ac)/\z.cell? ⟨wr.heap.size,4,none⟩=some (.slice Y.cq Y.cn Y.cc)/\z.cell? ⟨wr.heap.size,5,none⟩=some (.string Y.m)/\z.cell? ⟨wr.heap.size,6,none⟩=some (.slice Y.sq Y.sn Y.sc)/\z.cell? ⟨wr.heap.size,7,none⟩=some (.bool X.st)) (w5.alloc (.cells #[.int .i64 f'.k,.int .i64 f'.f,.bool f'.neg,.slice f'.aq f'.an f'.ac,.slice f'.cq f'.cn f'.cc,.string f'.m,.slice f'.sq f'.sn f'.sc,.bool X.st] 127)):=⟨(World.cell?_alloc_lt _ _ _ (by show wr.heap.size<_;omega)).trans hT5.1,(World.cell?_alloc_lt _ _ _ (by show wr.heap.size<_;omega)).trans hT5.2.1,(World.cell?_alloc_lt _ _ _ (by show wr.heap.size<_;omega)).trans hT5.2.2.1,(World.cell?_alloc_lt _ _ _ (by show wr.heap.size<_;omega)).trans hT5.2.2.2.1,(World.cell?_alloc_lt _ _ _ (by show wr.heap.size<_;omega)).trans hT5.2.2.2.2.1,(World.cell?_alloc_lt _ _ _ (by show wr.heap.size<_;omega)).trans hT5.2.2.2.2.2.1,(World.cell?_alloc_lt _ _ _ (by show wr.heap.size<_;omega)).trans hT5.2.2.2.2.2.2.1,(World.cell?_alloc_lt _ _ _ (by show wr.heap.size<_;omega)).trans hT5.2.2.2.2.2.2.2⟩
        have c66:(w5.alloc (.cells #[.int .i64 f'.k,.int .i64 f'.f,.bool f'.neg,.slice f'.aq f'.an f'.ac,.slice f'.cq f'.cn f'.cc,.string f'.m,.slice f'.sq f'.sn f'.sc,.bool X.st] 127)).cell? ⟨G,9,none⟩=some v:=by rw[World.cell?_alloc_lt _ _ _ (by show G<_;omega)];exact c65
        refine hKK.out _ _ hT6 (fun _=>?_)
        clear hKK K
        refine wpAnyH_ready (rs:=[1]) (by kernel_rfl) (by simp) ?_
        refine AllReadyH.cons rfl (fun K hKK=>?_) AllReadyH.nil
        go_simp
      all_goals
       refine hKK.out _ _ hT6 (fun _=>?_)
       clear hKK K
       refine wpAnyH_ready (rs:=[9]) (by kernel_rfl) (by simp) ?_
       refine AllReadyH.cons rfl (fun K hKK=>?_) AllReadyH.nil
       refine step_append_lies _ rfl _ _ 46 rfl (w.heap.size+2) 127 i0 (.agg #[.int .i64 0,.int .i64 0,.bool false,.slice none 0 0,.slice none 0 0,.string ⟨#[]⟩,.slice none 0 0,.bool false]) 8 120 Tryz.underlying46 hi hz0 hz1 hz2 rfl (by decide) v k (L.flatMap condC) rfl (hown5.alloc _) ⟨w5.heap.size,0,none⟩ 1 1 (condC ((X,f'):Co × Nd)) rfl rfl (World.news_of_block (heap_alloc_last w5 (.cells (condC ((X,f'):Co × Nd)).toArray 127))) (Co.one X f') (by decide) (by unfold maxLen;omega) (by omega) (by simp;omega) _ rfl ?_
       intro g cap w7 hown7 hgrow7 hat7 hlt7
       have hTne:some wr.heap.size≠v.ownBlock:=fun e=>by have:=(hrl _ e.symm).2;omega
       have hT7:(fun z=>z.cell? ⟨wr.heap.size,0,none⟩=some (.int .i64 Y.k)/\z.cell? ⟨wr.heap.size,1,none⟩=some (.int .i64 Y.f)/\z.cell? ⟨wr.heap.size,2,none⟩=some (.bool Y.neg)/\z.cell? ⟨wr.heap.size,3,none⟩=some (.slice Y.aq Y.an Y.ac)/\z.cell? ⟨wr.heap.size,4,none⟩=some (.slice Y.cq Y.cn Y.cc)/\z.cell? ⟨wr.heap.size,5,none⟩=some (.string Y.m)/\z.cell? ⟨wr.heap.size,6,none⟩=some (.slice Y.sq Y.sn Y.sc)/\z.cell? ⟨wr.heap.size,7,none⟩=some (.bool X.st)) w7:=⟨hgrow7.cell hT6.1 hTne,hgrow7.cell hT6.2.1 hTne,hgrow7.cell hT6.2.2.1 hTne,hgrow7.cell hT6.2.2.2.1 hTne,hgrow7.cell hT6.2.2.2.2.1 hTne,hgrow7.cell hT6.2.2.2.2.2.1 hTne,hgrow7.cell hT6.2.2.2.2.2.2.1 hTne,hgrow7.cell hT6.2.2.2.2.2.2.2 hTne⟩
       have c67:w7.cell? ⟨G,9,none⟩=some v:=hgrow7.cell c66 (fun e=>hne e.symm)
       obtain⟨m1,m2,m3,m4,m5,m6,m7,m8⟩:=zau (j:=9) (u:=.slice (some ⟨g,0,none⟩) (k+1) cap) hGr (by omega:(w.heap.size+2)<=wr.heap.size) hz hb5 hgrow7 hat7 hlt7 hrl hne rfl
       have f67:∀j,w7.frozen? ⟨G,j,none⟩=false:=fun j=>frozen_of_row _ _ _ _ _ (m5 _ _ _ hblk)
       refine hKK.out _ _ hT7 (fun hHeld7=>?_)
       clear hKK K
       refine wpAnyH_take (i:=10) (v:=.pointer (some ⟨G,9,none⟩)) rfl (by kernel_rfl) (by kernel_rfl) (by kernel_rfl) (fun _ _ _ h=>h) (.inl ⟨by rfl,fun z hSz=>by go_simp⟩) hHeld7 ?_
       simp only[Act.put]
       refine wpAnyH_ready (rs:=[11]) (by kernel_rfl) (by simp) ?_
       refine AllReadyH.cons rfl (fun K hKK=>?_) AllReadyH.nil
       go_simp
       refine hKK.out _ _ ⟨(World.cell?_setCell_far _ _ _ _ (by show G≠wr.heap.size;omega)).trans hT7.1,(World.cell?_setCell_far _ _ _ _ (by show G≠wr.heap.size;omega)).trans hT7.2.1,(World.cell?_setCell_far _ _ _ _ (by show G≠wr.heap.size;omega)).trans hT7.2.2.1,(World.cell?_setCell_far _ _ _ _ (by show G≠wr.heap.size;omega)).trans hT7.2.2.2.1,(World.cell?_setCell_far _ _ _ _ (by show G≠wr.heap.size;omega)).trans hT7.2.2.2.2.1,(World.cell?_setCell_far _ _ _ _ (by show G≠wr.heap.size;omega)).trans hT7.2.2.2.2.2.1,(World.cell?_setCell_far _ _ _ _ (by show G≠wr.heap.size;omega)).trans hT7.2.2.2.2.2.2.1,(World.cell?_setCell_far _ _ _ _ (by show G≠wr.heap.size;omega)).trans hT7.2.2.2.2.2.2.2⟩ (fun _=>?_)
       clear hKK K
       refine wpAnyH_done (by kernel_rfl) ?_ _
       go_wp2_with fail
       go_roundw
       case rel=>
        refine⟨k+1,by omega,by go_num,.slice (some ⟨g,0,none⟩) (k+1) cap,L++[((X,f'):Co × Nd)],by simp[hLk],zab (m5 _ _ _ hblk),?_,m6,?_,hA3.keep m1 m2,hA4.keep m1 m2,?_,by omega,?_,?_⟩
        ·rw[List.flatMap_append,List.flatMap_singleton]
         exact zak hown7 m6
        ·intro i x hi
         by_cases hik:i<k
         ·rw[List.getElem?_append_left (by omega)] at hi
          exact⟨(hLx i x hi).1,(hLx i x hi).2.keep m1 m2⟩
         ·rw[List.getElem?_append_right (by omega)] at hi
          have hi0:i - L.length=0:=by
           rcases Nat.eq_zero_or_pos (i - L.length) with h | h
           ·exact h
           ·rw[List.getElem?_eq_none (by simp;omega)] at hi
            cases hi
          rw[hi0] at hi
          simp only[List.getElem?_cons_zero,Option.some.injEq] at hi
          subst hi
          have:i=k:=by omega
          subst this
          exact⟨hX.symm,hA51.keep m3 m4⟩
        ·refine Below.setCell ?_ (by show w.heap.size<=G;omega) _
         exact((hbz.trans (hb5.mono hbz.size)).alloc (by omega) _).grown hgrow7 (by simp;omega) (fun b hb=>by have:=(hrl b hb).1;omega)
        ·rw[m8 (w.heap.size+1) (by omega) (by omega) (fun e=>by have:=(hrl _ e).1;omega)]
         exact hres
        ·intro j u hu
         exact(World.cell?_of_block (m8 w.heap.size (by omega) (by omega) (fun e=>by have:=(hrl _ e).1;omega))).trans (hbox.out j u hu)
       case measure=>simp[intOf];omega
     ·have hk2:nc=k:=by omega
      have hnk:¬(k:Int)<(nc:Int):=by omega
      subst hk2
      have hvf:∃q c,v=.slice q nc c:=by
       rcases hown.2 with⟨h,h0⟩ | ⟨g,cp,cur,h,_⟩
       ·exact⟨none,0,by rw[h,h0]⟩
       ·exact⟨_,_,h⟩
      obtain⟨q4,c4,rfl⟩:=hvf
      have hr3':Hid (wr.rangeAt G 0 [.int .i64 e'.k,.int .i64 e'.f,.bool e'.neg,.slice e'.aq e'.an e'.ac,.slice e'.cq e'.cn e'.cc,.string e'.m,.slice e'.sq e'.sn e'.sc,.bool st,.slice q3 nb c3,.slice q4 nc c4]):=by
       have h:=World.rangeAt_of_block hblk 0 10
       have h':wr.rangeAt G 0 [.int .i64 e'.k,.int .i64 e'.f,.bool e'.neg,.slice e'.aq e'.an e'.ac,.slice e'.cq e'.cn e'.cc,.string e'.m,.slice e'.sq e'.sn e'.sc,.bool st,.slice q3 nb c3,.slice q4 nc c4]:=by simpa using h
       exact h'
      have hr2':Hid (wr.there (w.heap.size+1) 0 10):=zal hres rfl
      clear hbox
      go_wp2_with (first
       | (with_reducible refine wpList_load_mid ?_ 48 (.tmp 3) ?_ G 0 ?_ [.int .i64 e'.k,.int .i64 e'.f,.bool e'.neg,.slice e'.aq e'.an e'.ac,.slice e'.cq e'.cn e'.cc,.string e'.m,.slice e'.sq e'.sn e'.sc,.bool st,.slice q3 nb c3,.slice q4 nc c4] dd hr3'.out hHu.out hd ?_ ?_
          rotate_left 1
          ·with_reducible rfl
          ·rfl
          ·exact zcp
          rotate_left 1
          ·rfl)
       | (with_reducible refine wpList_store_mid ?_ 48 (.tmp 2) (.tmp 66) ?_ (w.heap.size+1) 0 #[.int .i64 e'.k,.int .i64 e'.f,.bool e'.neg,.slice e'.aq e'.an e'.ac,.slice e'.cq e'.cn e'.cc,.string e'.m,.slice e'.sq e'.sn e'.sc,.bool st,.slice q3 nb c3,.slice q4 nc c4] ?_ ?_ ?_ ?_ ?_ ?_
          rotate_left 1
          ·with_reducible rfl
          ·rfl
          ·rfl
          ·exact hr2'.out
          ·exact zcp
          ·simp[Value.oneCell']
          rotate_left 1
          ·rfl))
      obtain⟨hW8,hs8,hb8⟩:=zae w.heap.size (w.heap.size+1) (by omega) [.int .i64 e'.k,.int .i64 e'.f,.bool e'.neg,.slice e'.aq e'.an e'.ac,.slice e'.cq e'.cn e'.cc,.string e'.m,.slice e'.sq e'.sn e'.sc,.bool st,.slice q3 nb c3,.slice q4 nc c4] 0 w wr hbw
      have hr8:=World.rangeAt_setCells_same wr (w.heap.size+1) 0 [.int .i64 e'.k,.int .i64 e'.f,.bool e'.neg,.slice e'.aq e'.an e'.ac,.slice e'.cq e'.cn e'.cc,.string e'.m,.slice e'.sq e'.sn e'.sc,.bool st,.slice q3 nb c3,.slice q4 nc c4] hr2'.out
      generalize wr.setCells (w.heap.size+1) 0 [.int .i64 e'.k,.int .i64 e'.f,.bool e'.neg,.slice e'.aq e'.an e'.ac,.slice e'.cq e'.cn e'.cc,.string e'.m,.slice e'.sq e'.sn e'.sc,.bool st,.slice q3 nb c3,.slice q4 nc c4]=w8 at*
      have hk8:Keeps (Free (w.heap.size+2) wr G (.slice q4 nc c4)) wr w8:=fun b hb=>hb8 b (by have:=hb.1;omega)
      have ha8:∀b,Free (w.heap.size+2) wr G (.slice q4 nc c4) b->Fresh w w8 b:=fun b hb=>⟨by have:=hb.1;omega,by have:=hb.2.1;omega⟩
      refine bodyPost_ret (zac rfl _ _ (w.heap.size+1) _ dd rfl hr8 hHu.out hd zcp) rfl ?_
      refine⟨e',q3,c3,q4,⟨c4,rfl⟩,hA3.keep hk8 ha8,hA4.keep hk8 ha8,?_,hW8⟩
      by_cases h0:nc=0
      ·exact .inl h0
      ·refine .inr ?_
       obtain⟨g,cp,hg,hge,hgl⟩:=hown.form (by omega)
       simp only[Value.slice.injEq] at hg
       obtain⟨rfl,_,rfl⟩:=hg
       refine⟨g,0,rfl,⟨by omega,by omega⟩,fun i=>(L.getD i default).2,fun i hi=>?_⟩
       have hiL:i<L.length:=by omega
       have hgi:L[i]?=some (L.getD i default):=by simp[List.getD,hiL]
       have hown':wr.ownsRow (w.heap.size+2) 127 8 (.slice (some ⟨g,0,none⟩) nc c4) nc (L.flatMap condC):=hown
       have hc:=zam (s:=8) (f:=condC) (fun _=>rfl) hown' hgi
       obtain⟨hl1,hl2⟩:=hLx i _ hgi
       have hc8:w8.rangeAt g (0+i*8) (condC (L.getD i default)):=fun j u hu=>(World.cell?_of_block (hb8 g (by omega))).trans (hc j u hu)
       refine⟨?_,?_⟩
       ·rw[<-hl1]
        exact hc8
       ·rw[<-hl1]
        exact hl2.keep hk8 ha8
theorem zdx {w:World} {C:Cl} {D:Cd} (h:ClOk w C D) (hs:ClSmall C):Calls Tryz.prog 69 #[.agg (C.cells D).toArray] w fun e w'=>∃D':Cd,e=.returned (.agg (C.cells D').toArray)/\ClA w' (Fresh w w') C D'/\Below w.heap.size w w':=by
 obtain⟨g1,hnb,hnc,s1,t1⟩:=h
 have lt:∀b,b<w.heap.size->b<w.heap.size:=fun _ h=>h
 have sd:∃ds:Nat->Sv,(C.nb=0\/∃b o,D.bq=some ⟨b,o,none⟩/\b<w.heap.size/\∀i,i<C.nb->w.rangeAt b (o+i*9) ((C.bs i).cells (ds i)))/\∀i,i<C.nb->SiA w (·<w.heap.size) (C.bs i) (ds i):=by
  rcases s1 with h0 | ⟨b,o,e,hlt,ds,hds⟩
  ·exact⟨default,.inl h0,fun i hi=>by omega⟩
  ·exact⟨ds,.inr ⟨b,o,e,hlt,fun i hi=>(hds i hi).1⟩,fun i hi=>(hds i hi).2⟩
 have cd:∃ds:Nat->Nd,(C.nc=0\/∃b o,D.cq=some ⟨b,o,none⟩/\b<w.heap.size/\∀i,i<C.nc->w.rangeAt b (o+i*8) ((C.cs i).cells (ds i)))/\∀i,i<C.nc->ExA w (·<w.heap.size) (C.cs i).x (ds i):=by
  rcases t1 with h0 | ⟨b,o,e,hlt,ds,hds⟩
  ·exact⟨default,.inl h0,fun i hi=>by omega⟩
  ·exact⟨ds,.inr ⟨b,o,e,hlt,fun i hi=>(hds i hi).1⟩,fun i hi=>(hds i hi).2⟩
 obtain⟨xs,x1,x2⟩:=sd
 obtain⟨ys,y1,y2⟩:=cd
 refine(zcq (d:=D.d) (st:=C.st) (goal:=C.goal) C.bs xs C.cs ys hnb hnc (fun z hz=>zca C.goal D.d z ((g1.ok lt).below hz) hs.1) x1 (fun i hi=>(x2 i hi).2.2.2.2)
  (fun i hi z hz=>zbs (((x2 i hi).1.ok lt).below hz) (((x2 i hi).2.1.ok lt).below hz)) (fun i hi z hz=>zbs (((x2 i hi).2.2.1.ok lt).below hz) (((x2 i hi).2.2.2.1.ok lt).below hz))
  y1 (fun i hi z hz=>zca (C.cs i).x (ys i) z (((y2 i hi).ok lt).below hz) (hs.2 i hi))).mono ?_
 rintro e w' ⟨e',q3,c3,q4,c4,rfl,a1,a2,a3,hb⟩
 exact⟨⟨e',q3,c3,q4,c4⟩,rfl,⟨a1,hnb,hnc,a2,a3⟩,hb⟩
end Go.Proofs.YtfhjhnofkaiceaaGreatDoor
