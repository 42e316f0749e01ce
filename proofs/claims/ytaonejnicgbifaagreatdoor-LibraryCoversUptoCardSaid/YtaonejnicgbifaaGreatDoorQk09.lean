import Derived.Test.YtaonejnicgbifaaGreatDoorQk08
namespace Go.Proofs.YtaonejnicgbifaaGreatDoor
open Go Go.RowKit
set_option maxRecDepth 100000
set_option maxHeartbeats 16000000
structure IvV where
 g1:Bool
 n1:Int
 d1:Int
 g2:Bool
 n2:Int
 d2:Int
 li:Bool
 hh:Bool
 em:Bool
def IAt (w:World) (v:Value) (i:IvV):Prop:=
 ∃a1 b1 a2 b2,v=.agg #[.bool i.g1,a1,b1,.bool i.g2,a2,b2,.bool i.li,.bool i.hh,.bool i.em]/\QAt w (.agg #[.bool i.g1,a1,b1]) i.g1 i.n1 i.d1/\QAt w (.agg #[.bool i.g2,a2,b2]) i.g2 i.n2 i.d2
theorem IAt.below {w w':World} {v:Value} {i:IvV} (h:IAt w v i) (hb:Below w.heap.size w w'):IAt w' v i:=by
 obtain⟨a1,b1,a2,b2,h1,h2,h3⟩:=h
 exact⟨a1,b1,a2,b2,h1,h2.below hb,h3.below hb⟩
structure IvC where
 g1:Bool
 n1:Int
 d1:Int
 g2:Bool
 n2:Int
 d2:Int
 li:Bool
 hh:Bool
def IvC.lo (c:IvC):Bool × Int × Int:=if c.li then(false,0,0) else(mkG c.g1 c.n1 (denI c.d1),mkN c.n1 (denI c.d1),mkD c.n1 (denI c.d1))
def IvC.hi (c:IvC):Bool × Int × Int:=if c.hh then(false,0,0) else(mkG c.g2 c.n2 (denI c.d2),mkN c.n2 (denI c.d2),mkD c.n2 (denI c.d2))
def qS (a b:Bool × Int × Int):Int:=sgnI (sg a.1*(a.2.1*denI b.2.2) - sg b.1*(b.2.1*denI a.2.2))
def IvC.v (c:IvC):IvV:=
 if c.li=false/\c.hh=false/\0<qS c.lo c.hi then⟨false,0,0,false,0,0,false,false,true⟩
 else⟨c.lo.1,c.lo.2.1,c.lo.2.2,c.hi.1,c.hi.2.1,c.hi.2.2,c.li,c.hh,false⟩
theorem zct (w:World):QAt w (.agg zC) false 0 0:=⟨_,_,[],[],rfl,⟨fun j=>by simp[List.getD],by simp,none,0,rfl,Nat.le_refl _,.inl rfl⟩,fun m hm=>by simp at hm,rfl,⟨fun j=>by simp[List.getD],by simp,none,0,rfl,Nat.le_refl _,.inl rfl⟩,fun m hm=>by simp at hm,rfl⟩
theorem zh0:∃d,Tryz.prog.underlying 66=some d/\d.isRow=true:=⟨_,Tryz.underlying66,rfl⟩
theorem zer:(Tryz.prog.info? 66).map (·.size)=some 9:=by kernel_rfl
def BlkI (w:World) (N:Nat) (t:TypeId) (cs:Array Value):Prop:=w.heap[N]?=some (.cells cs t (0,0))
def NoW (cs:Array Value):Prop:=∀(j:Nat) (x:Int),cs[j]?≠some (Value.int .u32 x)
theorem BlkI.lt {w:World} {N:Nat} {t:TypeId} {cs:Array Value} (h:BlkI w N t cs):N<w.heap.size:=(Array.getElem?_eq_some_iff.1 h).1
theorem BlkI.below {w w':World} {N:Nat} {t:TypeId} {cs:Array Value} (h:BlkI w N t cs) (hb:Below w.heap.size w w'):BlkI w' N t cs:=(hb.block N h.lt).trans h
theorem BlkI.cell {w:World} {N:Nat} {t:TypeId} {cs:Array Value} (h:BlkI w N t cs) (j:Nat):w.cell? ⟨N,j,none⟩=cs[j]?:=by unfold BlkI at h;simp[World.cell?,h]
theorem BlkI.fr {w:World} {N:Nat} {t:TypeId} {cs:Array Value} (h:BlkI w N t cs) (j:Nat):w.frozen? ⟨N,j,none⟩=false:=by unfold BlkI at h;simp[World.frozen?,h]
theorem BlkI.set {w:World} {N:Nat} {t:TypeId} {cs:Array Value} (h:BlkI w N t cs) (j:Nat) (v:Value):BlkI (w.setCell ⟨N,j,none⟩ v) N t (cs.setIfInBounds j v):=by
 unfold BlkI at h ⊢
 show(w.heap.modify N _)[N]?=_
 rw[Array.getElem?_modify,if_pos rfl,h]
 simp
theorem BlkI.other {w:World} {N:Nat} {t:TypeId} {cs:Array Value} (h:BlkI w N t cs) {p:Addr} (hp:p.block≠N) (v:Value):BlkI (w.setCell p v) N t cs:=(Below.heap_setCell _ _ _ _ (by omega)).trans h
theorem BlkI.row {w:World} {N:Nat} {t:TypeId} {cs:Array Value} (h:BlkI w N t cs):w.rangeAt N 0 cs.toList:=fun j v hv=>by
 have:=h.cell j
 rw[Nat.zero_add,this]
 simpa using hv
theorem Sl16.notI {w:World} {v:Value} {xs:List Int} {N:Nat} {cs:Array Value} (h:Sl16 w v xs) {t:TypeId} (hN:BlkI w N t cs) (hc:NoW cs):Sl16N N w v xs:=by
 obtain⟨h1,h2,q,cap,h3,h4,h5⟩:=h
 refine⟨h1,h2,q,cap,h3,h4,?_⟩
 by_cases hx:xs=[]
 ·exact .inl hx
 ·rcases h5 with h5 | ⟨b,o,e,hlt,hcc⟩
  ·exact absurd h5 hx
  ·refine .inr ⟨b,o,e,hlt,?_,hcc⟩
   rintro rfl
   exact hc _ _ ((hN.cell _).symm.trans (hcc 0 (List.length_pos_iff.2 hx)))
theorem QAt.sav {w w':World} {v:Value} {g:Bool} {n d:Int} {N:Nat} {cs:Array Value} (h:QAt w v g n d) {t:TypeId} (hN:BlkI w N t cs) (hc:NoW cs) (hs:Sav N w w'):QAt w' v g n d:=by
 obtain⟨a,b,ns,ds,h1,h2,h3,h4,h5,h6,h7⟩:=h
 exact⟨a,b,ns,ds,h1,((h2.notI hN hc).sav hs).sl,h3,h4,((h5.notI hN hc).sav hs).sl,h6,h7⟩
theorem za0 {g1 g2 b1 b2 b3:Bool} {q1 q2 q3 q4:Option Addr} {l1 c1 l2 c2 l3 c3 l4 c4:Nat}:NoW (iB g1 q1 l1 c1 q2 l2 c2 g2 q3 l3 c3 q4 l4 c4 b1 b2 b3):=by
 intro j x
 match j with
 | 0=>simp
 | 1=>simp
 | 2=>simp
 | 3=>simp
 | 4=>simp
 | 5=>simp
 | 6=>simp
 | 7=>simp
 | 8=>simp
 | j+9=>simp
theorem zh1 (w:World):Calls Tryz.prog 41 #[] w fun e w'=>e=.returned (.agg (iB false none 0 0 none 0 0 false none 0 0 none 0 0 false false true))/\Below w.heap.size w w':=by
 obtain⟨dd,hu,hd⟩:=zh0
 go_enter Tryz.func41,Tryz.ntmps41
 go_wp2
 refine bodyPost_ret (zae rfl _ _ w.heap.size [.bool false,.slice none 0 0,.slice none 0 0,.bool false,.slice none 0 0,.slice none 0 0,.bool false,.bool false,.bool true] dd rfl (BlkI.row (heap_alloc_new w _)) hu hd zer) rfl ?_
 exact⟨rfl,zaa _ _⟩
abbrev CA (w:World) (n:FuncId) (us:Array Value) (v:Value):Prop:=∀z,Below w.heap.size w z->Calls Tryz.prog n us z fun e w'=>e=.returned v/\Below z.heap.size z w'
theorem BlkI.c2 {w:World} {N:Nat} {t:TypeId} {v0 v1:Value} (h:BlkI w N t #[v0,v1]):w.cell? ⟨N,0,none⟩=some v0/\w.cell? ⟨N,1,none⟩=some v1:=
 ⟨h.cell 0,h.cell 1⟩
theorem BlkI.c3 {w:World} {N:Nat} {t:TypeId} {v0 v1 v2:Value} (h:BlkI w N t #[v0,v1,v2]):w.cell? ⟨N,0,none⟩=some v0/\w.cell? ⟨N,1,none⟩=some v1/\w.cell? ⟨N,2,none⟩=some v2:=
 ⟨h.cell 0,h.cell 1,h.cell 2⟩
theorem BlkI.c7 {w:World} {N:Nat} {t:TypeId} {v0 v1 v2 v3 v4 v5 v6:Value} (h:BlkI w N t #[v0,v1,v2,v3,v4,v5,v6]):w.cell? ⟨N,0,none⟩=some v0/\w.cell? ⟨N,1,none⟩=some v1/\w.cell? ⟨N,2,none⟩=some v2/\w.cell? ⟨N,3,none⟩=some v3/\w.cell? ⟨N,4,none⟩=some v4/\w.cell? ⟨N,5,none⟩=some v5/\w.cell? ⟨N,6,none⟩=some v6:=
 ⟨h.cell 0,h.cell 1,h.cell 2,h.cell 3,h.cell 4,h.cell 5,h.cell 6⟩
theorem BlkI.c8 {w:World} {N:Nat} {t:TypeId} {v0 v1 v2 v3 v4 v5 v6 v7:Value} (h:BlkI w N t #[v0,v1,v2,v3,v4,v5,v6,v7]):w.cell? ⟨N,0,none⟩=some v0/\w.cell? ⟨N,1,none⟩=some v1/\w.cell? ⟨N,2,none⟩=some v2/\w.cell? ⟨N,3,none⟩=some v3/\w.cell? ⟨N,4,none⟩=some v4/\w.cell? ⟨N,5,none⟩=some v5/\w.cell? ⟨N,6,none⟩=some v6/\w.cell? ⟨N,7,none⟩=some v7:=
 ⟨h.cell 0,h.cell 1,h.cell 2,h.cell 3,h.cell 4,h.cell 5,h.cell 6,h.cell 7⟩
theorem BlkI.c9 {w:World} {N:Nat} {t:TypeId} {v0 v1 v2 v3 v4 v5 v6 v7 v8:Value} (h:BlkI w N t #[v0,v1,v2,v3,v4,v5,v6,v7,v8]):w.cell? ⟨N,0,none⟩=some v0/\w.cell? ⟨N,1,none⟩=some v1/\w.cell? ⟨N,2,none⟩=some v2/\w.cell? ⟨N,3,none⟩=some v3/\w.cell? ⟨N,4,none⟩=some v4/\w.cell? ⟨N,5,none⟩=some v5/\w.cell? ⟨N,6,none⟩=some v6/\w.cell? ⟨N,7,none⟩=some v7/\w.cell? ⟨N,8,none⟩=some v8:=
 ⟨h.cell 0,h.cell 1,h.cell 2,h.cell 3,h.cell 4,h.cell 5,h.cell 6,h.cell 7,h.cell 8⟩
theorem BlkI.c10 {w:World} {N:Nat} {t:TypeId} {v0 v1 v2 v3 v4 v5 v6 v7 v8 v9:Value} (h:BlkI w N t #[v0,v1,v2,v3,v4,v5,v6,v7,v8,v9]):w.cell? ⟨N,0,none⟩=some v0/\w.cell? ⟨N,1,none⟩=some v1/\w.cell? ⟨N,2,none⟩=some v2/\w.cell? ⟨N,3,none⟩=some v3/\w.cell? ⟨N,4,none⟩=some v4/\w.cell? ⟨N,5,none⟩=some v5/\w.cell? ⟨N,6,none⟩=some v6/\w.cell? ⟨N,7,none⟩=some v7/\w.cell? ⟨N,8,none⟩=some v8/\w.cell? ⟨N,9,none⟩=some v9:=
 ⟨h.cell 0,h.cell 1,h.cell 2,h.cell 3,h.cell 4,h.cell 5,h.cell 6,h.cell 7,h.cell 8,h.cell 9⟩
theorem zbk (w:World) (a b c:Obj):Below w.heap.size w (((w.alloc a).alloc b).alloc c):=(zah w a b).alloc (by simp;omega) c
theorem zlz (w:World) (cs:Array Value) (t:TypeId) (b c:Obj):BlkI (((w.alloc (.cells cs t)).alloc b).alloc c) w.heap.size t cs:=by
 have h1:BlkI (w.alloc (.cells cs t)) w.heap.size t cs:=heap_alloc_new w _
 exact(h1.below (zaa _ b)).below (zaa _ c)
theorem zjx (w:World) (a:Obj) (cs:Array Value) (t:TypeId) (c:Obj):BlkI (((w.alloc a).alloc (.cells cs t)).alloc c) (w.heap.size+1) t cs:=by
 have h1:BlkI ((w.alloc a).alloc (.cells cs t)) (w.alloc a).heap.size t cs:=heap_alloc_new _ _
 have h2:=h1.below (zaa _ c)
 rwa [show (w.alloc a).heap.size=w.heap.size+1 by simp] at h2
theorem zl0 (w:World) (a b:Obj) (cs:Array Value) (t:TypeId):BlkI (((w.alloc a).alloc b).alloc (.cells cs t)) (w.heap.size+1+1) t cs:=by
 have h1:BlkI (((w.alloc a).alloc b).alloc (.cells cs t)) ((w.alloc a).alloc b).heap.size t cs:=heap_alloc_new _ _
 rwa [show ((w.alloc a).alloc b).heap.size=w.heap.size+1+1 by simp] at h1
theorem BlkI.sav {w w':World} {N M:Nat} {t:TypeId} {cs:Array Value} (h:BlkI w N t cs) (hs:Sav M w w') (hne:N≠M):BlkI w' N t cs:=(hs.block N h.lt hne).trans h
theorem zdx {w:World} {N:Nat} {t:TypeId} {cs:Array Value} (h:BlkI w N t cs) (j:Nat) (v0 v1 v2:Value):
  BlkI (((w.setCell ⟨N,j,none⟩ v0).setCell ⟨N,j+1,none⟩ v1).setCell ⟨N,j+2,none⟩ v2) N t (((cs.setIfInBounds j v0).setIfInBounds (j+1) v1).setIfInBounds (j+2) v2)/\Sav N w (((w.setCell ⟨N,j,none⟩ v0).setCell ⟨N,j+1,none⟩ v1).setCell ⟨N,j+2,none⟩ v2):=
 ⟨((h.set _ _).set _ _).set _ _,((((Sav.of (Below.refl _ _)).setCell _ _).setCell _ _).setCell _ _)⟩
theorem ze9 {w:World} {N:Nat} {t:TypeId} {y0 y1 y2 y3 y4 y5 y6 y7 y8:Value} (h:BlkI w N t #[y0,y1,y2,y3,y4,y5,y6,y7,y8]) (v0 v1 v2 v3 v4 v5 v6 v7 v8:Value):
  BlkI (((((((((w.setCell ⟨N,0,none⟩ v0).setCell ⟨N,1,none⟩ v1).setCell ⟨N,2,none⟩ v2).setCell ⟨N,3,none⟩ v3).setCell ⟨N,4,none⟩ v4).setCell ⟨N,5,none⟩ v5).setCell ⟨N,6,none⟩ v6).setCell ⟨N,7,none⟩ v7).setCell ⟨N,8,none⟩ v8) N t #[v0,v1,v2,v3,v4,v5,v6,v7,v8]/\
  Sav N w (((((((((w.setCell ⟨N,0,none⟩ v0).setCell ⟨N,1,none⟩ v1).setCell ⟨N,2,none⟩ v2).setCell ⟨N,3,none⟩ v3).setCell ⟨N,4,none⟩ v4).setCell ⟨N,5,none⟩ v5).setCell ⟨N,6,none⟩ v6).setCell ⟨N,7,none⟩ v7).setCell ⟨N,8,none⟩ v8):=by
 have a0:BlkI _ N t #[v0,y1,y2,y3,y4,y5,y6,y7,y8]:=h.set 0 v0
 have a1:BlkI _ N t #[v0,v1,y2,y3,y4,y5,y6,y7,y8]:=a0.set 1 v1
 have a2:BlkI _ N t #[v0,v1,v2,y3,y4,y5,y6,y7,y8]:=a1.set 2 v2
 have a3:BlkI _ N t #[v0,v1,v2,v3,y4,y5,y6,y7,y8]:=a2.set 3 v3
 have a4:BlkI _ N t #[v0,v1,v2,v3,v4,y5,y6,y7,y8]:=a3.set 4 v4
 have a5:BlkI _ N t #[v0,v1,v2,v3,v4,v5,y6,y7,y8]:=a4.set 5 v5
 have a6:BlkI _ N t #[v0,v1,v2,v3,v4,v5,v6,y7,y8]:=a5.set 6 v6
 have a7:BlkI _ N t #[v0,v1,v2,v3,v4,v5,v6,v7,y8]:=a6.set 7 v7
 have a8:BlkI _ N t #[v0,v1,v2,v3,v4,v5,v6,v7,v8]:=a7.set 8 v8
 have b:Sav N w _:=((((((((((Sav.of (Below.refl _ w)).setCell 0 v0).setCell 1 v1).setCell 2 v2).setCell 3 v3).setCell 4 v4).setCell 5 v5).setCell 6 v6).setCell 7 v7).setCell 8 v8)
 exact⟨a8,b⟩
theorem mk_bound {n d B:Int} (hn:0<=n) (hd:0<=d) (h1:n<B) (h2:denI d<B) (h3:1<B):mkN n (denI d)<B/\mkD n (denI d)<B:=by
 have:=mkN_le hn (by have:=zdd hd;omega:0<=denI d)
 omega
theorem zh2 {xs:List Int} (hd:Dig xs) (hl:xs.length<=34359737000):val xs<65536^(68719475000:Nat):=by
 have h1:=za2 (zbf hd)
 rw[za9,zbp] at h1
 have h2:=zcv (by omega:2*xs.length<=68719475000)
 exact Int.lt_of_lt_of_le h1 h2
theorem iof_tt {w:World} {g1 g2:Bool} {q1 p1 q2 p2:Option Addr} {l1 c1 m1 e1 l2 c2 m2 e2:Nat} {nu1 de1 nu2 de2:List Int} (_h1:Sl w (.slice q1 l1 c1) nu1) (_h2:Sl w (.slice p1 m1 e1) de1) (_h3:Sl w (.slice q2 l2 c2) nu2) (_h4:Sl w (.slice p2 m2 e2) de2)
  (_b1:nu1.length<=34359737000) (_b2:de1.length<=34359737000) (_b3:nu2.length<=34359737000) (_b4:de2.length<=34359737000):Calls Tryz.prog 17 #[.agg (iA g1 q1 l1 c1 p1 m1 e1 g2 q2 l2 c2 p2 m2 e2 true true)] w fun e w'=>∃v,e=.returned v/\IAt w' v (IvC.mk g1 (val nu1) (val de1) g2 (val nu2) (val de2) true true).v/\Below w.heap.size w w':=by
 obtain⟨dd,hu,hd⟩:=zh0
 go_enter Tryz.func17,Tryz.ntmps17
 go_wp2
 refine bodyPost_ret (zae rfl _ _ (w.heap.size+1) [.bool false,.slice none 0 0,.slice none 0 0,.bool false,.slice none 0 0,.slice none 0 0,.bool true,.bool true,.bool false] dd rfl (BlkI.row (zjx w _ (iB false none 0 0 none 0 0 false none 0 0 none 0 0 true true false) 66 _)) hu hd zer) rfl ?_
 refine⟨_,rfl,?_,zbk _ _ _ _⟩
 have hv:(IvC.mk g1 (val nu1) (val de1) g2 (val nu2) (val de2) true true).v=⟨false,0,0,false,0,0,true,true,false⟩:=by simp[IvC.v,IvC.lo,IvC.hi]
 rw[hv]
 exact⟨_,_,_,_,rfl,zct _,zct _⟩
theorem iof_tf {w:World} {g1 g2:Bool} {q1 p1 q2 p2:Option Addr} {l1 c1 m1 e1 l2 c2 m2 e2:Nat} {nu1 de1 nu2 de2:List Int} (_h1:Sl w (.slice q1 l1 c1) nu1) (_h2:Sl w (.slice p1 m1 e1) de1) (h3:Sl w (.slice q2 l2 c2) nu2) (h4:Sl w (.slice p2 m2 e2) de2)
  (_b1:nu1.length<=34359737000) (_b2:de1.length<=34359737000) (b3:nu2.length<=34359737000) (b4:de2.length<=34359737000):Calls Tryz.prog 17 #[.agg (iA g1 q1 l1 c1 p1 m1 e1 g2 q2 l2 c2 p2 m2 e2 true false)] w fun e w'=>∃v,e=.returned v/\IAt w' v (IvC.mk g1 (val nu1) (val de1) g2 (val nu2) (val de2) true false).v/\Below w.heap.size w w':=by
 obtain⟨dd,hu,hd⟩:=zh0
 have hb0:Below w.heap.size w (((w.alloc (.cells (iA g1 q1 l1 c1 p1 m1 e1 g2 q2 l2 c2 p2 m2 e2 true false) 56)).alloc (.cells zA 66)).alloc (.cells (iB false none 0 0 none 0 0 false none 0 0 none 0 0 true false false) 66)):=zbk _ _ _ _
 have I0:=zlz w (iA g1 q1 l1 c1 p1 m1 e1 g2 q2 l2 c2 p2 m2 e2 true false) 56 (.cells zA 66) (.cells (iB false none 0 0 none 0 0 false none 0 0 none 0 0 true false false) 66)
 have I1:=zjx w (.cells (iA g1 q1 l1 c1 p1 m1 e1 g2 q2 l2 c2 p2 m2 e2 true false) 56) zA 66 (.cells (iB false none 0 0 none 0 0 false none 0 0 none 0 0 true false false) 66)
 have I2:=zl0 w (.cells (iA g1 q1 l1 c1 p1 m1 e1 g2 q2 l2 c2 p2 m2 e2 true false) 56) (.cells zA 66) (iB false none 0 0 none 0 0 false none 0 0 none 0 0 true false false) 66
 have hof:=zbn (g:=g2) (h3.below hb0) (h4.below hb0) (by omega) (by omega)
 have I0':Hid (BlkI _ _ _ _):=I0
 have I1':Hid (BlkI _ _ _ _):=I1
 have I2':Hid (BlkI _ _ _ _):=I2
 have aQ:=zac hb0
 clear I0 I1 I2 hb0 _h1 _h2 h3 h4
 go_enter Tryz.func17,Tryz.ntmps17
 go_wp2_with (go_at_call 40;with_reducible refine hof.mono ?_;rintro e w2 ⟨r,rfl,hq,hb2⟩
              have hq':Hid (QAt w2 r _ _ _):=hq
              obtain⟨u1,u2,nsq,dsq,rfl,k2,k3,k4,k5,k6,k7⟩:=hq
              obtain⟨qn,kn,rfl⟩:=k2.form
              obtain⟨qd,kd,rfl⟩:=k5.form
              have J0:=I0'.out.below hb2
              have J1:=I1'.out.below hb2
              have J2:=I2'.out.below hb2
              have c6:w2.cell? ⟨w.heap.size,6,none⟩=some (.bool true):=J0.cell 6
              have c7:w2.cell? ⟨w.heap.size,7,none⟩=some (.bool false):=J0.cell 7
              obtain⟨d0,d1,d2,d3,d4,d5,d6,d7,d8⟩:=J1.c9
              obtain⟨f0,f1,f2,f3,f4,f5,f6,f7,f8⟩:=J2.c9
              have fr1:=J1.fr
              have fr2:=J2.fr
              have J1':Hid (BlkI _ _ _ _):=J1
              have J2':Hid (BlkI _ _ _ _):=J2
              clear J0 J1 J2 k2 k3 k4 k5 k6 k7)
 have A2:=zdx J2'.out 3 (.bool (mkG g2 (val nu2) (denI (val de2)))) (.slice qn nsq.length kn) (.slice qd dsq.length kd)
 have Q2:=hq'.out.sav J2'.out za0 A2.2
 have B1:=J1'.out.sav A2.2 (by omega)
 have W2:Below w.heap.size w w2:=aQ.out.trans (hb2.mono aQ.out.size)
 have W3:=W2.trans (A2.2.below (B:=w.heap.size) (by omega) W2.size)
 have Q3:=Q2
 have C1:=B1
 have W4:=W3
 have A9:=ze9 C1 (.bool false) (.slice none 0 0) (.slice none 0 0) (.bool (mkG g2 (val nu2) (denI (val de2)))) (.slice qn nsq.length kn) (.slice qd dsq.length kd) (.bool true) (.bool false) (.bool false)
 have Q9:=Q3.sav C1 za0 A9.2
 have W9:=W4.trans (A9.2.below (B:=w.heap.size) (by omega) W4.size)
 refine bodyPost_ret (zae rfl _ _ (w.heap.size+1) [.bool false,.slice none 0 0,.slice none 0 0,.bool (mkG g2 (val nu2) (denI (val de2))),.slice qn nsq.length kn,.slice qd dsq.length kd,.bool true,.bool false,.bool false] dd rfl (BlkI.row A9.1) hu hd zer) rfl ?_
 refine⟨_,rfl,?_,W9⟩
 have hv:(IvC.mk g1 (val nu1) (val de1) g2 (val nu2) (val de2) true false).v=⟨false,0,0,mkG g2 (val nu2) (denI (val de2)),mkN (val nu2) (denI (val de2)),mkD (val nu2) (denI (val de2)),true,false,false⟩:=by simp[IvC.v,IvC.lo,IvC.hi]
 rw[hv]
 exact⟨_,_,_,_,rfl,zct _,Q9⟩
theorem iof_ft {w:World} {g1 g2:Bool} {q1 p1 q2 p2:Option Addr} {l1 c1 m1 e1 l2 c2 m2 e2:Nat} {nu1 de1 nu2 de2:List Int} (h1:Sl w (.slice q1 l1 c1) nu1) (h2:Sl w (.slice p1 m1 e1) de1) (_h3:Sl w (.slice q2 l2 c2) nu2) (_h4:Sl w (.slice p2 m2 e2) de2)
  (b1:nu1.length<=34359737000) (b2:de1.length<=34359737000) (_b3:nu2.length<=34359737000) (_b4:de2.length<=34359737000):Calls Tryz.prog 17 #[.agg (iA g1 q1 l1 c1 p1 m1 e1 g2 q2 l2 c2 p2 m2 e2 false true)] w fun e w'=>∃v,e=.returned v/\IAt w' v (IvC.mk g1 (val nu1) (val de1) g2 (val nu2) (val de2) false true).v/\Below w.heap.size w w':=by
 obtain⟨dd,hu,hd⟩:=zh0
 have hb0:Below w.heap.size w (((w.alloc (.cells (iA g1 q1 l1 c1 p1 m1 e1 g2 q2 l2 c2 p2 m2 e2 false true) 56)).alloc (.cells zA 66)).alloc (.cells zA 66)):=zbk _ _ _ _
 have I0:=zlz w (iA g1 q1 l1 c1 p1 m1 e1 g2 q2 l2 c2 p2 m2 e2 false true) 56 (.cells zA 66) (.cells zA 66)
 have I1:=zjx w (.cells (iA g1 q1 l1 c1 p1 m1 e1 g2 q2 l2 c2 p2 m2 e2 false true) 56) zA 66 (.cells zA 66)
 have I2:=zl0 w (.cells (iA g1 q1 l1 c1 p1 m1 e1 g2 q2 l2 c2 p2 m2 e2 false true) 56) (.cells zA 66) zA 66
 have hof:=zbn (g:=g1) (h1.below hb0) (h2.below hb0) (by omega) (by omega)
 have I0':Hid (BlkI _ _ _ _):=I0
 have I1':Hid (BlkI _ _ _ _):=I1
 have I2':Hid (BlkI _ _ _ _):=I2
 have aQ:=zac hb0
 clear I0 I1 I2 hb0 h1 h2 _h3 _h4
 go_enter Tryz.func17,Tryz.ntmps17
 go_wp2_with (go_at_call 40;with_reducible refine hof.mono ?_;rintro e w2 ⟨r,rfl,hq,hb2⟩
              have hq':Hid (QAt w2 r _ _ _):=hq
              obtain⟨u1,u2,nsq,dsq,rfl,k2,k3,k4,k5,k6,k7⟩:=hq
              obtain⟨qn,kn,rfl⟩:=k2.form
              obtain⟨qd,kd,rfl⟩:=k5.form
              have J0:=I0'.out.below hb2
              have J1:=I1'.out.below hb2
              have J2:=I2'.out.below hb2
              have c6:w2.cell? ⟨w.heap.size,6,none⟩=some (.bool false):=J0.cell 6
              have c7:w2.cell? ⟨w.heap.size,7,none⟩=some (.bool true):=J0.cell 7
              obtain⟨d0,d1,d2,d3,d4,d5,d6,d7,d8⟩:=J1.c9
              obtain⟨f0,f1,f2,f3,f4,f5,f6,f7,f8⟩:=J2.c9
              have fr1:=J1.fr
              have fr2:=J2.fr
              have J1':Hid (BlkI _ _ _ _):=J1
              have J2':Hid (BlkI _ _ _ _):=J2
              clear J0 J1 J2 k2 k3 k4 k5 k6 k7)
 have A2:=zdx J2'.out 0 (.bool (mkG g1 (val nu1) (denI (val de1)))) (.slice qn nsq.length kn) (.slice qd dsq.length kd)
 have Q2:=hq'.out.sav J2'.out za0 A2.2
 have B1:=J1'.out.sav A2.2 (by omega)
 have W2:Below w.heap.size w w2:=aQ.out.trans (hb2.mono aQ.out.size)
 have W3:=W2.trans (A2.2.below (B:=w.heap.size) (by omega) W2.size)
 have A3:Sav (w.heap.size+1+1) (((w2.setCell ⟨w.heap.size+1+1,0,none⟩ (.bool (mkG g1 (val nu1) (denI (val de1))))).setCell ⟨w.heap.size+1+1,1,none⟩ (.slice qn nsq.length kn)).setCell ⟨w.heap.size+1+1,2,none⟩ (.slice qd dsq.length kd)) ((((w2.setCell ⟨w.heap.size+1+1,0,none⟩ (.bool (mkG g1 (val nu1) (denI (val de1))))).setCell ⟨w.heap.size+1+1,1,none⟩ (.slice qn nsq.length kn)).setCell ⟨w.heap.size+1+1,2,none⟩ (.slice qd dsq.length kd)).setCell ⟨w.heap.size+1+1,7,none⟩ (.bool true)):=(Sav.of (Below.refl _ _)).setCell 7 _
 have Q3:=Q2.sav A2.1 za0 A3
 have C1:=B1.sav A3 (by omega)
 have W4:=W3.trans (A3.below (B:=w.heap.size) (by omega) W3.size)
 have A9:=ze9 C1 (.bool (mkG g1 (val nu1) (denI (val de1)))) (.slice qn nsq.length kn) (.slice qd dsq.length kd) (.bool false) (.slice none 0 0) (.slice none 0 0) (.bool false) (.bool true) (.bool false)
 have Q9:=Q3.sav C1 za0 A9.2
 have W9:=W4.trans (A9.2.below (B:=w.heap.size) (by omega) W4.size)
 refine bodyPost_ret (zae rfl _ _ (w.heap.size+1) [.bool (mkG g1 (val nu1) (denI (val de1))),.slice qn nsq.length kn,.slice qd dsq.length kd,.bool false,.slice none 0 0,.slice none 0 0,.bool false,.bool true,.bool false] dd rfl (BlkI.row A9.1) hu hd zer) rfl ?_
 refine⟨_,rfl,?_,W9⟩
 have hv:(IvC.mk g1 (val nu1) (val de1) g2 (val nu2) (val de2) false true).v=⟨mkG g1 (val nu1) (denI (val de1)),mkN (val nu1) (denI (val de1)),mkD (val nu1) (denI (val de1)),false,0,0,false,true,false⟩:=by simp[IvC.v,IvC.lo,IvC.hi]
 rw[hv]
 exact⟨_,_,_,_,rfl,Q9,zct _⟩
end Go.Proofs.YtaonejnicgbifaaGreatDoor
