import Derived.Test.YtaonejnicgbifaaGreatDoorQk33
namespace Go.Proofs.YtaonejnicgbifaaGreatDoor
open Go Go.RowKit
set_option maxRecDepth 100000
set_option maxHeartbeats 16000000
theorem zkt {w:World} {N:Nat} {t:TypeId} {y0 y1 y2 y3 y4 y5 y6 y7:Value} (h:BlkI w N t #[y0,y1,y2,y3,y4,y5,y6,y7]) (v0 v1 v2 v3 v4 v5 v6 v7:Value):
  BlkI ((((((((w.setCell ⟨N,0,none⟩ v0).setCell ⟨N,1,none⟩ v1).setCell ⟨N,2,none⟩ v2).setCell ⟨N,3,none⟩ v3).setCell ⟨N,4,none⟩ v4).setCell ⟨N,5,none⟩ v5).setCell ⟨N,6,none⟩ v6).setCell ⟨N,7,none⟩ v7) N t #[v0,v1,v2,v3,v4,v5,v6,v7]/\Sav N w ((((((((w.setCell ⟨N,0,none⟩ v0).setCell ⟨N,1,none⟩ v1).setCell ⟨N,2,none⟩ v2).setCell ⟨N,3,none⟩ v3).setCell ⟨N,4,none⟩ v4).setCell ⟨N,5,none⟩ v5).setCell ⟨N,6,none⟩ v6).setCell ⟨N,7,none⟩ v7):=by
 have a0:BlkI _ N t #[v0,y1,y2,y3,y4,y5,y6,y7]:=h.set 0 v0
 have a1:BlkI _ N t #[v0,v1,y2,y3,y4,y5,y6,y7]:=a0.set 1 v1
 have a2:BlkI _ N t #[v0,v1,v2,y3,y4,y5,y6,y7]:=a1.set 2 v2
 have a3:BlkI _ N t #[v0,v1,v2,v3,y4,y5,y6,y7]:=a2.set 3 v3
 have a4:BlkI _ N t #[v0,v1,v2,v3,v4,y5,y6,y7]:=a3.set 4 v4
 have a5:BlkI _ N t #[v0,v1,v2,v3,v4,v5,y6,y7]:=a4.set 5 v5
 have a6:BlkI _ N t #[v0,v1,v2,v3,v4,v5,v6,y7]:=a5.set 6 v6
 have a7:BlkI _ N t #[v0,v1,v2,v3,v4,v5,v6,v7]:=a6.set 7 v7
 have b:Sav N w _:=(((((((((Sav.of (Below.refl _ w)).setCell 0 v0).setCell 1 v1).setCell 2 v2).setCell 3 v3).setCell 4 v4).setCell 5 v5).setCell 6 v6).setCell 7 v7)
 exact⟨a7,b⟩
def FdR (w:World) (e:Ending) (bs:Nat->Si) (O:Option Nat):Prop:=∃(s:Si) (d:Sv),e=.returned (.tuple #[.agg (sA s d),.bool O.isSome])/\Hid (∀i,O=some i->s=bs i/\SiOk w s d)
theorem zg6 {w:World} (b o n c:Nat) (bs:Nat->Si) (ds:Nat->Sv) (hn:n<=1048576) (hb:b<w.heap.size) (hx:∀i,i<n->w.rangeAt b (o+i*9) ((bs i).cells (ds i))/\SiOk w (bs i) (ds i)) (nm:ByteArray):
  Calls Tryz.prog 15 #[.slice (some ⟨b,o,none⟩) n c,.string nm] w fun e w'=>FdR w' e bs (sdIx n bs nm)/\Below w.heap.size w w':=by
 obtain⟨dd,hu,hd⟩:=iv_row
 have hHu:=zac hu
 have hx':=zac hx
 have J0:Hid (BlkI (w.alloc (.cells zB 56)) w.heap.size 56 zB):=heap_alloc_new _ _
 have hb0:Hid (Below w.heap.size w (w.alloc (.cells zB 56))):=zaa w _
 have lb0:w.heap.size<(w.alloc (.cells zB 56)).heap.size:=by simp
 clear hx hu
 go_enter Tryz.func15,Tryz.ntmps15
 go_wp2_with fail
 go_loopw [10] (fun i wr=>∃k:Nat,k<=n/\i=.int .i64 k/\Hid (∀j,j<k->¬(bs j).m=nm)/\Hid (Below w.heap.size w wr)/\Hid (BlkI wr w.heap.size 56 zB)/\w.heap.size<wr.heap.size) (fun i _=>n - (intOf i).toNat)
 case atStart=>exact⟨0,Nat.zero_le _,rfl,fun j hj=>by omega,hb0,J0,lb0⟩
 case round=>
  obtain⟨k,hk,rfl,aE,hbw,Jr,lr⟩:=hrel
  by_cases hlt:k<n
  ·have aA:(k:Int)<(n:Int):=by omega
   have hR:=zad (hx'.out k hlt).1 hbw.out hb
   have x0:wr.cell? ⟨b,o+k*9,none⟩=some (.string (bs k).m):=by simpa using hR 0 _ rfl
   have x1:wr.cell? ⟨b,o+k*9+1,none⟩=some (.bool (bs k).g1):=by simpa using hR 1 _ rfl
   have x2:wr.cell? ⟨b,o+k*9+2,none⟩=some (.slice (ds k).q1 (ds k).l1 (ds k).c1):=by simpa using hR 2 _ rfl
   have x3:wr.cell? ⟨b,o+k*9+3,none⟩=some (.slice (ds k).p1 (ds k).m1 (ds k).e1):=by simpa using hR 3 _ rfl
   have x4:wr.cell? ⟨b,o+k*9+4,none⟩=some (.bool (bs k).g2):=by simpa using hR 4 _ rfl
   have x5:wr.cell? ⟨b,o+k*9+5,none⟩=some (.slice (ds k).q2 (ds k).l2 (ds k).c2):=by simpa using hR 5 _ rfl
   have x6:wr.cell? ⟨b,o+k*9+6,none⟩=some (.slice (ds k).p2 (ds k).m2 (ds k).e2):=by simpa using hR 6 _ rfl
   have x7:wr.cell? ⟨b,o+k*9+7,none⟩=some (.bool (bs k).li):=by simpa using hR 7 _ rfl
   have x8:wr.cell? ⟨b,o+k*9+8,none⟩=some (.bool (bs k).hh):=by simpa using hR 8 _ rfl
   have hb1:Below wr.heap.size wr (wr.alloc (.cells (sB (bs k) (ds k)) 58)):=zaa wr _
   have J1:=zac (Jr.out.below hb1)
   have B1:=zac (hbw.out.trans (hb1.mono hbw.out.size))
   obtain⟨d0,d1,d2,d3,d4,d5,d6,d7⟩:=J1.out.c8
   have fr:∀j,(wr.alloc (.cells (sB (bs k) (ds k)) 58)).frozen? ⟨w.heap.size,j,none⟩=false:=J1.out.fr
   have lr1:w.heap.size<(wr.alloc (.cells (sB (bs k) (ds k)) 58)).heap.size:=Nat.lt_of_lt_of_le lr hb1.size
   have lne:wr.heap.size≠w.heap.size:=by omega
   have he:=zit (bs k).m nm
   have P1:Hid (BlkI (wr.alloc (.cells (sB (bs k) (ds k)) 58)) wr.heap.size 58 (sB (bs k) (ds k))):=heap_alloc_new _ _
   go_upto_region 4 with fail
   clear hR hb1 x0 x1 x2 x3 x4 x5 x6 x7 x8
   generalize wr.alloc (.cells (sB (bs k) (ds k)) 58)=W at*
   obtain⟨z0,z1,z2,z3,z4,z5,z6,z7,z8⟩:=P1.out.c9
   by_cases hq:(bs k).m=nm
   ·rw[decide_eq_true hq] at he
    have hq':Hid ((bs k).m=nm):=hq
    clear hq
    go_wp2_with fail
    have A8:=zkt J1.out (.bool (bs k).g1) (.slice (ds k).q1 (ds k).l1 (ds k).c1) (.slice (ds k).p1 (ds k).m1 (ds k).e1) (.bool (bs k).g2) (.slice (ds k).q2 (ds k).l2 (ds k).c2) (.slice (ds k).p2 (ds k).m2 (ds k).e2) (.bool (bs k).li) (.bool (bs k).hh)
    have BF:=B1.out.trans (A8.2.below (B:=w.heap.size) (Nat.le_refl _) (Nat.le_of_lt lr1))
    refine bodyPost_ret (zap rfl _ _ w.heap.size [.bool (bs k).g1,.slice (ds k).q1 (ds k).l1 (ds k).c1,.slice (ds k).p1 (ds k).m1 (ds k).e1,.bool (bs k).g2,.slice (ds k).q2 (ds k).l2 (ds k).c2,.slice (ds k).p2 (ds k).m2 (ds k).e2,.bool (bs k).li,.bool (bs k).hh] dd rfl (BlkI.row A8.1) hHu.out hd zhy) rfl ?_
    have hs:sdIx n bs nm=some k:=zdf hlt hq'.out aE.out
    refine⟨⟨bs k,ds k,by rw[hs];rfl,fun i hi=>?_⟩,BF⟩
    rw[hs] at hi
    cases hi
    exact⟨rfl,(hx'.out k hlt).2.below BF⟩
   ·rw[decide_eq_false hq] at he
    have hq':Hid (¬(bs k).m=nm):=hq
    clear hq
    go_wp2_with fail
    go_roundw
    case rel=>
     refine⟨k+1,by omega,by go_num,fun j hj=>?_,B1,J1,lr1⟩
     rcases Nat.lt_or_ge j k with h | h
     ·exact aE.out j h
     ·obtain rfl:j=k:=by omega
      exact hq'.out
    case measure=>simp[intOf];omega
  ·obtain rfl:k=n:=by omega
   obtain⟨d0,d1,d2,d3,d4,d5,d6,d7⟩:=Jr.out.c8
   have fr:∀j,wr.frozen? ⟨w.heap.size,j,none⟩=false:=Jr.out.fr
   go_wp2_with fail
   have A8:=zkt Jr.out (.bool false) (.slice none 0 0) (.slice none 0 0) (.bool false) (.slice none 0 0) (.slice none 0 0) (.bool false) (.bool false)
   have BF:=hbw.out.trans (A8.2.below (B:=w.heap.size) (Nat.le_refl _) (Nat.le_of_lt lr))
   refine bodyPost_ret (zap rfl _ _ w.heap.size [.bool false,.slice none 0 0,.slice none 0 0,.bool false,.slice none 0 0,.slice none 0 0,.bool false,.bool false] dd rfl (BlkI.row A8.1) hHu.out hd zhy) rfl ?_
   have hs:sdIx k bs nm=none:=zcp aE.out
   exact⟨⟨default,default,by rw[hs];rfl,fun i hi=>by rw[hs] at hi;cases hi⟩,BF⟩
theorem zg7 {w:World} (q:Option Addr) (c:Nat) (nm:ByteArray) (bs:Nat->Si):Calls Tryz.prog 15 #[.slice q 0 c,.string nm] w fun e w'=>FdR w' e bs (sdIx 0 bs nm)/\Below w.heap.size w w':=by
 obtain⟨dd,hu,hd⟩:=iv_row
 have hHu:=zac hu
 have J0:BlkI (w.alloc (.cells zB 56)) w.heap.size 56 zB:=heap_alloc_new _ _
 have hb0:Hid (Below w.heap.size w (w.alloc (.cells zB 56))):=zaa w _
 have lb0:w.heap.size<(w.alloc (.cells zB 56)).heap.size:=by simp
 obtain⟨d0,d1,d2,d3,d4,d5,d6,d7⟩:=J0.c8
 have fr:∀j,(w.alloc (.cells zB 56)).frozen? ⟨w.heap.size,j,none⟩=false:=J0.fr
 have J0:=zac J0
 clear hu
 go_enter Tryz.func15,Tryz.ntmps15
 go_upto_region 1 with fail
 generalize w.alloc (.cells zB 56)=W at*
 go_wp2_with fail
 refine wp_loop_once ?_
 go_wp2_with fail
 have A8:=zkt J0.out (.bool false) (.slice none 0 0) (.slice none 0 0) (.bool false) (.slice none 0 0) (.slice none 0 0) (.bool false) (.bool false)
 have BF:=hb0.out.trans (A8.2.below (B:=w.heap.size) (Nat.le_refl _) (Nat.le_of_lt lb0))
 refine bodyPost_ret (zap rfl _ _ w.heap.size [.bool false,.slice none 0 0,.slice none 0 0,.bool false,.slice none 0 0,.slice none 0 0,.bool false,.bool false] dd rfl (BlkI.row A8.1) hHu.out hd zhy) rfl ?_
 have hs:sdIx 0 bs nm=none:=zcp (fun j hj=>by omega)
 exact⟨⟨default,default,by rw[hs];rfl,fun i hi=>by rw[hs] at hi;cases hi⟩,BF⟩
theorem zku {w:World} {q:Option Addr} {n:Nat} (c:Nat) {bs:Nat->Si} (h:SisOk w q n bs) (hn:n<=1048576) (nm:ByteArray):Calls Tryz.prog 15 #[.slice q n c,.string nm] w fun e w'=>FdR w' e bs (sdIx n bs nm)/\Below w.heap.size w w':=by
 rcases h with rfl | ⟨b,o,rfl,hlt,ds,hds⟩
 ·exact zg7 q c nm bs
 ·exact zg6 b o n c bs ds hn hlt hds nm
theorem zg8 {w:World} {g1s g2s lis hhs ems g1t g2t lit hht emt:Bool} {a1s b1s c1s d1s a1t b1t c1t d1t:Option Addr} {a2s a3s b2s b3s c2s c3s d2s d3s a2t a3t b2t b3t c2t c3t d2t d3t:Nat} {R Q:Int} (h1:(CA w 39 #[.agg (qA g1t a1t a2t a3t b1t b2t b3t),.agg (qA g1s a1s a2s a3s b1s b2s b3s)] (.int .i64 R))) (h2:(CA w 39 #[.agg (qA g2s c1s c2s c3s d1s d2s d3s),.agg (qA g2t c1t c2t c3t d1t d2t d3t)] (.int .i64 Q))):
  Calls Tryz.prog 16 #[.agg (iB g1s a1s a2s a3s b1s b2s b3s g2s c1s c2s c3s d1s d2s d3s lis hhs ems),.agg (iB g1t a1t a2t a3t b1t b2t b3t g2t c1t c2t c3t d1t d2t d3t lit hht emt)] w fun e w'=>e=.returned (.bool (if ems||emt then ems else((lit||(!lis&&decide (R<=0)))&&(hht||(!hhs&&decide (Q<=0))))))/\Below w.heap.size w w':=by
 have h1':=zac h1
 have h2':=zac h2
 have hb0:Hid (Below w.heap.size w ((w.alloc (.cells (iB g1s a1s a2s a3s b1s b2s b3s g2s c1s c2s c3s d1s d2s d3s lis hhs ems) 66)).alloc (.cells (iB g1t a1t a2t a3t b1t b2t b3t g2t c1t c2t c3t d1t d2t d3t lit hht emt) 66))):=zah w _ _
 have J0:Hid (BlkI ((w.alloc (.cells (iB g1s a1s a2s a3s b1s b2s b3s g2s c1s c2s c3s d1s d2s d3s lis hhs ems) 66)).alloc (.cells (iB g1t a1t a2t a3t b1t b2t b3t g2t c1t c2t c3t d1t d2t d3t lit hht emt) 66)) w.heap.size 66 (iB g1s a1s a2s a3s b1s b2s b3s g2s c1s c2s c3s d1s d2s d3s lis hhs ems)):=by
  have h:BlkI (w.alloc (.cells (iB g1s a1s a2s a3s b1s b2s b3s g2s c1s c2s c3s d1s d2s d3s lis hhs ems) 66)) w.heap.size 66 (iB g1s a1s a2s a3s b1s b2s b3s g2s c1s c2s c3s d1s d2s d3s lis hhs ems):=heap_alloc_new _ _
  exact h.below (zaa _ _)
 have J1:Hid (BlkI ((w.alloc (.cells (iB g1s a1s a2s a3s b1s b2s b3s g2s c1s c2s c3s d1s d2s d3s lis hhs ems) 66)).alloc (.cells (iB g1t a1t a2t a3t b1t b2t b3t g2t c1t c2t c3t d1t d2t d3t lit hht emt) 66)) (w.heap.size+1) 66 (iB g1t a1t a2t a3t b1t b2t b3t g2t c1t c2t c3t d1t d2t d3t lit hht emt)):=by
  have h:BlkI ((w.alloc (.cells (iB g1s a1s a2s a3s b1s b2s b3s g2s c1s c2s c3s d1s d2s d3s lis hhs ems) 66)).alloc (.cells (iB g1t a1t a2t a3t b1t b2t b3t g2t c1t c2t c3t d1t d2t d3t lit hht emt) 66)) (w.alloc (.cells (iB g1s a1s a2s a3s b1s b2s b3s g2s c1s c2s c3s d1s d2s d3s lis hhs ems) 66)).heap.size 66 (iB g1t a1t a2t a3t b1t b2t b3t g2t c1t c2t c3t d1t d2t d3t lit hht emt):=heap_alloc_new _ _
  rwa [show (w.alloc (.cells (iB g1s a1s a2s a3s b1s b2s b3s g2s c1s c2s c3s d1s d2s d3s lis hhs ems) 66)).heap.size=w.heap.size+1 by simp] at h
 clear h1 h2
 cases ems with
 | true=>
  go_enter Tryz.func16,Tryz.ntmps16
  go_wp2_with fail
  go_ret
  exact⟨rfl,hb0.out⟩
 | false=>
  cases emt with
  | true=>
   go_enter Tryz.func16,Tryz.ntmps16
   go_wp2_with fail
   go_ret
   exact⟨rfl,hb0.out⟩
  | false=>
   rw[if_neg (by simp)]
   obtain⟨LL,hLL⟩:∃b,Hid ((lit||(!lis&&decide (R<=0)))=b):=⟨_,rfl⟩
   obtain⟨HH,hHH⟩:∃b,Hid ((hht||(!hhs&&decide (Q<=0)))=b):=⟨_,rfl⟩
   rw[hLL.out,hHH.out]
   go_enter Tryz.func16,Tryz.ntmps16
   go_upto_region 3 with fail
   generalize ((w.alloc (.cells (iB g1s a1s a2s a3s b1s b2s b3s g2s c1s c2s c3s d1s d2s d3s lis hhs false) 66)).alloc (.cells (iB g1t a1t a2t a3t b1t b2t b3t g2t c1t c2t c3t d1t d2t d3t lit hht false) 66))=W at*
   obtain⟨y0,y1,y2,y3,y4,y5,y6,y7,-⟩:=J0.out.c9
   obtain⟨z0,z1,z2,z3,z4,z5,z6,z7,-⟩:=J1.out.c9
   go_cut [5] from 15 to 29 (fun v5 wx=>v5=.bool LL/\Hid (Below w.heap.size w wx)/\Hid (BlkI wx w.heap.size 66 (iB g1s a1s a2s a3s b1s b2s b3s g2s c1s c2s c3s d1s d2s d3s lis hhs false))/\Hid (BlkI wx (w.heap.size+1) 66 (iB g1t a1t a2t a3t b1t b2t b3t g2t c1t c2t c3t d1t d2t d3t lit hht false)))
   case first=>
    have hc:=h1'.out W hb0.out
    clear h1' h2' hHH
    cases lit with
    | true=>
     go_wp2_with fail
     go_meet
     case rel=>exact⟨by rw[<-hLL.out];rfl,hb0,J0,J1⟩
    | false=>
     cases lis with
     | true=>
      go_wp2_with fail
      go_meet
      case rel=>exact⟨by rw[<-hLL.out];rfl,hb0,J0,J1⟩
     | false=>
      have hRd:Hid (decide (R<=0)=LL):=by show decide (R<=0)=LL;rw[<-hLL.out];rfl
      go_wp2_with (go_at_call 39;with_reducible refine hc.mono ?_;rintro r w3 ⟨rfl,hb3⟩)
      go_meet
      case rel=>exact⟨by rw[<-hRd.out],hb0.out.trans (hb3.mono hb0.out.size),J0.out.below hb3,J1.out.below hb3⟩
   case rest=>
    obtain⟨rfl,Bc,K0,K1⟩:=hcut
    clear y0 z0 y1 z1 y2 z2 y3 z3 y4 z4 y5 z5 y6 z6 y7 z7 J0 J1 hb0 h1'
    obtain⟨y0,y1,y2,y3,y4,y5,y6,y7,-⟩:=K0.out.c9
    obtain⟨z0,z1,z2,z3,z4,z5,z6,z7,-⟩:=K1.out.c9
    have hc:=h2'.out wc Bc.out
    clear h2'
    cases hht with
    | true=>
     have hH:HH=true:=by rw[<-hHH.out];rfl
     subst hH
     cases LL with
     | true=>
      go_wp2_with fail
      go_ret
      exact⟨rfl,Bc.out⟩
     | false=>
      go_wp2_with fail
      go_ret
      exact⟨rfl,Bc.out⟩
    | false=>
     cases hhs with
     | true=>
      have hH:HH=false:=by rw[<-hHH.out];rfl
      subst hH
      cases LL with
      | true=>
       go_wp2_with fail
       go_ret
       exact⟨rfl,Bc.out⟩
      | false=>
       go_wp2_with fail
       go_ret
       exact⟨rfl,Bc.out⟩
     | false=>
      have hRd:decide (Q<=0)=HH:=by rw[<-hHH.out];rfl
      have hRd:Hid (decide (Q<=0)=HH):=hRd
      cases LL with
      | true=>
       go_wp2_with (go_at_call 39;with_reducible refine hc.mono ?_;rintro r w3 ⟨rfl,hb3⟩)
       go_ret
       exact⟨by rw[<-hRd.out];simp,Bc.out.trans (hb3.mono Bc.out.size)⟩
      | false=>
       go_wp2_with (go_at_call 39;with_reducible refine hc.mono ?_;rintro r w3 ⟨rfl,hb3⟩)
       go_ret
       exact⟨by simp,Bc.out.trans (hb3.mono Bc.out.size)⟩
theorem zkv {w:World} {a b:Value} {s t:IvV} {L:Nat} (hs:IAt w a s) (ht:IAt w b t) (hL:L<=68719476000) (l1:QLt L s.n1 s.d1) (l2:QLt L s.n2 s.d2) (l3:QLt L t.n1 t.d1) (l4:QLt L t.n2 t.d2):
  Calls Tryz.prog 16 #[a,b] w fun e w'=>e=.returned (.bool (s.wi t))/\Below w.heap.size w w':=by
 obtain⟨x1,x2,x3,x4,rfl,q1,q2⟩:=hs
 obtain⟨y1,y2,y3,y4,rfl,q3,q4⟩:=ht
 obtain⟨_,_,_,_,_,_,e1⟩:=q1.form
 obtain⟨_,_,_,_,_,_,e2⟩:=q2.form
 obtain⟨_,_,_,_,_,_,e3⟩:=q3.form
 obtain⟨_,_,_,_,_,_,e4⟩:=q4.form
 simp only[Value.agg.injEq,Array.mk.injEq,List.cons.injEq,and_true,true_and] at e1 e2 e3 e4
 obtain⟨rfl,rfl⟩:=e1
 obtain⟨rfl,rfl⟩:=e2
 obtain⟨rfl,rfl⟩:=e3
 obtain⟨rfl,rfl⟩:=e4
 exact zg8 (R:=qS (t.g1,t.n1,t.d1) (s.g1,s.n1,s.d1)) (Q:=qS (s.g2,s.n2,s.d2) (t.g2,t.n2,t.d2)) (fun z hz=>ze4 (q3.below hz) (q1.below hz) hL l3 l1) (fun z hz=>ze4 (q2.below hz) (q4.below hz) hL l2 l4)
theorem any_no {n:Nat} {P:Nat->Bool} (h:∀j,j<n->P j=false):(List.range n).any P=false:=by
 rw[List.any_eq_false]
 intro j hj
 rw[h j (List.mem_range.1 hj)]
 simp
theorem zkw {n:Nat} {P:Nat->Bool} {j:Nat} (hj:j<n) (h:P j=true):(List.range n).any P=true:=by
 rw[List.any_eq_true]
 exact⟨j,List.mem_range.2 hj,h⟩
theorem zi4 {w:World} {kc fc ke fe:Int} {gc ge stc ste:Bool} {ac dc qc ae de qe bxc cxc:Option Addr} {anc acc dnc dcc qnc qcc nbc bcc ncc ccc ane ace dne dce qne qce:Nat} {nc ne:ByteArray} {ks:Nat->Co} {ds:Nat->Nd} {S:Nat->Bool}
  (hs:(ncc=0\/∃b o,cxc=some ⟨b,o,none⟩/\b<w.heap.size/\∀i,i<ncc->w.rangeAt b (o+i*8) ((ks i).cells (ds i)))) (hE:(∀j,j<ncc->CA w 14 #[.agg (nA (ds j)),.agg (mA ke fe ge ae ane ace de dne dce ne qe qne qce)] (.tuple #[.bool (S j),.int .i64 0]))) (l3:ncc<=1048576):
  Calls Tryz.prog 18 #[.agg (mC kc fc gc ac anc acc dc dnc dcc nc qc qnc qcc stc bxc nbc bcc cxc ncc ccc),.agg (mB ke fe ge ae ane ace de dne dce ne qe qne qce ste)] w fun e w'=>e=.returned (.bool ((List.range ncc).any fun j=>S j&&((ks j).st||!ste)))/\Below w.heap.size w w':=by
 have hs':=zac hs
 have hE':=zac hE
 have hb0:Hid (Below w.heap.size w ((w.alloc (.cells (mC kc fc gc ac anc acc dc dnc dcc nc qc qnc qcc stc bxc nbc bcc cxc ncc ccc) 34)).alloc (.cells (mB ke fe ge ae ane ace de dne dce ne qe qne qce ste) 50))):=zah w _ _
 have J0:BlkI ((w.alloc (.cells (mC kc fc gc ac anc acc dc dnc dcc nc qc qnc qcc stc bxc nbc bcc cxc ncc ccc) 34)).alloc (.cells (mB ke fe ge ae ane ace de dne dce ne qe qne qce ste) 50)) w.heap.size 34 (mC kc fc gc ac anc acc dc dnc dcc nc qc qnc qcc stc bxc nbc bcc cxc ncc ccc):=by
  have h:BlkI (w.alloc (.cells (mC kc fc gc ac anc acc dc dnc dcc nc qc qnc qcc stc bxc nbc bcc cxc ncc ccc) 34)) w.heap.size 34 (mC kc fc gc ac anc acc dc dnc dcc nc qc qnc qcc stc bxc nbc bcc cxc ncc ccc):=heap_alloc_new _ _
  exact h.below (zaa _ _)
 have J1:Hid (BlkI ((w.alloc (.cells (mC kc fc gc ac anc acc dc dnc dcc nc qc qnc qcc stc bxc nbc bcc cxc ncc ccc) 34)).alloc (.cells (mB ke fe ge ae ane ace de dne dce ne qe qne qce ste) 50)) (w.heap.size+1) 50 (mB ke fe ge ae ane ace de dne dce ne qe qne qce ste)):=by
  have h:BlkI ((w.alloc (.cells (mC kc fc gc ac anc acc dc dnc dcc nc qc qnc qcc stc bxc nbc bcc cxc ncc ccc) 34)).alloc (.cells (mB ke fe ge ae ane ace de dne dce ne qe qne qce ste) 50)) (w.alloc (.cells (mC kc fc gc ac anc acc dc dnc dcc nc qc qnc qcc stc bxc nbc bcc cxc ncc ccc) 34)).heap.size 50 (mB ke fe ge ae ane ace de dne dce ne qe qne qce ste):=heap_alloc_new _ _
  rwa [show (w.alloc (.cells (mC kc fc gc ac anc acc dc dnc dcc nc qc qnc qcc stc bxc nbc bcc cxc ncc ccc) 34)).heap.size=w.heap.size+1 by simp] at h
 obtain⟨Z,hZ⟩:∃Z,Hid (((List.range ncc).any fun j=>S j&&((ks j).st||!ste))=Z):=⟨_,rfl⟩
 rw[hZ.out]
 clear hs hE
 go_enter Tryz.func18,Tryz.ntmps18
 go_upto_region 1 with fail
 generalize ((w.alloc (.cells (mC kc fc gc ac anc acc dc dnc dcc nc qc qnc qcc stc bxc nbc bcc cxc ncc ccc) 34)).alloc (.cells (mB ke fe ge ae ane ace de dne dce ne qe qne qce ste) 50))=W at*
 have y9:W.cell? ⟨w.heap.size,9,none⟩=some (.slice cxc ncc ccc):=J0.cell 9
 clear J0
 go_wp2_with fail
 go_loopw [12] (fun t wr=>∃j:Nat,j<=ncc/\t=.int .i64 j/\Hid (∀p,p<j->(S p&&((ks p).st||!ste))=false)/\Hid (Below w.heap.size w wr)/\Hid (BlkI wr (w.heap.size+1) 50 (mB ke fe ge ae ane ace de dne dce ne qe qne qce ste))) (fun t _=>ncc - (intOf t).toNat)
 case atStart=>exact⟨0,Nat.zero_le _,rfl,fun j hj=>by omega,hb0,J1⟩
 case round=>
  obtain⟨j,hj,rfl,aE,Br,Jr⟩:=hrel
  clear y9 J1 hb0
  by_cases hlt:j<ncc
  ·have aA:(j:Int)<(ncc:Int):=by omega
   obtain⟨b,o,rfl,hbl,hr⟩:=hs'.out.resolve_left (by omega)
   have hr:=zad (hr j hlt) Br.out hbl
   have x0:wr.cell? ⟨b,o+j*8,none⟩=some (.int .i64 (ds j).k):=by simpa using hr 0 _ rfl
   have x1:wr.cell? ⟨b,o+j*8+1,none⟩=some (.int .i64 (ds j).f):=by simpa using hr 1 _ rfl
   have x2:wr.cell? ⟨b,o+j*8+2,none⟩=some (.bool (ds j).neg):=by simpa using hr 2 _ rfl
   have x3:wr.cell? ⟨b,o+j*8+3,none⟩=some (.slice (ds j).aq (ds j).an (ds j).ac):=by simpa using hr 3 _ rfl
   have x4:wr.cell? ⟨b,o+j*8+4,none⟩=some (.slice (ds j).cq (ds j).cn (ds j).cc):=by simpa using hr 4 _ rfl
   have x5:wr.cell? ⟨b,o+j*8+5,none⟩=some (.string (ds j).m):=by simpa using hr 5 _ rfl
   have x6:wr.cell? ⟨b,o+j*8+6,none⟩=some (.slice (ds j).sq (ds j).sn (ds j).sc):=by simpa using hr 6 _ rfl
   have x7:wr.cell? ⟨b,o+j*8+7,none⟩=some (.bool (ks j).st):=by simpa using hr 7 _ rfl
   have hbB:Below wr.heap.size wr (wr.alloc (.cells #[.int .i64 (ds j).k,.int .i64 (ds j).f,.bool (ds j).neg,.slice (ds j).aq (ds j).an (ds j).ac,.slice (ds j).cq (ds j).cn (ds j).cc,.string (ds j).m,.slice (ds j).sq (ds j).sn (ds j).sc,.bool (ks j).st] 50)):=zaa wr _
   have BB:=zac (Br.out.trans (hbB.mono Br.out.size))
   have lB:wr.heap.size<(wr.alloc (.cells #[.int .i64 (ds j).k,.int .i64 (ds j).f,.bool (ds j).neg,.slice (ds j).aq (ds j).an (ds j).ac,.slice (ds j).cq (ds j).cn (ds j).cc,.string (ds j).m,.slice (ds j).sq (ds j).sn (ds j).sc,.bool (ks j).st] 50)).heap.size:=by simp
   have JB:Hid (BlkI (wr.alloc (.cells #[.int .i64 (ds j).k,.int .i64 (ds j).f,.bool (ds j).neg,.slice (ds j).aq (ds j).an (ds j).ac,.slice (ds j).cq (ds j).cn (ds j).cc,.string (ds j).m,.slice (ds j).sq (ds j).sn (ds j).sc,.bool (ks j).st] 50)) wr.heap.size 50 #[.int .i64 (ds j).k,.int .i64 (ds j).f,.bool (ds j).neg,.slice (ds j).aq (ds j).an (ds j).ac,.slice (ds j).cq (ds j).cn (ds j).cc,.string (ds j).m,.slice (ds j).sq (ds j).sn (ds j).sc,.bool (ks j).st]):=heap_alloc_new _ _
   have JE:=zac (Jr.out.below hbB)
   have he1:=hE'.out j hlt _ BB.out
   obtain⟨V,hV⟩:∃V,S j=V:=⟨_,rfl⟩
   have hV:Hid (S j=V):=hV
   rw[hV.out] at he1
   go_upto_region 4 with fail
   clear hr x0 x1 x2 x3 x4 x5 x6 x7 hbB
   generalize (wr.alloc (.cells #[.int .i64 (ds j).k,.int .i64 (ds j).f,.bool (ds j).neg,.slice (ds j).aq (ds j).an (ds j).ac,.slice (ds j).cq (ds j).cn (ds j).cc,.string (ds j).m,.slice (ds j).sq (ds j).sn (ds j).sc,.bool (ks j).st] 50))=W4 at*
   obtain⟨x0,x1,x2,x3,x4,x5,x6,x7⟩:=JB.out.c8
   obtain⟨y0,y1,y2,y3,y4,y5,y6,y7⟩:=JE.out.c8
   cases V with
   | false=>
    have hF:Hid ((S j&&((ks j).st||!ste))=false):=by show _=false;rw[hV.out];rfl
    go_wp2_with (go_at_call 14;with_reducible refine he1.mono ?_;rintro r w5 ⟨rfl,hb5⟩
                 have B5:Hid (Below w.heap.size w w5):=BB.out.trans (hb5.mono BB.out.size)
                 have J5:=zac (JE.out.below hb5)
                 have u7:w5.cell? ⟨wr.heap.size,7,none⟩=some (.bool (ks j).st):=(JB.out.below hb5).cell 7
                 have v7:w5.cell? ⟨w.heap.size+1,7,none⟩=some (.bool ste):=J5.out.cell 7)
    go_roundw
    case rel=>
     refine⟨j+1,by omega,by go_num,fun p hp=>?_,B5,J5⟩
     rcases Nat.lt_or_ge p j with h | h
     ·exact aE.out p h
     ·obtain rfl:p=j:=by omega
      exact hF.out
    case measure=>simp[intOf];omega
   | true=>
    obtain⟨A,hA⟩:∃A,(ks j).st=A:=⟨_,rfl⟩
    have hF1:(S j&&((ks j).st||!ste))=(A||!ste):=by rw[hV.out,hA];rfl
    have hF1:=zac hF1
    have hA':Hid ((ks j).st=A):=hA
    cases A with
    | true=>
     have hF:Hid ((S j&&((ks j).st||!ste))=true):=by show _=true;rw[hF1.out];rfl
     go_wp2_with (go_at_call 14;with_reducible refine he1.mono ?_;rintro r w5 ⟨rfl,hb5⟩
                  have B5:Hid (Below w.heap.size w w5):=BB.out.trans (hb5.mono BB.out.size)
                  have J5:=zac (JE.out.below hb5)
                  have u7:w5.cell? ⟨wr.heap.size,7,none⟩=some (.bool (ks j).st):=(JB.out.below hb5).cell 7
                  have v7:w5.cell? ⟨w.heap.size+1,7,none⟩=some (.bool ste):=J5.out.cell 7)
     go_ret
     exact⟨by rw[<-hZ.out,zkw hlt hF.out];rfl,B5.out⟩
    | false=>
     cases ste with
     | true=>
      have hF:Hid ((S j&&((ks j).st||!true))=false):=by show _=false;rw[hF1.out];rfl
      go_wp2_with (go_at_call 14;with_reducible refine he1.mono ?_;rintro r w5 ⟨rfl,hb5⟩
                   have B5:Hid (Below w.heap.size w w5):=BB.out.trans (hb5.mono BB.out.size)
                   have J5:=zac (JE.out.below hb5)
                   have u7:w5.cell? ⟨wr.heap.size,7,none⟩=some (.bool (ks j).st):=(JB.out.below hb5).cell 7
                   have v7:w5.cell? ⟨w.heap.size+1,7,none⟩=some (.bool true):=J5.out.cell 7)
      go_roundw
      case rel=>
       refine⟨j+1,by omega,by go_num,fun p hp=>?_,B5,J5⟩
       rcases Nat.lt_or_ge p j with h | h
       ·exact aE.out p h
       ·obtain rfl:p=j:=by omega
        exact hF.out
      case measure=>simp[intOf];omega
     | false=>
      have hF:Hid ((S j&&((ks j).st||!false))=true):=by show _=true;rw[hF1.out];rfl
      go_wp2_with (go_at_call 14;with_reducible refine he1.mono ?_;rintro r w5 ⟨rfl,hb5⟩
                   have B5:Hid (Below w.heap.size w w5):=BB.out.trans (hb5.mono BB.out.size)
                   have J5:=zac (JE.out.below hb5)
                   have u7:w5.cell? ⟨wr.heap.size,7,none⟩=some (.bool (ks j).st):=(JB.out.below hb5).cell 7
                   have v7:w5.cell? ⟨w.heap.size+1,7,none⟩=some (.bool false):=J5.out.cell 7)
      go_ret
      exact⟨by rw[<-hZ.out,zkw hlt hF.out];rfl,B5.out⟩
  ·obtain rfl:j=ncc:=by omega
   go_wp2_with fail
   go_ret
   exact⟨by rw[<-hZ.out,any_no aE.out];rfl,Br.out⟩
theorem given_ok {w:World} {C:Cl} {DC:Cd} {K:Co} {e:Nd} (hC:ClOk w C DC) (hK:ExOk w K.x e) (vC:∀i,i<C.nc->exV (C.cs i).x=true) (vK:exV K.x=true):
  Calls Tryz.prog 18 #[.agg (C.cells DC).toArray,.agg (K.cells e).toArray] w fun r w'=>r=.returned (.bool ((List.range C.nc).any fun j=>coSv (C.cs j) K))/\Below w.heap.size w w':=by
 obtain⟨c1,c2,c3,c4,c5⟩:=hC
 obtain⟨cd,hcd⟩:∃cd:Nat->Nd,C.nc=0\/∃b o,DC.cq=some ⟨b,o,none⟩/\b<w.heap.size/\∀i,i<C.nc->w.rangeAt b (o+i*8) ((C.cs i).cells (cd i))/\ExOk w (C.cs i).x (cd i):=by
  rcases c5 with h | ⟨b,o,e,hb,ds,hds⟩
  ·exact⟨default,.inl h⟩
  ·exact⟨ds,.inr ⟨b,o,e,hb,hds⟩⟩
 have eC:∀i,i<C.nc->ExOk w (C.cs i).x (cd i):=fun i hi=>by
  obtain⟨_,_,_,_,h⟩:=hcd.resolve_left (by omega)
  exact(h i hi).2
 have h:=zi4 (kc:=DC.d.k) (fc:=DC.d.f) (gc:=DC.d.neg) (stc:=C.st) (ac:=DC.d.aq) (dc:=DC.d.cq) (qc:=DC.d.sq) (bxc:=DC.bq) (cxc:=DC.cq) (anc:=DC.d.an) (acc:=DC.d.ac) (dnc:=DC.d.cn) (dcc:=DC.d.cc) (qnc:=DC.d.sn) (qcc:=DC.d.sc) (nbc:=C.nb) (bcc:=DC.bc) (ncc:=C.nc) (ccc:=DC.cc) (nc:=DC.d.m)
  (ke:=e.k) (fe:=e.f) (ge:=e.neg) (ste:=K.st) (ae:=e.aq) (de:=e.cq) (qe:=e.sq) (ane:=e.an) (ace:=e.ac) (dne:=e.cn) (dce:=e.cc) (qne:=e.sn) (qce:=e.sc) (ne:=e.m) (ks:=C.cs) (ds:=cd) (S:=fun j=>(C.cs j).x.sm K.x)
  (hcd.imp id fun⟨b,o,e,hb,h⟩=>⟨b,o,e,hb,fun i hi=>(h i hi).1⟩) (fun j hj z hz=>ze0 ((eC j hj).below hz) (hK.below hz) (vC j hj) vK) c3
 have hr:((List.range C.nc).any fun j=>(C.cs j).x.sm K.x&&((C.cs j).st||!K.st))=(List.range C.nc).any fun j=>coSv (C.cs j) K:=by
  congr 1
  funext j
  unfold coSv
  rw[Bool.and_comm]
 rw[hr] at h
 exact h
def cvV (L:List Ky) (Cs:Nat->Cl) (k:Ky) (C:Cl):Value:=
 match ixK L k with
 | none=>.tuple #[.bool false,.int .i64 90]
 | some i=>if C.vld&&(Cs i).vld then .tuple #[.bool (covS (Cs i) C),.int .i64 0] else .tuple #[.bool false,.int .i64 60]
theorem En.claim_cells {w:World} {e:En} {C:Cl} {D:Cd} (h:EnCl w e C D) {b o:Nat} (hr:w.rangeAt b o e.cells):∀(j:Nat) (v:Value),(C.cells D)[j]?=some v->w.cell? ⟨b,o+2+j,none⟩=some v:=by
 obtain⟨pr,h1,h2,_⟩:=h
 intro j v hv
 have:=hr (2+j) v (by
  unfold En.cells
  rw[show 2+j=(j+1)+1 from by omega,List.getElem?_cons_succ,List.getElem?_cons_succ,h2,List.getElem?_append_left (List.getElem?_eq_some_iff.1 hv).1]
  exact hv)
 rwa [<-Nat.add_assoc] at this
theorem zi5 {w:World} {q:Option Addr} {n:Nat} (c:Nat) {L:List En} {Cs:Nat->Cl} (hL:LibOk w q n L) (hCl:LibCl w L Cs) (k:Ky) {C:Cl} {DC:Cd} (hC:ClOk w C DC) (hT:Tb w):
  Calls Tryz.prog 5 #[.slice q n c,.agg #[.string k.1,.int .i64 k.2],.agg (C.cells DC).toArray] w fun e w'=>e=.returned (cvV (L.map (·.k)) Cs k C)/\Below w.heap.size w w':=by
 have hb0:Below w.heap.size w ((w.alloc (.cells #[.string k.1,.int .i64 k.2] 24)).alloc (.cells (nC DC.d C.st DC.bq C.nb DC.bc DC.cq C.nc DC.cc) 34)):=zah w _ _
 have hix:=index_ok c (hL.below hb0) k
 have l0:w.heap.size+1<((w.alloc (.cells #[.string k.1,.int .i64 k.2] 24)).alloc (.cells (nC DC.d C.st DC.bq C.nb DC.bc DC.cq C.nc DC.cc) 34)).heap.size:=by simp
 have hb0:=zac hb0
 have hL':Hid (LibOk w q n L):=hL
 have gX:Hid (LibCl w L Cs):=hCl
 have hv1:Hid (CA w 10 #[.agg (nC DC.d C.st DC.bq C.nb DC.bc DC.cq C.nc DC.cc)] (.bool C.vld)):=fun z hz=>zet (hC.below hz) (hT.below hz)
 have hC':Hid (ClOk w C DC):=hC
 have hT':Hid (Tb w):=hT
 have J0:Hid (BlkI ((w.alloc (.cells #[.string k.1,.int .i64 k.2] 24)).alloc (.cells (nC DC.d C.st DC.bq C.nb DC.bc DC.cq C.nc DC.cc) 34)) (w.heap.size+1) 34 (nC DC.d C.st DC.bq C.nb DC.bc DC.cq C.nc DC.cc)):=by
  have h:BlkI ((w.alloc (.cells #[.string k.1,.int .i64 k.2] 24)).alloc (.cells (nC DC.d C.st DC.bq C.nb DC.bc DC.cq C.nc DC.cc) 34)) (w.alloc (.cells #[.string k.1,.int .i64 k.2] 24)).heap.size 34 (nC DC.d C.st DC.bq C.nb DC.bc DC.cq C.nc DC.cc):=heap_alloc_new _ _
  rwa [show (w.alloc (.cells #[.string k.1,.int .i64 k.2] 24)).heap.size=w.heap.size+1 by simp] at h
 obtain⟨Z,hZ⟩:∃Z,Hid (cvV (L.map (·.k)) Cs k C=Z):=⟨_,rfl⟩
 rw[hZ.out]
 show Calls _ _ #[.slice q n c,.agg #[.string k.1,.int .i64 k.2],.agg (nC DC.d C.st DC.bq C.nb DC.bc DC.cq C.nc DC.cc)] _ _
 clear hL hCl hC hT
 cases hi:ixK (L.map (·.k)) k with
 | none=>
  have cZ:(-1:Int)<0:=by decide
  have hr:ixI (L.map (·.k)) k=-1:=by unfold ixI;rw[hi]
  rw[hr] at hix
  have hZ2:Hid (Z=.tuple #[.bool false,.int .i64 90]):=by show Z=_;rw[<-hZ.out];unfold cvV;rw[hi]
  clear hi hr hZ
  go_enter Tryz.func5,Tryz.ntmps5
  go_wp2_with (go_at_call 9;with_reducible refine hix.mono ?_;rintro r w3 ⟨rfl,hb3⟩)
  go_ret2
  exact⟨by rw[hZ2.out];rfl,hb0.out.trans (hb3.mono hb0.out.size)⟩
 | some i=>
  have hr:ixI (L.map (·.k)) k=(i:Int):=by unfold ixI;rw[hi]
  rw[hr] at hix
  have aS:=zk2 hi
  obtain⟨e,he,hek⟩:∃e,L[i]?=some e/\e.k=k:=by
   rw[List.getElem?_map,Option.map_eq_some_iff] at aS
   exact aS
  have hZ2:Hid (Z=if C.vld&&(Cs i).vld then .tuple #[.bool (covS (Cs i) C),.int .i64 0] else .tuple #[.bool false,.int .i64 60]):=by show Z=_;rw[<-hZ.out];unfold cvV;rw[hi]
  obtain⟨g1,g2,g3,g4⟩:=hL'.out
  have hin:i<n:=by rw[<-g1];exact(List.getElem?_eq_some_iff.1 he).1
  obtain⟨b,o,rfl,hbl,cS⟩:=g4.resolve_left (by omega)
  have cS:=cS i e he
  obtain⟨Ds,hDs⟩:=gX.out
  have hEn:=hDs i e he
  obtain⟨M,hM⟩:∃M,Cs i=M:=⟨_,rfl⟩
  obtain⟨DM,hDM⟩:∃D,Ds i=D:=⟨_,rfl⟩
  rw[hM,hDM] at hEn
  rw[hM] at hZ2
  have hcl:Hid (∀z,Below w.heap.size w z->∀j v,(M.cells DM)[j]?=some v->z.cell? ⟨b,o+i*33+2+j,none⟩=some v):=fun z hz=>En.claim_cells (hEn.below hz) (zad cS hz hbl)
  have hMo:Hid (ClOk w M DM):=by obtain⟨_,_,_,h⟩:=hEn;exact h
  have hv2:Hid (CA w 10 #[.agg (nC DM.d M.st DM.bq M.nb DM.bc DM.cq M.nc DM.cc)] (.bool M.vld)):=fun z hz=>zet (hMo.out.below hz) (hT'.out.below hz)
  have hcv:Hid (M.vld=true->C.vld=true->CA w 11 #[.agg (nC DM.d M.st DM.bq M.nb DM.bc DM.cq M.nc DM.cc),.agg (nC DC.d C.st DC.bq C.nb DC.bc DC.cq C.nc DC.cc)] (.bool (covS M C))):=fun v1 v2 z hz=>zlt (hMo.out.below hz) (hC'.out.below hz) (hT'.out.below hz) v1 v2
  have gY:(i:Int)<(n:Int):=by omega
  have hni:¬n<=i:=by omega
  have hi0:¬(i:Int)<0:=by omega
  generalize C.vld=VC at*
  generalize M.vld=VM at*
  generalize covS M C=R at*
  clear hr aS he hek hZ g1 g2 g3 g4 cS hDs hEn hM hDM hL' gX hi hMo hC' hT'
  go_enter Tryz.func5,Tryz.ntmps5
  go_upto_region 4 with(go_at_call 9;with_reducible refine hix.mono ?_;rintro r w3 ⟨rfl,hb3⟩)
  have B3:Hid (Below w.heap.size w w3):=hb0.out.trans (hb3.mono hb0.out.size)
  have J3:=zac (J0.out.below hb3)
  have x0:w3.cell? ⟨b,o+i*33+2,none⟩=some (.int .i64 DM.d.k):=hcl.out w3 B3.out 0 _ rfl
  have x1:w3.cell? ⟨b,o+i*33+3,none⟩=some (.int .i64 DM.d.f):=hcl.out w3 B3.out 1 _ rfl
  have x2:w3.cell? ⟨b,o+i*33+4,none⟩=some (.bool DM.d.neg):=hcl.out w3 B3.out 2 _ rfl
  have x3:w3.cell? ⟨b,o+i*33+5,none⟩=some (.slice DM.d.aq DM.d.an DM.d.ac):=hcl.out w3 B3.out 3 _ rfl
  have x4:w3.cell? ⟨b,o+i*33+6,none⟩=some (.slice DM.d.cq DM.d.cn DM.d.cc):=hcl.out w3 B3.out 4 _ rfl
  have x5:w3.cell? ⟨b,o+i*33+7,none⟩=some (.string DM.d.m):=hcl.out w3 B3.out 5 _ rfl
  have x6:w3.cell? ⟨b,o+i*33+8,none⟩=some (.slice DM.d.sq DM.d.sn DM.d.sc):=hcl.out w3 B3.out 6 _ rfl
  have x7:w3.cell? ⟨b,o+i*33+9,none⟩=some (.bool M.st):=hcl.out w3 B3.out 7 _ rfl
  have x8:w3.cell? ⟨b,o+i*33+10,none⟩=some (.slice DM.bq M.nb DM.bc):=hcl.out w3 B3.out 8 _ rfl
  have x9:w3.cell? ⟨b,o+i*33+11,none⟩=some (.slice DM.cq M.nc DM.cc):=hcl.out w3 B3.out 9 _ rfl
  have hb4:Below w3.heap.size w3 (w3.alloc (.cells (nC DM.d M.st DM.bq M.nb DM.bc DM.cq M.nc DM.cc) 34)):=zaa w3 _
  have B4:=zac (B3.out.trans (hb4.mono B3.out.size))
  have J4:=zac (J3.out.below hb4)
  have P4:Hid (BlkI (w3.alloc (.cells (nC DM.d M.st DM.bq M.nb DM.bc DM.cq M.nc DM.cc) 34)) w3.heap.size 34 (nC DM.d M.st DM.bq M.nb DM.bc DM.cq M.nc DM.cc)):=heap_alloc_new _ _
  go_upto_region 5 with fail
  clear x0 x1 x2 x3 x4 x5 x6 x7 x8 x9 hb3 hb4 B3 J3 J0 hb0
  generalize (w3.alloc (.cells (nC DM.d M.st DM.bq M.nb DM.bc DM.cq M.nc DM.cc) 34))=W4 at*
  obtain⟨y0,y1,y2,y3,y4,y5,y6,y7,y8,y9⟩:=J4.out.c10
  have h1:=hv1.out W4 B4.out
  cases VC with
  | false=>
   go_wp2_with (go_at_call 10;with_reducible refine h1.mono ?_;rintro r w5 ⟨rfl,hb5⟩)
   go_ret2
   exact⟨by rw[hZ2.out];rfl,B4.out.trans (hb5.mono B4.out.size)⟩
  | true=>
   cases VM with
   | false=>
    go_wp2_with (first
     | (go_at_call 10;with_reducible refine h1.mono ?_;clear h1;rintro r w5 ⟨rfl,hb5⟩
        have B5:Hid (Below w.heap.size w w5):=B4.out.trans (hb5.mono B4.out.size)
        have J5:=zac (J4.out.below hb5)
        have P5:=zac (P4.out.below hb5)
        obtain⟨z0,z1,z2,z3,z4,z5,z6,z7,z8,z9⟩:=P5.out.c10
        have h2:=hv2.out w5 B5.out
        clear hb5 y0 y1 y2 y3 y4 y5 y6 y7 y8 y9)
     | (go_at_call 10;with_reducible refine h2.mono ?_;rintro r w6 ⟨rfl,hb6⟩))
    go_ret2
    exact⟨by rw[hZ2.out];rfl,B5.out.trans (hb6.mono B5.out.size)⟩
   | true=>
    go_wp2_with (first
     | (go_at_call 10;with_reducible refine h1.mono ?_;clear h1;rintro r w5 ⟨rfl,hb5⟩
        have B5:Hid (Below w.heap.size w w5):=B4.out.trans (hb5.mono B4.out.size)
        have J5:=zac (J4.out.below hb5)
        have P5:=zac (P4.out.below hb5)
        obtain⟨z0,z1,z2,z3,z4,z5,z6,z7,z8,z9⟩:=P5.out.c10
        have h2:=hv2.out w5 B5.out
        clear hb5 y0 y1 y2 y3 y4 y5 y6 y7 y8 y9)
     | (go_at_call 10;with_reducible refine h2.mono ?_;clear h2;rintro r w6 ⟨rfl,hb6⟩
        have B6:Hid (Below w.heap.size w w6):=B5.out.trans (hb6.mono B5.out.size)
        have J6:=zac (J5.out.below hb6)
        have P6:=zac (P5.out.below hb6)
        obtain⟨u0,u1,u2,u3,u4,u5,u6,u7,u8,u9⟩:=P6.out.c10
        obtain⟨v0,v1,v2,v3,v4,v5,v6,v7,v8,v9⟩:=J6.out.c10
        have h3:=hcv.out (by simp) (by simp) w6 B6.out
        clear hb6 z0 z1 z2 z3 z4 z5 z6 z7 z8 z9)
     | (go_at_call 11;with_reducible refine h3.mono ?_;rintro r w7 ⟨rfl,hb7⟩))
    go_ret2
    exact⟨by rw[hZ2.out];rfl,B6.out.trans (hb7.mono B6.out.size)⟩
end Go.Proofs.YtaonejnicgbifaaGreatDoor
