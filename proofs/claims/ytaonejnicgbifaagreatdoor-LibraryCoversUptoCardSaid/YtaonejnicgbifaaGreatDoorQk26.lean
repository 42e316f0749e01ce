import Derived.Test.YtaonejnicgbifaaGreatDoorQk25
namespace Go.Proofs.YtaonejnicgbifaaGreatDoor
open Go Go.RowKit
set_option maxRecDepth 100000
set_option maxHeartbeats 16000000
def Si.c (s:Si):IvC:=IvC.mk s.g1 (val s.nu1) (val s.de1) s.g2 (val s.nu2) (val s.de2) s.li s.hh
def sdOk (bs:Nat->Si) (i:Nat):Bool:=nameB (bs i).m&&((decide (i=0)||Op.bytesLess (bs (i - 1)).m.toList (bs i).m.toList)&&(!(bs i).c.lg&&!(bs i).c.vd))
def bxOk (n:Nat) (bs:Nat->Si):Bool:=decide (n<=6)&&(List.range n).all (sdOk bs)
theorem zbo {n:Nat} {bs:Nat->Si} {k:Nat} (hk:k<n) (h:sdOk bs k=false):bxOk n bs=false:=by
 unfold bxOk
 rw[Bool.and_eq_false_iff]
 right
 rw[List.all_eq_false]
 exact⟨k,List.mem_range.2 hk,by rw[h];simp⟩
theorem zd7 {n:Nat} {bs:Nat->Si} (hn:n<=6) (h:∀j,j<n->sdOk bs j=true):bxOk n bs=true:=by
 unfold bxOk
 rw[decide_eq_true hn,Bool.true_and,List.all_eq_true]
 exact fun j hj=>h j (List.mem_range.1 hj)
theorem zfw {w:World} (b o n c:Nat) (bs:Nat->Si) (ds:Nat->Sv) (hn:n<=6) (hb:b<w.heap.size) (hx:∀i,i<n->w.rangeAt b (o+i*9) ((bs i).cells (ds i))/\SiOk w (bs i) (ds i)) (hT:Tb w):
  Calls Tryz.prog 25 #[.slice (some ⟨b,o,none⟩) n c] w fun e w'=>e=.returned (.bool (bxOk n bs))/\Below w.heap.size w w':=by
 have hx':=zac hx
 have hT':Hid (Tb w):=hT
 have hn':¬((n:Int) > 6):=by omega
 clear hx hT
 go_enter Tryz.func25,Tryz.ntmps25
 go_wp2_with fail
 go_loopw [12] (fun i wr=>∃k:Nat,k<=n/\i=.int .i64 k/\(∀j,j<k->sdOk bs j=true)/\Below w.heap.size w wr) (fun i _=>n - (intOf i).toNat)
 case atStart=>exact⟨0,Nat.zero_le _,rfl,fun j hj=>by omega,Below.refl _ _⟩
 case round=>
  obtain⟨k,hk,rfl,aE,hbw⟩:=hrel
  have aN:Hid (∀j,j<k->sdOk bs j=true):=aE
  clear aE
  by_cases hlt:k<n
  ·have aA:(k:Int)<(n:Int):=by omega
   have hR:=zad (hx'.out k hlt).1 hbw hb
   have hS:=(hx'.out k hlt).2.below hbw
   have hne:Hid (∀z,Below w.heap.size w z->∀j,j+1=k->z.cell? ⟨b,o+j*9,none⟩=some (.string (bs j).m)):=by
    intro z hz j hj
    have h0:=(zad (hx'.out j (by omega)).1 hz hb) 0 _ rfl
    simpa using h0
   obtain⟨S,hSd⟩:∃S,Hid (sdOk bs k=S):=⟨_,rfl⟩
   have x0:wr.cell? ⟨b,o+k*9,none⟩=some (.string (bs k).m):=by simpa using hR 0 _ rfl
   have x1:wr.cell? ⟨b,o+k*9+1,none⟩=some (.bool (bs k).g1):=by simpa using hR 1 _ rfl
   have x2:wr.cell? ⟨b,o+k*9+2,none⟩=some (.slice (ds k).q1 (ds k).l1 (ds k).c1):=by simpa using hR 2 _ rfl
   have x3:wr.cell? ⟨b,o+k*9+3,none⟩=some (.slice (ds k).p1 (ds k).m1 (ds k).e1):=by simpa using hR 3 _ rfl
   have x4:wr.cell? ⟨b,o+k*9+4,none⟩=some (.bool (bs k).g2):=by simpa using hR 4 _ rfl
   have x5:wr.cell? ⟨b,o+k*9+5,none⟩=some (.slice (ds k).q2 (ds k).l2 (ds k).c2):=by simpa using hR 5 _ rfl
   have x6:wr.cell? ⟨b,o+k*9+6,none⟩=some (.slice (ds k).p2 (ds k).m2 (ds k).e2):=by simpa using hR 6 _ rfl
   have x7:wr.cell? ⟨b,o+k*9+7,none⟩=some (.bool (bs k).li):=by simpa using hR 7 _ rfl
   have x8:wr.cell? ⟨b,o+k*9+8,none⟩=some (.bool (bs k).hh):=by simpa using hR 8 _ rfl
   have hsd:Hid (S=(nameB (bs k).m&&((decide (k=0)||Op.bytesLess (bs (k - 1)).m.toList (bs k).m.toList)&&(!(bs k).c.lg&&!(bs k).c.vd)))):=by
    show S=_
    rw[<-hSd.out];rfl
   have hie:=fun z (hz:Below wr.heap.size wr z)=>zly (g1s:=(bs k).g1) (g2s:=(bs k).g2) (lis:=(bs k).li) (hhs:=(bs k).hh) (hS.1.below hz) (hS.2.1.below hz) (hS.2.2.1.below hz) (hS.2.2.2.1.below hz) (by have:=hS.2.2.2.2.1;omega) (by have:=hS.2.2.2.2.2.1;omega) (by have:=hS.2.2.2.2.2.2.1;omega) (by have:=hS.2.2.2.2.2.2.2;omega) ((hT'.out.below hbw).below hz)
   have hie:Hid (CA wr 48 #[.agg #[.bool (bs k).g1,.slice (ds k).q1 (ds k).l1 (ds k).c1,.slice (ds k).p1 (ds k).m1 (ds k).e1,.bool (bs k).g2,.slice (ds k).q2 (ds k).l2 (ds k).c2,.slice (ds k).p2 (ds k).m2 (ds k).e2,.bool (bs k).li,.bool (bs k).hh]] (.tuple #[.bool (!(bs k).c.lg&&(bs k).c.vd),.int .i64 (if (bs k).c.lg then 1 else 0)])):=hie
   clear hR hS
   obtain⟨LG,hLG⟩:∃b,(bs k).c.lg=b:=⟨_,rfl⟩
   obtain⟨VD,hVD⟩:∃b,(bs k).c.vd=b:=⟨_,rfl⟩
   rw[hLG,hVD] at hie hsd
   clear hLG hVD
   generalize (bs k).m=m at*
   generalize (bs k).g1=g1 at*
   generalize (bs k).g2=g2 at*
   generalize (bs k).li=li at*
   generalize (bs k).hh=hh at*
   generalize (ds k).q1=q1 at*
   generalize (ds k).l1=l1 at*
   generalize (ds k).c1=c1 at*
   generalize (ds k).p1=p1 at*
   generalize (ds k).m1=m1 at*
   generalize (ds k).e1=e1 at*
   generalize (ds k).q2=q2 at*
   generalize (ds k).l2=l2 at*
   generalize (ds k).c2=c2 at*
   generalize (ds k).p2=p2 at*
   generalize (ds k).m2=m2 at*
   generalize (ds k).e2=e2 at*
   have B1:Below wr.heap.size wr (wr.alloc (.cells (jA m g1 q1 l1 c1 p1 m1 e1 g2 q2 l2 c2 p2 m2 e2 li hh) 58)):=zaa wr _
   go_upto_region 6 with fail
   have BW:=zac (hbw.trans (B1.mono hbw.size))
   have gN:Hid (∀z,Below (wr.alloc (.cells (jA m g1 q1 l1 c1 p1 m1 e1 g2 q2 l2 c2 p2 m2 e2 li hh) 58)).heap.size (wr.alloc (.cells (jA m g1 q1 l1 c1 p1 m1 e1 g2 q2 l2 c2 p2 m2 e2 li hh) 58)) z->Calls Tryz.prog 48 #[.agg (iA g1 q1 l1 c1 p1 m1 e1 g2 q2 l2 c2 p2 m2 e2 li hh)] z fun e w'=>e=.returned (.tuple #[.bool (!LG&&VD),.int .i64 (if LG then 1 else 0)])/\Below z.heap.size z w'):=fun z hz=>hie.out z (B1.trans (hz.mono B1.size))
   have y0:(wr.alloc (.cells (jA m g1 q1 l1 c1 p1 m1 e1 g2 q2 l2 c2 p2 m2 e2 li hh) 58)).cell? ⟨wr.heap.size,0,none⟩=some (.string m):=by simp
   have y1:(wr.alloc (.cells (jA m g1 q1 l1 c1 p1 m1 e1 g2 q2 l2 c2 p2 m2 e2 li hh) 58)).cell? ⟨wr.heap.size,1,none⟩=some (.bool g1):=by simp
   have y2:(wr.alloc (.cells (jA m g1 q1 l1 c1 p1 m1 e1 g2 q2 l2 c2 p2 m2 e2 li hh) 58)).cell? ⟨wr.heap.size,2,none⟩=some (.slice q1 l1 c1):=by simp
   have y3:(wr.alloc (.cells (jA m g1 q1 l1 c1 p1 m1 e1 g2 q2 l2 c2 p2 m2 e2 li hh) 58)).cell? ⟨wr.heap.size,3,none⟩=some (.slice p1 m1 e1):=by simp
   have y4:(wr.alloc (.cells (jA m g1 q1 l1 c1 p1 m1 e1 g2 q2 l2 c2 p2 m2 e2 li hh) 58)).cell? ⟨wr.heap.size,4,none⟩=some (.bool g2):=by simp
   have y5:(wr.alloc (.cells (jA m g1 q1 l1 c1 p1 m1 e1 g2 q2 l2 c2 p2 m2 e2 li hh) 58)).cell? ⟨wr.heap.size,5,none⟩=some (.slice q2 l2 c2):=by simp
   have y6:(wr.alloc (.cells (jA m g1 q1 l1 c1 p1 m1 e1 g2 q2 l2 c2 p2 m2 e2 li hh) 58)).cell? ⟨wr.heap.size,6,none⟩=some (.slice p2 m2 e2):=by simp
   have y7:(wr.alloc (.cells (jA m g1 q1 l1 c1 p1 m1 e1 g2 q2 l2 c2 p2 m2 e2 li hh) 58)).cell? ⟨wr.heap.size,7,none⟩=some (.bool li):=by simp
   have y8:(wr.alloc (.cells (jA m g1 q1 l1 c1 p1 m1 e1 g2 q2 l2 c2 p2 m2 e2 li hh) 58)).cell? ⟨wr.heap.size,8,none⟩=some (.bool hh):=by simp
   have hPl:wr.heap.size<(wr.alloc (.cells (jA m g1 q1 l1 c1 p1 m1 e1 g2 q2 l2 c2 p2 m2 e2 li hh) 58)).heap.size:=by simp
   have hwP:w.heap.size<=wr.heap.size:=hbw.size
   clear x0 x1 x2 x3 x4 x5 x6 x7 x8 hie B1
   generalize wr.alloc (.cells (jA m g1 q1 l1 c1 p1 m1 e1 g2 q2 l2 c2 p2 m2 e2 li hh) 58)=W at*
   generalize wr.heap.size=P at*
   clear hbw
   have hnm:=ze6 m W.drew
   have BW':Hid (Below w.heap.size w W.drew):=BW.out.drew
   have bl:P<W.drew.heap.size:=by simpa using hPl
   have dY:Hid (∀z,Below W.drew.heap.size W.drew z->Calls Tryz.prog 48 #[.agg (iA g1 q1 l1 c1 p1 m1 e1 g2 q2 l2 c2 p2 m2 e2 li hh)] z fun e w'=>e=.returned (.tuple #[.bool (!LG&&VD),.int .i64 (if LG then 1 else 0)])/\Below z.heap.size z w'):=fun z hz=>gN.out z ((zaj (Below.refl W.heap.size W) 1).trans hz)
   have y0:W.drew.cell? ⟨P,0,none⟩=some (.string m):=by simpa using y0
   have y1:W.drew.cell? ⟨P,1,none⟩=some (.bool g1):=by simpa using y1
   have y2:W.drew.cell? ⟨P,2,none⟩=some (.slice q1 l1 c1):=by simpa using y2
   have y3:W.drew.cell? ⟨P,3,none⟩=some (.slice p1 m1 e1):=by simpa using y3
   have y4:W.drew.cell? ⟨P,4,none⟩=some (.bool g2):=by simpa using y4
   have y5:W.drew.cell? ⟨P,5,none⟩=some (.slice q2 l2 c2):=by simpa using y5
   have y6:W.drew.cell? ⟨P,6,none⟩=some (.slice p2 m2 e2):=by simpa using y6
   have y7:W.drew.cell? ⟨P,7,none⟩=some (.bool li):=by simpa using y7
   have y8:W.drew.cell? ⟨P,8,none⟩=some (.bool hh):=by simpa using y8
   cases hN:nameB m with
   | false=>
    rw[hN] at hnm hsd
    clear hN
    have hS0:(fun z=>z.cell? ⟨P,0,none⟩=some (.string m)) W.drew:=y0
    refine wp_region_held_drew (S:=(fun z=>z.cell? ⟨P,0,none⟩=some (.string m))) (by kernel_rfl) hS0 (fun ah=>?_)
    refine tk 0 (.pointer (some ⟨P,0,none⟩)) rfl ah ?_
    simp only[pz]
    refine tk 1 (.string m) rfl ah ?_
    simp only[pz]
    refine rdy 2 rfl (fun K hK=>?_)
    go_simp
    with_reducible refine hnm.mono ?_
    rintro e w3 ⟨rfl,hb3⟩
    have hS3:(fun z=>z.cell? ⟨P,0,none⟩=some (.string m)) w3:=(hb3.cell (p:=⟨P,0,none⟩) (by exact bl)).trans y0
    refine hK.out _ _ hS3 (fun af=>?_)
    clear hK K ah
    try simp only[pz]
    refine tk 3 (.bool true) rfl af ?_
    simp only[pz]
    refine tk 4 (.bool true) rfl af ?_
    simp only[pz]
    refine tk 5 undef rfl af ?_ (.inr ⟨by rfl,rfl⟩)
    simp only[pz]
    refine tk 6 undef rfl af ?_ (.inr ⟨by rfl,rfl⟩)
    simp only[pz]
    refine tk 7 undef rfl af ?_ (.inr ⟨by rfl,rfl⟩)
    simp only[pz]
    refine tk 8 undef rfl af ?_ (.inr ⟨by rfl,rfl⟩)
    simp only[pz]
    refine tk 9 undef rfl af ?_ (.inr ⟨by rfl,rfl⟩)
    simp only[pz]
    refine tk 10 undef rfl af ?_ (.inr ⟨by rfl,rfl⟩)
    simp only[pz]
    refine tk 11 undef rfl af ?_ (.inr ⟨by rfl,rfl⟩)
    simp only[pz]
    refine tk 12 undef rfl af ?_ (.inr ⟨by rfl,rfl⟩)
    simp only[pz]
    refine tk 13 undef rfl af ?_ (.inr ⟨by rfl,rfl⟩)
    simp only[pz]
    refine tk 14 undef rfl af ?_ (.inr ⟨by rfl,rfl⟩)
    simp only[pz]
    refine tk 15 undef rfl af ?_ (.inr ⟨by rfl,rfl⟩)
    simp only[pz]
    refine tk 16 undef rfl af ?_ (.inr ⟨by rfl,rfl⟩)
    simp only[pz]
    refine tk 17 undef rfl af ?_ (.inr ⟨by rfl,rfl⟩)
    simp only[pz]
    refine tk 18 (.bool true) rfl af ?_
    simp only[pz]
    refine wpAnyH_done (by kernel_rfl) ?_ _
    go_wp2_with fail
    go_ret
    exact⟨by rw[zbo hlt (by rw[hSd.out,hsd.out];rfl)];rfl,BW'.out.trans (hb3.mono BW'.out.size)⟩
   | true=>
    rw[hN] at hnm hsd
    clear hN
    cases k with
    | zero=>
     have hS0:(fun z=>z.cell? ⟨P,0,none⟩=some (.string m)) W.drew:=y0
     refine wp_region_held_drew (S:=(fun z=>z.cell? ⟨P,0,none⟩=some (.string m))) (by kernel_rfl) hS0 (fun ah=>?_)
     refine tk 0 (.pointer (some ⟨P,0,none⟩)) rfl ah ?_
     simp only[pz]
     refine tk 1 (.string m) rfl ah ?_
     simp only[pz]
     refine rdy 2 rfl (fun K hK=>?_)
     go_simp
     with_reducible refine hnm.mono ?_
     rintro e w3 ⟨rfl,hb3⟩
     have hS3:(fun z=>z.cell? ⟨P,0,none⟩=some (.string m)) w3:=(hb3.cell (p:=⟨P,0,none⟩) (by exact bl)).trans y0
     refine hK.out _ _ hS3 (fun af=>?_)
     clear hK K ah
     try simp only[pz]
     refine tk 3 (.bool false) rfl af ?_
     simp only[pz]
     refine tk 4 (.bool false) rfl af ?_
     simp only[pz]
     refine tk 5 (.int .i64 ((0:Nat):Int)) rfl af ?_
     simp only[pz]
     refine tk 6 (.bool false) rfl af ?_
     simp only[pz]
     refine tk 7 (.bool false) rfl af ?_
     simp only[pz]
     refine tk 8 undef rfl af ?_ (.inr ⟨by rfl,rfl⟩)
     simp only[pz]
     refine tk 9 undef rfl af ?_ (.inr ⟨by rfl,rfl⟩)
     simp only[pz]
     refine tk 10 undef rfl af ?_ (.inr ⟨by rfl,rfl⟩)
     simp only[pz]
     refine tk 11 undef rfl af ?_ (.inr ⟨by rfl,rfl⟩)
     simp only[pz]
     refine tk 12 undef rfl af ?_ (.inr ⟨by rfl,rfl⟩)
     simp only[pz]
     refine tk 13 undef rfl af ?_ (.inr ⟨by rfl,rfl⟩)
     simp only[pz]
     refine tk 14 undef rfl af ?_ (.inr ⟨by rfl,rfl⟩)
     simp only[pz]
     refine tk 15 undef rfl af ?_ (.inr ⟨by rfl,rfl⟩)
     simp only[pz]
     refine tk 16 undef rfl af ?_ (.inr ⟨by rfl,rfl⟩)
     simp only[pz]
     refine tk 17 (.bool false) rfl af ?_
     simp only[pz]
     refine tk 18 (.bool false) rfl af ?_
     simp only[pz]
     refine wpAnyH_done (by kernel_rfl) ?_ _
     have j2:=hb3.size
     have BW3:Hid (Below w.heap.size w w3):=BW'.out.trans (hb3.mono BW'.out.size)
     have dN:Hid (CA w3 48 #[.agg (iA g1 q1 l1 c1 p1 m1 e1 g2 q2 l2 c2 p2 m2 e2 li hh)] (.tuple #[.bool (!LG&&VD),.int .i64 (if LG then 1 else 0)])):=fun z hz=>dY.out z (hb3.trans (hz.mono hb3.size))
     have z0:=(hb3.cell (p:=⟨P,0,none⟩) (by exact bl)).trans y0
     have z1:=(hb3.cell (p:=⟨P,1,none⟩) (by exact bl)).trans y1
     have z2:=(hb3.cell (p:=⟨P,2,none⟩) (by exact bl)).trans y2
     have z3:=(hb3.cell (p:=⟨P,3,none⟩) (by exact bl)).trans y3
     have z4:=(hb3.cell (p:=⟨P,4,none⟩) (by exact bl)).trans y4
     have z5:=(hb3.cell (p:=⟨P,5,none⟩) (by exact bl)).trans y5
     have z6:=(hb3.cell (p:=⟨P,6,none⟩) (by exact bl)).trans y6
     have z7:=(hb3.cell (p:=⟨P,7,none⟩) (by exact bl)).trans y7
     have z8:=(hb3.cell (p:=⟨P,8,none⟩) (by exact bl)).trans y8
     clear y0 y1 y2 y3 y4 y5 y6 y7 y8 hnm gN dY hS0 hS3 af
     cases LG with
     | true=>
      have cD:=dN.out w3 (Below.refl _ _)
      go_wp2_with (go_at_call 48;with_reducible refine cD.mono ?_;rintro e w4 ⟨rfl,hb4⟩)
      go_ret
      exact⟨by rw[zbo hlt (by rw[hSd.out,hsd.out];simp)];rfl,BW3.out.trans (hb4.mono BW3.out.size)⟩
     | false=>
      cases VD with
      | true=>
       have cD:=dN.out w3 (Below.refl _ _)
       go_wp2_with (go_at_call 48;with_reducible refine cD.mono ?_;rintro e w4 ⟨rfl,hb4⟩)
       go_ret
       exact⟨by rw[zbo hlt (by rw[hSd.out,hsd.out];simp)];rfl,BW3.out.trans (hb4.mono BW3.out.size)⟩
      | false=>
       have cD:=dN.out w3 (Below.refl _ _)
       go_wp2_with (go_at_call 48;with_reducible refine cD.mono ?_;rintro e w4 ⟨rfl,hb4⟩)
       go_roundw
       case rel=>
        refine⟨0+1,by omega,by go_num,fun j hj=>?_,BW3.out.trans (hb4.mono BW3.out.size)⟩
        rcases Nat.lt_or_ge j 0 with h | h
        ·exact aN.out j h
        ·obtain rfl:j=0:=by omega
         rw[hSd.out,hsd.out]
         simp
       case measure=>simp[intOf];omega
    | succ i=>
     have hi1:((i+1:Nat):Int) - 1=(i:Int):=by omega
     have hi0:((i+1:Nat):Int) > 0:=by omega
     have hni:¬n<=i:=by omega
     have hin:i<n:=by omega
     have wi:IntKind.i64.wrap (i:Int)=(i:Int):=by rw[IntKind.wrap_i64];omega
     have pv:W.drew.cell? ⟨b,o+i*9,none⟩=some (.string (bs i).m):=hne.out W.drew BW'.out i rfl
     simp only[Nat.add_sub_cancel] at hsd
     generalize (bs i).m=mp at*
     cases hq:Op.bytesLess mp.toList m.toList with
     | false=>
      rw[hq] at hsd
      have hS0:(fun z=>z.cell? ⟨P,0,none⟩=some (.string m)/\z.cell? ⟨b,o+i*9,none⟩=some (.string mp)) W.drew:=⟨y0,pv⟩
      refine wp_region_held_drew (S:=(fun z=>z.cell? ⟨P,0,none⟩=some (.string m)/\z.cell? ⟨b,o+i*9,none⟩=some (.string mp))) (by kernel_rfl) hS0 (fun ah=>?_)
      refine tk 0 (.pointer (some ⟨P,0,none⟩)) rfl ah ?_
      simp only[pz]
      refine tk 1 (.string m) rfl ah ?_
      simp only[pz]
      refine rdy 2 rfl (fun K hK=>?_)
      go_simp
      with_reducible refine hnm.mono ?_
      rintro e w3 ⟨rfl,hb3⟩
      have hS3:(fun z=>z.cell? ⟨P,0,none⟩=some (.string m)/\z.cell? ⟨b,o+i*9,none⟩=some (.string mp)) w3:=⟨(hb3.cell (p:=⟨P,0,none⟩) (by exact bl)).trans y0,(hb3.cell (p:=⟨b,o+i*9,none⟩) (by show b<W.drew.heap.size;have:=BW'.out.size;omega)).trans pv⟩
      refine hK.out _ _ hS3 (fun af=>?_)
      clear hK K ah
      try simp only[pz]
      refine tk 3 (.bool false) rfl af ?_
      simp only[pz]
      refine tk 4 (.bool false) rfl af ?_
      simp only[pz]
      refine tk 5 (.int .i64 ((i+1:Nat):Int)) rfl af ?_
      simp only[pz]
      refine tk 6 (.bool true) rfl af ?_
      simp only[pz]
      refine tk 7 (.bool true) rfl af ?_
      simp only[pz]
      refine tk 8 (.slice (some ⟨b,o,none⟩) n c) rfl af ?_
      simp only[pz]
      refine tk 9 (.int .i64 ((i+1:Nat):Int)) rfl af ?_
      simp only[pz]
      refine tk 10 (.int .i64 (i:Int)) rfl af ?_
      simp only[pz]
      refine tk 11 (.pointer (some ⟨b,o+i*9,none⟩)) rfl af ?_
      simp only[pz]
      refine tk 12 (.pointer (some ⟨b,o+i*9,none⟩)) rfl af ?_
      simp only[pz]
      refine tk 13 (.string mp) rfl af ?_
      simp only[pz]
      refine tk 14 (.pointer (some ⟨P,0,none⟩)) rfl af ?_
      simp only[pz]
      refine tk 15 (.string m) rfl af ?_
      simp only[pz]
      refine tk 16 (.bool true) rfl af ?_
      simp only[pz]
      refine tk 17 (.bool true) rfl af ?_
      simp only[pz]
      refine tk 18 (.bool true) rfl af ?_
      simp only[pz]
      refine wpAnyH_done (by kernel_rfl) ?_ _
      have BW3:Hid (Below w.heap.size w w3):=BW'.out.trans (hb3.mono BW'.out.size)
      go_wp2_with fail
      go_ret
      exact⟨by rw[zbo hlt (by rw[hSd.out,hsd.out];simp)];rfl,BW3.out⟩
     | true=>
      rw[hq] at hsd
      have hS0:(fun z=>z.cell? ⟨P,0,none⟩=some (.string m)/\z.cell? ⟨b,o+i*9,none⟩=some (.string mp)) W.drew:=⟨y0,pv⟩
      refine wp_region_held_drew (S:=(fun z=>z.cell? ⟨P,0,none⟩=some (.string m)/\z.cell? ⟨b,o+i*9,none⟩=some (.string mp))) (by kernel_rfl) hS0 (fun ah=>?_)
      refine tk 0 (.pointer (some ⟨P,0,none⟩)) rfl ah ?_
      simp only[pz]
      refine tk 1 (.string m) rfl ah ?_
      simp only[pz]
      refine rdy 2 rfl (fun K hK=>?_)
      go_simp
      with_reducible refine hnm.mono ?_
      rintro e w3 ⟨rfl,hb3⟩
      have hS3:(fun z=>z.cell? ⟨P,0,none⟩=some (.string m)/\z.cell? ⟨b,o+i*9,none⟩=some (.string mp)) w3:=⟨(hb3.cell (p:=⟨P,0,none⟩) (by exact bl)).trans y0,(hb3.cell (p:=⟨b,o+i*9,none⟩) (by show b<W.drew.heap.size;have:=BW'.out.size;omega)).trans pv⟩
      refine hK.out _ _ hS3 (fun af=>?_)
      clear hK K ah
      try simp only[pz]
      refine tk 3 (.bool false) rfl af ?_
      simp only[pz]
      refine tk 4 (.bool false) rfl af ?_
      simp only[pz]
      refine tk 5 (.int .i64 ((i+1:Nat):Int)) rfl af ?_
      simp only[pz]
      refine tk 6 (.bool true) rfl af ?_
      simp only[pz]
      refine tk 7 (.bool true) rfl af ?_
      simp only[pz]
      refine tk 8 (.slice (some ⟨b,o,none⟩) n c) rfl af ?_
      simp only[pz]
      refine tk 9 (.int .i64 ((i+1:Nat):Int)) rfl af ?_
      simp only[pz]
      refine tk 10 (.int .i64 (i:Int)) rfl af ?_
      simp only[pz]
      refine tk 11 (.pointer (some ⟨b,o+i*9,none⟩)) rfl af ?_
      simp only[pz]
      refine tk 12 (.pointer (some ⟨b,o+i*9,none⟩)) rfl af ?_
      simp only[pz]
      refine tk 13 (.string mp) rfl af ?_
      simp only[pz]
      refine tk 14 (.pointer (some ⟨P,0,none⟩)) rfl af ?_
      simp only[pz]
      refine tk 15 (.string m) rfl af ?_
      simp only[pz]
      refine tk 16 (.bool false) rfl af ?_
      simp only[pz]
      refine tk 17 (.bool false) rfl af ?_
      simp only[pz]
      refine tk 18 (.bool false) rfl af ?_
      simp only[pz]
      refine wpAnyH_done (by kernel_rfl) ?_ _
      clear pv
      have j2:=hb3.size
      have BW3:Hid (Below w.heap.size w w3):=BW'.out.trans (hb3.mono BW'.out.size)
      have dN:Hid (CA w3 48 #[.agg (iA g1 q1 l1 c1 p1 m1 e1 g2 q2 l2 c2 p2 m2 e2 li hh)] (.tuple #[.bool (!LG&&VD),.int .i64 (if LG then 1 else 0)])):=fun z hz=>dY.out z (hb3.trans (hz.mono hb3.size))
      have z0:=(hb3.cell (p:=⟨P,0,none⟩) (by exact bl)).trans y0
      have z1:=(hb3.cell (p:=⟨P,1,none⟩) (by exact bl)).trans y1
      have z2:=(hb3.cell (p:=⟨P,2,none⟩) (by exact bl)).trans y2
      have z3:=(hb3.cell (p:=⟨P,3,none⟩) (by exact bl)).trans y3
      have z4:=(hb3.cell (p:=⟨P,4,none⟩) (by exact bl)).trans y4
      have z5:=(hb3.cell (p:=⟨P,5,none⟩) (by exact bl)).trans y5
      have z6:=(hb3.cell (p:=⟨P,6,none⟩) (by exact bl)).trans y6
      have z7:=(hb3.cell (p:=⟨P,7,none⟩) (by exact bl)).trans y7
      have z8:=(hb3.cell (p:=⟨P,8,none⟩) (by exact bl)).trans y8
      clear y0 y1 y2 y3 y4 y5 y6 y7 y8 hnm gN dY hS0 hS3 af
      cases LG with
      | true=>
       have cD:=dN.out w3 (Below.refl _ _)
       go_wp2_with (go_at_call 48;with_reducible refine cD.mono ?_;rintro e w4 ⟨rfl,hb4⟩)
       go_ret
       exact⟨by rw[zbo hlt (by rw[hSd.out,hsd.out];simp)];rfl,BW3.out.trans (hb4.mono BW3.out.size)⟩
      | false=>
       cases VD with
       | true=>
        have cD:=dN.out w3 (Below.refl _ _)
        go_wp2_with (go_at_call 48;with_reducible refine cD.mono ?_;rintro e w4 ⟨rfl,hb4⟩)
        go_ret
        exact⟨by rw[zbo hlt (by rw[hSd.out,hsd.out];simp)];rfl,BW3.out.trans (hb4.mono BW3.out.size)⟩
       | false=>
        have cD:=dN.out w3 (Below.refl _ _)
        go_wp2_with (go_at_call 48;with_reducible refine cD.mono ?_;rintro e w4 ⟨rfl,hb4⟩)
        go_roundw
        case rel=>
         refine⟨(i+1)+1,by omega,by go_num,fun j hj=>?_,BW3.out.trans (hb4.mono BW3.out.size)⟩
         rcases Nat.lt_or_ge j (i+1) with h | h
         ·exact aN.out j h
         ·obtain rfl:j=(i+1):=by omega
          rw[hSd.out,hsd.out]
          simp
        case measure=>simp[intOf];omega
  ·obtain rfl:k=n:=by omega
   go_wp2_with fail
   go_ret
   exact⟨by rw[zd7 hn aN.out];rfl,hbw⟩
theorem zl2 {n d:Int} (hn:0<=n) (hd:0<d):0<mkD n d:=by
 unfold mkD
 split
 ·decide
 ·rename_i h
  have hn0:0<n:=by omega
  have hg:=zcc (b:=d) hn0
  exact Int.ediv_pos_of_pos_of_dvd hd (Int.le_of_lt hg) (zfk hn (Int.le_of_lt hd)).2
theorem mkN_nn {n d:Int} (hn:0<=n) (hd:0<=d):0<=mkN n d:=(mkN_le hn hd).2.2.1
theorem zis {g:Bool} {n d:Int} (hn:0<=n) (hd:0<d) (h:mkN n d=0):mkG g n d=false:=by
 unfold mkG
 unfold mkN at h
 split
 ·rfl
 ·rename_i h1
  rw[if_neg h1] at h
  have hn0:0<n:=by omega
  have hg:=zcc (b:=d) hn0
  have hdv:gcdI n d ∣ n:=(zfk hn (Int.le_of_lt hd)).1
  have:=Int.ediv_pos_of_pos_of_dvd hn0 (Int.le_of_lt hg) hdv
  omega
theorem zes {d:Int} (h:0<d):denI d=d:=by
 unfold denI
 rw[if_neg (by omega)]
theorem fcS_sgn {g1 g2:Bool} {n1 d1 n2 d2:Int} (h1:0<=n1) (h2:0<d1) (h3:0<=n2) (h4:0<d2) (e1:n1=0->g1=false) (e2:n2=0->g2=false):
  fcS g1 n1 d1 g2 n2 d2=sgnI (sg g1*(n1*denI d2) - sg g2*(n2*denI d1)):=by
 rw[zes h2,zes h4]
 have a0:0<=n1*d2:=Int.mul_nonneg h1 (Int.le_of_lt h4)
 have b0:0<=n2*d1:=Int.mul_nonneg h3 (Int.le_of_lt h2)
 have a1:¬n1=0->0<n1*d2:=fun h=>Int.mul_pos (by omega) h4
 have b1:¬n2=0->0<n2*d1:=fun h=>Int.mul_pos (by omega) h2
 have a2:n1=0->n1*d2=0:=fun h=>by rw[h];simp
 have b2:n2=0->n2*d1=0:=fun h=>by rw[h];simp
 unfold fcS sgF sgnI sg cmp3
 generalize n1*d2=a at*
 generalize n2*d1=b at*
 by_cases z1:n1=0<;>by_cases z2:n2=0
 ·rw[e1 z1,e2 z2,a2 z1,b2 z2];simp[z1,z2]
 ·rw[e1 z1,a2 z1]
  have:=b1 z2
  cases g2<;>simp[z1,z2]<;>(repeat' split)<;>omega
 ·rw[e2 z2,b2 z2]
  have:=a1 z1
  cases g1<;>simp[z1,z2]<;>(repeat' split)<;>omega
 ·have:=a1 z1
  have:=b1 z2
  cases g1<;>cases g2<;>simp[z1,z2]<;>(repeat' split)<;>omega
structure IvC.Nn (c:IvC):Prop where
 n1:0<=c.n1
 d1:0<=c.d1
 n2:0<=c.n2
 d2:0<=c.d2
theorem zd8 {g g':Bool} {n d n' d':Int} (h1:0<=n) (h2:0<=d) (h3:0<=n') (h4:0<=d'):
  fcS (mkG g n (denI d)) (mkN n (denI d)) (mkD n (denI d)) (mkG g' n' (denI d')) (mkN n' (denI d')) (mkD n' (denI d'))=
   qS (mkG g n (denI d),mkN n (denI d),mkD n (denI d)) (mkG g' n' (denI d'),mkN n' (denI d'),mkD n' (denI d')):=by
 have p1:=zdd h2
 have p2:=zdd h4
 exact fcS_sgn (mkN_nn h1 (Int.le_of_lt p1)) (zl2 h1 p1) (mkN_nn h3 (Int.le_of_lt p2)) (zl2 h3 p2) (zis h1 p1) (zis h3 p2)
theorem em_vd {c:IvC} (h:c.Nn):c.v.em=c.vd:=by
 unfold IvC.v IvC.vd
 cases hl:c.li with
 | true=>simp
 | false=>
  cases hh:c.hh with
  | true=>simp
  | false=>
   rw[zd8 h.n1 h.d1 h.n2 h.d2]
   have e1:c.lo=(mkG c.g1 c.n1 (denI c.d1),mkN c.n1 (denI c.d1),mkD c.n1 (denI c.d1)):=by unfold IvC.lo;rw[hl];rfl
   have e2:c.hi=(mkG c.g2 c.n2 (denI c.d2),mkN c.n2 (denI c.d2),mkD c.n2 (denI c.d2)):=by unfold IvC.hi;rw[hh];rfl
   rw[<-e1,<-e2]
   by_cases hq:0<qS c.lo c.hi<;>simp[hq]
def IvV.wi (s t:IvV):Bool:=if s.em||t.em then s.em else
 ((t.li||(!s.li&&decide (qS (t.g1,t.n1,t.d1) (s.g1,s.n1,s.d1)<=0)))&&(t.hh||(!s.hh&&decide (qS (s.g2,s.n2,s.d2) (t.g2,t.n2,t.d2)<=0))))
theorem sgnI_neg (x:Int):sgnI (-x)=- sgnI x:=by
 unfold sgnI
 repeat' split
 all_goals omega
theorem qS_swap (a b:Bool × Int × Int):qS a b=- qS b a:=by
 unfold qS
 rw[<-sgnI_neg]
 congr 1
 omega
theorem wi_ins {s t:IvC} (hs:s.Nn) (ht:t.Nn):IvV.wi s.v t.v=s.ins t:=by
 unfold IvV.wi
 rw[em_vd hs,em_vd ht]
 unfold IvC.ins
 cases hv:s.vd with
 | true=>simp
 | false=>
  cases hw:t.vd with
  | true=>simp
  | false=>
   have v1:∀{c:IvC},c.Nn->c.vd=false->c.v=⟨c.lo.1,c.lo.2.1,c.lo.2.2,c.hi.1,c.hi.2.1,c.hi.2.2,c.li,c.hh,false⟩:=by
    intro c hc h
    have h2:=em_vd hc
    rw[h] at h2
    unfold IvC.v at h2 ⊢
    split
    ·rename_i h3
     rw[if_pos h3] at h2
     cases h2
    ·rfl
   rw[v1 hs hv,v1 ht hw]
   simp only[Bool.or_self,Bool.false_eq_true,if_false,Bool.false_or,Bool.not_false,Bool.and_true]
   congr 1
   ·cases hl:t.li with
    | true=>simp
    | false=>
     cases hl2:s.li with
     | true=>simp
     | false=>
      rw[zd8 hs.n1 hs.d1 ht.n1 ht.d1]
      have e1:s.lo=(mkG s.g1 s.n1 (denI s.d1),mkN s.n1 (denI s.d1),mkD s.n1 (denI s.d1)):=by unfold IvC.lo;rw[hl2];rfl
      have e2:t.lo=(mkG t.g1 t.n1 (denI t.d1),mkN t.n1 (denI t.d1),mkD t.n1 (denI t.d1)):=by unfold IvC.lo;rw[hl];rfl
      rw[<-e1,<-e2,qS_swap]
      simp only[Bool.false_or,Bool.not_false,Bool.true_and]
      congr 1
      apply propext
      show -qS s.lo t.lo<=0↔0<=qS s.lo t.lo
      omega
   ·cases hl:t.hh with
    | true=>simp
    | false=>
     cases hl2:s.hh with
     | true=>simp
     | false=>
      rw[zd8 hs.n2 hs.d2 ht.n2 ht.d2]
      have e1:s.hi=(mkG s.g2 s.n2 (denI s.d2),mkN s.n2 (denI s.d2),mkD s.n2 (denI s.d2)):=by unfold IvC.hi;rw[hl2];rfl
      have e2:t.hi=(mkG t.g2 t.n2 (denI t.d2),mkN t.n2 (denI t.d2),mkD t.n2 (denI t.d2)):=by unfold IvC.hi;rw[hl];rfl
      rw[<-e1,<-e2]
end Go.Proofs.YtaonejnicgbifaaGreatDoor
