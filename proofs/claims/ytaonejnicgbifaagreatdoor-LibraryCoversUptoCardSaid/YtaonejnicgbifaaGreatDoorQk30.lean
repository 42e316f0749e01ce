import Derived.Test.YtaonejnicgbifaaGreatDoorQk29
namespace Go.Proofs.YtaonejnicgbifaaGreatDoor
open Go Go.RowKit
set_option maxRecDepth 100000
set_option maxHeartbeats 16000000
abbrev SKn (w:World) (k:Int) (f:Int) (ng:Bool) (aq:Option Addr) (an:Nat) (ac:Nat) (dq:Option Addr) (dn:Nat) (dc:Nat) (m:ByteArray) (sq:Option Addr) (sn:Nat) (sc:Nat) (st:Bool) (bq:Option Addr) (nb:Nat) (bc:Nat) (b:Nat) (o:Nat) (nc:Nat) (cc:Nat) (j:Nat) (ds:Nat->Nd):World->Prop:=fun z=>BlkI z w.heap.size 34 (mC k f ng aq an ac dq dn dc m sq sn sc st bq nb bc (some ⟨b,o,none⟩) nc cc)/\NdAt z b (o+j*8) (ds j)
theorem zix {w:World} {k f:Int} {ng st:Bool} {aq dq sq bq cq:Option Addr} {an ac dn dc sn sc nb bc nc cc:Nat} {m:ByteArray} {BX EV CV:Bool} {ks:Nat->Co} {EK CK:Nat->Bool}
  (hbx:CA w 36 #[.slice bq nb bc] (.bool BX))
  (hev:CA w 35 #[.agg (mA k f ng aq an ac dq dn dc m sq sn sc)] (.bool EV))
  (hcv:EV=true->CA w 37 #[.agg (mA k f ng aq an ac dq dn dc m sq sn sc),.slice bq nb bc] (.bool CV))
  (hcs:nc=0\/∃b o,cq=some ⟨b,o,none⟩/\b<w.heap.size/\∃ds:Nat->Nd,∀i,i<nc->w.rangeAt b (o+i*8) ((ks i).cells (ds i))/\
    (CA w 35 #[(ds i).val] (.bool (EK i)))/\
    (EK i=true->CA w 37 #[(ds i).val,.slice bq nb bc] (.bool (CK i))))
  (hn:nc<=1048576):
  Calls Tryz.prog 13 #[.agg (mC k f ng aq an ac dq dn dc m sq sn sc st bq nb bc cq nc cc)] w fun e w'=>e=.returned (.bool (BX&&(decide (nc<=12)&&((EV&&CV)&&(List.range nc).all fun i=>EK i&&CK i))))/\Below w.heap.size w w':=by
 have cY:=zac hbx
 have dB:=zac hev
 have bX:=zac hcv
 have dC:Hid (nc=0\/∃b o,cq=some ⟨b,o,none⟩/\b<w.heap.size/\∃ds:Nat->Nd,∀i,i<nc->w.rangeAt b (o+i*8) ((ks i).cells (ds i))/\
  (CA w 35 #[(ds i).val] (.bool (EK i)))/\
  (EK i=true->CA w 37 #[(ds i).val,.slice bq nb bc] (.bool (CK i)))):=hcs
 have hb0:Hid (Below w.heap.size w (w.alloc (.cells (mC k f ng aq an ac dq dn dc m sq sn sc st bq nb bc cq nc cc) 34))):=zaa w _
 have hl0:w.heap.size<(w.alloc (.cells (mC k f ng aq an ac dq dn dc m sq sn sc st bq nb bc cq nc cc) 34)).heap.size:=by simp
 clear hbx hev hcv hcs
 have y0:(w.alloc (.cells (mC k f ng aq an ac dq dn dc m sq sn sc st bq nb bc cq nc cc) 34)).cell? ⟨w.heap.size,0,none⟩=some (.int .i64 k):=by simp
 have y1:(w.alloc (.cells (mC k f ng aq an ac dq dn dc m sq sn sc st bq nb bc cq nc cc) 34)).cell? ⟨w.heap.size,1,none⟩=some (.int .i64 f):=by simp
 have y2:(w.alloc (.cells (mC k f ng aq an ac dq dn dc m sq sn sc st bq nb bc cq nc cc) 34)).cell? ⟨w.heap.size,2,none⟩=some (.bool ng):=by simp
 have y3:(w.alloc (.cells (mC k f ng aq an ac dq dn dc m sq sn sc st bq nb bc cq nc cc) 34)).cell? ⟨w.heap.size,3,none⟩=some (.slice aq an ac):=by simp
 have y4:(w.alloc (.cells (mC k f ng aq an ac dq dn dc m sq sn sc st bq nb bc cq nc cc) 34)).cell? ⟨w.heap.size,4,none⟩=some (.slice dq dn dc):=by simp
 have y5:(w.alloc (.cells (mC k f ng aq an ac dq dn dc m sq sn sc st bq nb bc cq nc cc) 34)).cell? ⟨w.heap.size,5,none⟩=some (.string m):=by simp
 have y6:(w.alloc (.cells (mC k f ng aq an ac dq dn dc m sq sn sc st bq nb bc cq nc cc) 34)).cell? ⟨w.heap.size,6,none⟩=some (.slice sq sn sc):=by simp
 have y7:(w.alloc (.cells (mC k f ng aq an ac dq dn dc m sq sn sc st bq nb bc cq nc cc) 34)).cell? ⟨w.heap.size,7,none⟩=some (.bool st):=by simp
 have y8:(w.alloc (.cells (mC k f ng aq an ac dq dn dc m sq sn sc st bq nb bc cq nc cc) 34)).cell? ⟨w.heap.size,8,none⟩=some (.slice bq nb bc):=by simp
 have y9:(w.alloc (.cells (mC k f ng aq an ac dq dn dc m sq sn sc st bq nb bc cq nc cc) 34)).cell? ⟨w.heap.size,9,none⟩=some (.slice cq nc cc):=by simp
 have cw:=dB.out _ hb0.out
 go_enter Tryz.func13,Tryz.ntmps13
 cases EV with
 | false=>
  go_wp2_with (go_at_call 35;with_reducible refine cw.mono ?_;rintro e w1 ⟨rfl,hb1⟩)
  go_ret
  exact⟨by simp,hb0.out.trans (hb1.mono hb0.out.size)⟩
 | true=>
  cases BX with
  | false=>
   go_wp2_with (first
    | (go_at_call 35;with_reducible refine cw.mono ?_;rintro e w1 ⟨rfl,ai⟩
       have Bw1:Hid (Below w.heap.size w w1):=hb0.out.trans (ai.mono hb0.out.size)
       have Lw1:w.heap.size<w1.heap.size:=Nat.lt_of_lt_of_le hl0 ai.size
       have a0:=(ai.cell (p:=⟨w.heap.size,0,none⟩) (by exact hl0)).trans y0
       have a1:=(ai.cell (p:=⟨w.heap.size,1,none⟩) (by exact hl0)).trans y1
       have a2:=(ai.cell (p:=⟨w.heap.size,2,none⟩) (by exact hl0)).trans y2
       have a3:=(ai.cell (p:=⟨w.heap.size,3,none⟩) (by exact hl0)).trans y3
       have a4:=(ai.cell (p:=⟨w.heap.size,4,none⟩) (by exact hl0)).trans y4
       have a5:=(ai.cell (p:=⟨w.heap.size,5,none⟩) (by exact hl0)).trans y5
       have a6:=(ai.cell (p:=⟨w.heap.size,6,none⟩) (by exact hl0)).trans y6
       have a7:=(ai.cell (p:=⟨w.heap.size,7,none⟩) (by exact hl0)).trans y7
       have a8:=(ai.cell (p:=⟨w.heap.size,8,none⟩) (by exact hl0)).trans y8
       have a9:=(ai.cell (p:=⟨w.heap.size,9,none⟩) (by exact hl0)).trans y9
       have bY:=cY.out w1 Bw1.out
       clear ai y0 y1 y2 y3 y4 y5 y6 y7 y8 y9)
    | (go_at_call 36;with_reducible refine bY.mono ?_;rintro e w2 ⟨rfl,hb2⟩))
   go_ret
   exact⟨by simp,Bw1.out.trans (hb2.mono Bw1.out.size)⟩
  | true=>
   by_cases h12:nc<=12
   ·have fL:¬((nc:Int) > 12):=by omega
    rw[decide_eq_true h12]
    cases CV with
    | false=>
     go_wp2_with (first
      | (go_at_call 35;with_reducible refine cw.mono ?_;rintro e w1 ⟨rfl,ai⟩
         have Bw1:Hid (Below w.heap.size w w1):=hb0.out.trans (ai.mono hb0.out.size)
         have Lw1:w.heap.size<w1.heap.size:=Nat.lt_of_lt_of_le hl0 ai.size
         have a0:=(ai.cell (p:=⟨w.heap.size,0,none⟩) (by exact hl0)).trans y0
         have a1:=(ai.cell (p:=⟨w.heap.size,1,none⟩) (by exact hl0)).trans y1
         have a2:=(ai.cell (p:=⟨w.heap.size,2,none⟩) (by exact hl0)).trans y2
         have a3:=(ai.cell (p:=⟨w.heap.size,3,none⟩) (by exact hl0)).trans y3
         have a4:=(ai.cell (p:=⟨w.heap.size,4,none⟩) (by exact hl0)).trans y4
         have a5:=(ai.cell (p:=⟨w.heap.size,5,none⟩) (by exact hl0)).trans y5
         have a6:=(ai.cell (p:=⟨w.heap.size,6,none⟩) (by exact hl0)).trans y6
         have a7:=(ai.cell (p:=⟨w.heap.size,7,none⟩) (by exact hl0)).trans y7
         have a8:=(ai.cell (p:=⟨w.heap.size,8,none⟩) (by exact hl0)).trans y8
         have a9:=(ai.cell (p:=⟨w.heap.size,9,none⟩) (by exact hl0)).trans y9
         have bY:=cY.out w1 Bw1.out
         clear ai y0 y1 y2 y3 y4 y5 y6 y7 y8 y9)
      | (go_at_call 36;with_reducible refine bY.mono ?_;rintro e w2 ⟨rfl,au⟩
         have Bw2:Hid (Below w.heap.size w w2):=Bw1.out.trans (au.mono Bw1.out.size)
         have Lw2:w.heap.size<w2.heap.size:=Nat.lt_of_lt_of_le Lw1 au.size
         have c0:=(au.cell (p:=⟨w.heap.size,0,none⟩) (by exact Lw1)).trans a0
         have c1:=(au.cell (p:=⟨w.heap.size,1,none⟩) (by exact Lw1)).trans a1
         have c2:=(au.cell (p:=⟨w.heap.size,2,none⟩) (by exact Lw1)).trans a2
         have c3:=(au.cell (p:=⟨w.heap.size,3,none⟩) (by exact Lw1)).trans a3
         have c4:=(au.cell (p:=⟨w.heap.size,4,none⟩) (by exact Lw1)).trans a4
         have c5:=(au.cell (p:=⟨w.heap.size,5,none⟩) (by exact Lw1)).trans a5
         have c6:=(au.cell (p:=⟨w.heap.size,6,none⟩) (by exact Lw1)).trans a6
         have c7:=(au.cell (p:=⟨w.heap.size,7,none⟩) (by exact Lw1)).trans a7
         have c8:=(au.cell (p:=⟨w.heap.size,8,none⟩) (by exact Lw1)).trans a8
         have c9:=(au.cell (p:=⟨w.heap.size,9,none⟩) (by exact Lw1)).trans a9
         have dD:=bX.out (by simp) w2 Bw2.out
         clear au a0 a1 a2 a3 a4 a5 a6 a7 a8 a9)
      | (go_at_call 37;with_reducible refine dD.mono ?_;rintro e w3 ⟨rfl,hb3⟩))
     go_ret
     exact⟨by simp,Bw2.out.trans (hb3.mono Bw2.out.size)⟩
    | true=>
     have hJ0:Hid (BlkI (w.alloc (.cells (mC k f ng aq an ac dq dn dc m sq sn sc st bq nb bc cq nc cc) 34)) w.heap.size 34 (mC k f ng aq an ac dq dn dc m sq sn sc st bq nb bc cq nc cc)):=heap_alloc_new _ _
     go_upto_region 3 with(first
      | (go_at_call 35;with_reducible refine cw.mono ?_;rintro e w1 ⟨rfl,ai⟩
         have Bw1:Hid (Below w.heap.size w w1):=hb0.out.trans (ai.mono hb0.out.size)
         have Lw1:w.heap.size<w1.heap.size:=Nat.lt_of_lt_of_le hl0 ai.size
         have a0:=(ai.cell (p:=⟨w.heap.size,0,none⟩) (by exact hl0)).trans y0
         have a1:=(ai.cell (p:=⟨w.heap.size,1,none⟩) (by exact hl0)).trans y1
         have a2:=(ai.cell (p:=⟨w.heap.size,2,none⟩) (by exact hl0)).trans y2
         have a3:=(ai.cell (p:=⟨w.heap.size,3,none⟩) (by exact hl0)).trans y3
         have a4:=(ai.cell (p:=⟨w.heap.size,4,none⟩) (by exact hl0)).trans y4
         have a5:=(ai.cell (p:=⟨w.heap.size,5,none⟩) (by exact hl0)).trans y5
         have a6:=(ai.cell (p:=⟨w.heap.size,6,none⟩) (by exact hl0)).trans y6
         have a7:=(ai.cell (p:=⟨w.heap.size,7,none⟩) (by exact hl0)).trans y7
         have a8:=(ai.cell (p:=⟨w.heap.size,8,none⟩) (by exact hl0)).trans y8
         have a9:=(ai.cell (p:=⟨w.heap.size,9,none⟩) (by exact hl0)).trans y9
         have bY:=cY.out w1 Bw1.out
         have hJ1:=zac (hJ0.out.below ai)
         clear ai y0 y1 y2 y3 y4 y5 y6 y7 y8 y9)
      | (go_at_call 36;with_reducible refine bY.mono ?_;rintro e w2 ⟨rfl,au⟩
         have Bw2:Hid (Below w.heap.size w w2):=Bw1.out.trans (au.mono Bw1.out.size)
         have Lw2:w.heap.size<w2.heap.size:=Nat.lt_of_lt_of_le Lw1 au.size
         have c0:=(au.cell (p:=⟨w.heap.size,0,none⟩) (by exact Lw1)).trans a0
         have c1:=(au.cell (p:=⟨w.heap.size,1,none⟩) (by exact Lw1)).trans a1
         have c2:=(au.cell (p:=⟨w.heap.size,2,none⟩) (by exact Lw1)).trans a2
         have c3:=(au.cell (p:=⟨w.heap.size,3,none⟩) (by exact Lw1)).trans a3
         have c4:=(au.cell (p:=⟨w.heap.size,4,none⟩) (by exact Lw1)).trans a4
         have c5:=(au.cell (p:=⟨w.heap.size,5,none⟩) (by exact Lw1)).trans a5
         have c6:=(au.cell (p:=⟨w.heap.size,6,none⟩) (by exact Lw1)).trans a6
         have c7:=(au.cell (p:=⟨w.heap.size,7,none⟩) (by exact Lw1)).trans a7
         have c8:=(au.cell (p:=⟨w.heap.size,8,none⟩) (by exact Lw1)).trans a8
         have c9:=(au.cell (p:=⟨w.heap.size,9,none⟩) (by exact Lw1)).trans a9
         have dD:=bX.out (by simp) w2 Bw2.out
         have hJ2:=zac (hJ1.out.below au)
         clear au a0 a1 a2 a3 a4 a5 a6 a7 a8 a9)
      | (go_at_call 37;with_reducible refine dD.mono ?_;rintro e w3 ⟨rfl,aL⟩
         have Bw3:Hid (Below w.heap.size w w3):=Bw2.out.trans (aL.mono Bw2.out.size)
         have Lw3:w.heap.size<w3.heap.size:=Nat.lt_of_lt_of_le Lw2 aL.size
         have p0:=(aL.cell (p:=⟨w.heap.size,0,none⟩) (by exact Lw2)).trans c0
         have p1:=(aL.cell (p:=⟨w.heap.size,1,none⟩) (by exact Lw2)).trans c1
         have p2:=(aL.cell (p:=⟨w.heap.size,2,none⟩) (by exact Lw2)).trans c2
         have p3:=(aL.cell (p:=⟨w.heap.size,3,none⟩) (by exact Lw2)).trans c3
         have p4:=(aL.cell (p:=⟨w.heap.size,4,none⟩) (by exact Lw2)).trans c4
         have p5:=(aL.cell (p:=⟨w.heap.size,5,none⟩) (by exact Lw2)).trans c5
         have p6:=(aL.cell (p:=⟨w.heap.size,6,none⟩) (by exact Lw2)).trans c6
         have p7:=(aL.cell (p:=⟨w.heap.size,7,none⟩) (by exact Lw2)).trans c7
         have p8:=(aL.cell (p:=⟨w.heap.size,8,none⟩) (by exact Lw2)).trans c8
         have p9:=(aL.cell (p:=⟨w.heap.size,9,none⟩) (by exact Lw2)).trans c9
         have hJ3:=zac (hJ2.out.below aL)
         clear aL c0 c1 c2 c3 c4 c5 c6 c7 c8 c9))
     clear cY dB bX hb0 p0 p1 p2 p3 p4 p5 p6 p7 p8 p9 hJ0 hJ1 hJ2
     go_wp2_with fail
     go_loopw [3] (fun i wr=>∃j:Nat,j<=nc/\i=.int .i64 j/\Hid (∀i,i<j->(EK i&&CK i)=true)/\Hid (Below w3.heap.size w3 wr)) (fun i _=>nc - (intOf i).toNat)
     case atStart=>exact⟨0,Nat.zero_le _,rfl,fun j hj=>by omega,Below.refl _ _⟩
     case round=>
      obtain⟨j,hj,rfl,aE,hbw⟩:=hrel
      have JB:=hJ3.out.below hbw.out
      have y9:wr.cell? ⟨w.heap.size,9,none⟩=some (.slice cq nc cc):=JB.cell 9
      by_cases hlt:j<nc
      ·have aA:(j:Int)<(nc:Int):=by omega
       have hnj:¬nc<=j:=by omega
       obtain⟨b,o,rfl,hbl,ds,hds⟩:=dC.out.resolve_left (by omega)
       have hW:Hid (Below w.heap.size w wr):=Bw3.out.trans (hbw.out.mono Bw3.out.size)
       have hWd:Hid (Below w.heap.size w wr.drew):=hW.out.drew
       have hwl:w.heap.size<=wr.heap.size:=hW.out.size
       obtain⟨hr,he,hc⟩:=hds j hlt
       have hr:=zad hr hWd.out hbl
       have hnd:NdAt wr.drew b (o+j*8) (ds j):=⟨by simpa using hr 0 _ rfl,by simpa using hr 1 _ rfl,by simpa using hr 2 _ rfl,by simpa using hr 3 _ rfl,by simpa using hr 4 _ rfl,by simpa using hr 5 _ rfl,by simpa using hr 6 _ rfl⟩
       have JB:BlkI wr.drew w.heap.size 34 (mC k f ng aq an ac dq dn dc m sq sn sc st bq nb bc (some ⟨b,o,none⟩) nc cc):=JB
       have he1:=he _ hWd.out
       have hc':=zac hc
       obtain⟨E,hE⟩:∃E,EK j=E:=⟨_,rfl⟩
       have hE:Hid (EK j=E):=hE
       rw[hE.out] at he1
       clear hc he hr hds
       simp only[Nd.val] at he1
       cases E with
       | false=>
        go_upto_region 6 with fail
        have hS0:(SKn w k f ng aq an ac dq dn dc m sq sn sc st bq nb bc b o nc cc j ds) wr.drew:=⟨JB,hnd⟩
        refine wp_region_held_drew (S:=(SKn w k f ng aq an ac dq dn dc m sq sn sc st bq nb bc b o nc cc j ds)) (by kernel_rfl) hS0 (fun ah=>?_)
        refine tk 0 (.pointer (some ⟨w.heap.size,9,none⟩)) rfl ah ?_
        simp only[pz]
        refine tk 1 (.slice (some ⟨b,o,none⟩) nc cc) rfl ah ?_ (.inl ⟨by rfl,fun z hSz=>by(have h9:=hSz.1.cell 9;go_simp)⟩)
        simp only[pz]
        refine tk 2 (.int .i64 (j:Int)) rfl ah ?_
        simp only[pz]
        refine tk 3 (.pointer (some ⟨b,o+j*8,none⟩)) rfl ah ?_
        simp only[pz]
        refine tk 4 (.pointer (some ⟨b,o+j*8,none⟩)) rfl ah ?_
        simp only[pz]
        refine tk 5 (.agg (nA (ds j))) rfl ah ?_ (.inl ⟨by rfl,fun z hSz=>by(obtain⟨h0,h1,h2,h3,h4,h5,h6⟩:=hSz.2;go_simp)⟩)
        simp only[pz]
        refine rdy 6 rfl (fun K hK=>?_)
        go_simp
        with_reducible refine he1.mono ?_
        rintro e w4 ⟨rfl,hb4⟩
        have B4:Hid (Below w.heap.size w w4):=hWd.out.trans (hb4.mono hWd.out.size)
        have hS4:(SKn w k f ng aq an ac dq dn dc m sq sn sc st bq nb bc b o nc cc j ds) w4:=⟨JB.below hb4,hnd.below hb4 (by show b<wr.heap.size;omega)⟩
        refine hK.out _ _ hS4 (fun af=>?_)
        clear hK K ah
        try simp only[pz]
        refine tk 7 (.bool true) rfl af ?_
        simp only[pz]
        refine tk 8 (.bool true) rfl af ?_
        simp only[pz]
        refine tk 9 undef rfl af ?_ (.inr ⟨by rfl,rfl⟩)
        simp only[pz]
        refine tk 10 undef rfl af ?_ (.inr ⟨by rfl,rfl⟩)
        simp only[pz]
        refine tk 11 undef rfl af ?_ (.inr ⟨by rfl,rfl⟩)
        simp only[pz]
        refine tk 12 undef rfl af ?_ (.inr ⟨by rfl,rfl⟩)
        simp only[pz]
        refine tk 13 undef rfl af ?_ (.inr ⟨by rfl,rfl⟩)
        simp only[pz]
        refine tk 14 undef rfl af ?_ (.inr ⟨by rfl,rfl⟩)
        simp only[pz]
        refine tk 15 undef rfl af ?_ (.inr ⟨by rfl,rfl⟩)
        simp only[pz]
        refine tk 16 undef rfl af ?_ (.inr ⟨by rfl,rfl⟩)
        simp only[pz]
        refine tk 17 undef rfl af ?_ (.inr ⟨by rfl,rfl⟩)
        simp only[pz]
        refine tk 18 undef rfl af ?_ (.inr ⟨by rfl,rfl⟩)
        simp only[pz]
        refine tk 19 (.bool true) rfl af ?_
        simp only[pz]
        refine wpAnyH_done (by kernel_rfl) ?_ _
        go_wp2_with fail
        go_ret
        exact⟨by rw[zcw hlt (by rw[hE.out];rfl)];simp,B4.out⟩
       | true=>
        obtain⟨V,hV⟩:∃V,CK j=V:=⟨_,rfl⟩
        have hV:Hid (CK j=V):=hV
        cases V with
        | false=>
         go_upto_region 6 with fail
         have hS0:(SKn w k f ng aq an ac dq dn dc m sq sn sc st bq nb bc b o nc cc j ds) wr.drew:=⟨JB,hnd⟩
         refine wp_region_held_drew (S:=(SKn w k f ng aq an ac dq dn dc m sq sn sc st bq nb bc b o nc cc j ds)) (by kernel_rfl) hS0 (fun ah=>?_)
         refine tk 0 (.pointer (some ⟨w.heap.size,9,none⟩)) rfl ah ?_
         simp only[pz]
         refine tk 1 (.slice (some ⟨b,o,none⟩) nc cc) rfl ah ?_ (.inl ⟨by rfl,fun z hSz=>by(have h9:=hSz.1.cell 9;go_simp)⟩)
         simp only[pz]
         refine tk 2 (.int .i64 (j:Int)) rfl ah ?_
         simp only[pz]
         refine tk 3 (.pointer (some ⟨b,o+j*8,none⟩)) rfl ah ?_
         simp only[pz]
         refine tk 4 (.pointer (some ⟨b,o+j*8,none⟩)) rfl ah ?_
         simp only[pz]
         refine tk 5 (.agg (nA (ds j))) rfl ah ?_ (.inl ⟨by rfl,fun z hSz=>by(obtain⟨h0,h1,h2,h3,h4,h5,h6⟩:=hSz.2;go_simp)⟩)
         simp only[pz]
         refine rdy 6 rfl (fun K hK=>?_)
         go_simp
         with_reducible refine he1.mono ?_
         rintro e w4 ⟨rfl,hb4⟩
         have B4:Hid (Below w.heap.size w w4):=hWd.out.trans (hb4.mono hWd.out.size)
         have hS4:(SKn w k f ng aq an ac dq dn dc m sq sn sc st bq nb bc b o nc cc j ds) w4:=⟨JB.below hb4,hnd.below hb4 (by show b<wr.heap.size;omega)⟩
         refine hK.out _ _ hS4 (fun af=>?_)
         clear hK K ah
         try simp only[pz]
         refine tk 7 (.bool false) rfl af ?_
         simp only[pz]
         refine tk 8 (.bool false) rfl af ?_
         simp only[pz]
         refine tk 9 (.pointer (some ⟨w.heap.size,9,none⟩)) rfl af ?_
         simp only[pz]
         refine tk 10 (.slice (some ⟨b,o,none⟩) nc cc) rfl af ?_ (.inl ⟨by rfl,fun z hSz=>by(have h9:=hSz.1.cell 9;go_simp)⟩)
         simp only[pz]
         refine tk 11 (.int .i64 (j:Int)) rfl af ?_
         simp only[pz]
         refine tk 12 (.pointer (some ⟨b,o+j*8,none⟩)) rfl af ?_
         simp only[pz]
         refine tk 13 (.pointer (some ⟨b,o+j*8,none⟩)) rfl af ?_
         simp only[pz]
         refine tk 14 (.agg (nA (ds j))) rfl af ?_ (.inl ⟨by rfl,fun z hSz=>by(obtain⟨h0,h1,h2,h3,h4,h5,h6⟩:=hSz.2;go_simp)⟩)
         simp only[pz]
         refine tk 15 (.pointer (some ⟨w.heap.size,8,none⟩)) rfl af ?_
         simp only[pz]
         refine tk 16 (.slice bq nb bc) rfl af ?_ (.inl ⟨by rfl,fun z hSz=>by(have h8:=hSz.1.cell 8;go_simp)⟩)
         simp only[pz]
         have hc1:=hc'.out (by first | exact hE.out | simp[hE.out]) w4 B4.out
         rw[hV.out] at hc1
         simp only[Nd.val] at hc1
         refine rdy 17 rfl (fun K hK=>?_)
         go_simp
         with_reducible refine hc1.mono ?_
         rintro e w5 ⟨rfl,hb5⟩
         have hS5:(SKn w k f ng aq an ac dq dn dc m sq sn sc st bq nb bc b o nc cc j ds) w5:=⟨hS4.1.below hb5,hS4.2.below hb5 (Nat.lt_of_lt_of_le (by show b<wr.heap.size;omega) hb4.size)⟩
         refine hK.out _ _ hS5 (fun al=>?_)
         clear hK K af
         try simp only[pz]
         refine tk 18 (.bool true) rfl al ?_
         simp only[pz]
         refine tk 19 (.bool true) rfl al ?_
         simp only[pz]
         refine wpAnyH_done (by kernel_rfl) ?_ _
         go_wp2_with fail
         go_ret
         exact⟨by rw[zcw hlt (by rw[hE.out,hV.out];rfl)];simp,B4.out.trans (hb5.mono B4.out.size)⟩
        | true=>
         go_upto_region 6 with fail
         have hS0:(SKn w k f ng aq an ac dq dn dc m sq sn sc st bq nb bc b o nc cc j ds) wr.drew:=⟨JB,hnd⟩
         refine wp_region_held_drew (S:=(SKn w k f ng aq an ac dq dn dc m sq sn sc st bq nb bc b o nc cc j ds)) (by kernel_rfl) hS0 (fun ah=>?_)
         refine tk 0 (.pointer (some ⟨w.heap.size,9,none⟩)) rfl ah ?_
         simp only[pz]
         refine tk 1 (.slice (some ⟨b,o,none⟩) nc cc) rfl ah ?_ (.inl ⟨by rfl,fun z hSz=>by(have h9:=hSz.1.cell 9;go_simp)⟩)
         simp only[pz]
         refine tk 2 (.int .i64 (j:Int)) rfl ah ?_
         simp only[pz]
         refine tk 3 (.pointer (some ⟨b,o+j*8,none⟩)) rfl ah ?_
         simp only[pz]
         refine tk 4 (.pointer (some ⟨b,o+j*8,none⟩)) rfl ah ?_
         simp only[pz]
         refine tk 5 (.agg (nA (ds j))) rfl ah ?_ (.inl ⟨by rfl,fun z hSz=>by(obtain⟨h0,h1,h2,h3,h4,h5,h6⟩:=hSz.2;go_simp)⟩)
         simp only[pz]
         refine rdy 6 rfl (fun K hK=>?_)
         go_simp
         with_reducible refine he1.mono ?_
         rintro e w4 ⟨rfl,hb4⟩
         have B4:Hid (Below w.heap.size w w4):=hWd.out.trans (hb4.mono hWd.out.size)
         have hS4:(SKn w k f ng aq an ac dq dn dc m sq sn sc st bq nb bc b o nc cc j ds) w4:=⟨JB.below hb4,hnd.below hb4 (by show b<wr.heap.size;omega)⟩
         refine hK.out _ _ hS4 (fun af=>?_)
         clear hK K ah
         try simp only[pz]
         refine tk 7 (.bool false) rfl af ?_
         simp only[pz]
         refine tk 8 (.bool false) rfl af ?_
         simp only[pz]
         refine tk 9 (.pointer (some ⟨w.heap.size,9,none⟩)) rfl af ?_
         simp only[pz]
         refine tk 10 (.slice (some ⟨b,o,none⟩) nc cc) rfl af ?_ (.inl ⟨by rfl,fun z hSz=>by(have h9:=hSz.1.cell 9;go_simp)⟩)
         simp only[pz]
         refine tk 11 (.int .i64 (j:Int)) rfl af ?_
         simp only[pz]
         refine tk 12 (.pointer (some ⟨b,o+j*8,none⟩)) rfl af ?_
         simp only[pz]
         refine tk 13 (.pointer (some ⟨b,o+j*8,none⟩)) rfl af ?_
         simp only[pz]
         refine tk 14 (.agg (nA (ds j))) rfl af ?_ (.inl ⟨by rfl,fun z hSz=>by(obtain⟨h0,h1,h2,h3,h4,h5,h6⟩:=hSz.2;go_simp)⟩)
         simp only[pz]
         refine tk 15 (.pointer (some ⟨w.heap.size,8,none⟩)) rfl af ?_
         simp only[pz]
         refine tk 16 (.slice bq nb bc) rfl af ?_ (.inl ⟨by rfl,fun z hSz=>by(have h8:=hSz.1.cell 8;go_simp)⟩)
         simp only[pz]
         have hc1:=hc'.out (by first | exact hE.out | simp[hE.out]) w4 B4.out
         rw[hV.out] at hc1
         simp only[Nd.val] at hc1
         refine rdy 17 rfl (fun K hK=>?_)
         go_simp
         with_reducible refine hc1.mono ?_
         rintro e w5 ⟨rfl,hb5⟩
         have hS5:(SKn w k f ng aq an ac dq dn dc m sq sn sc st bq nb bc b o nc cc j ds) w5:=⟨hS4.1.below hb5,hS4.2.below hb5 (Nat.lt_of_lt_of_le (by show b<wr.heap.size;omega) hb4.size)⟩
         refine hK.out _ _ hS5 (fun al=>?_)
         clear hK K af
         try simp only[pz]
         refine tk 18 (.bool false) rfl al ?_
         simp only[pz]
         refine tk 19 (.bool false) rfl al ?_
         simp only[pz]
         refine wpAnyH_done (by kernel_rfl) ?_ _
         go_wp2_with fail
         go_roundw
         case rel=>
          refine⟨j+1,by omega,by go_num,fun i hi=>?_,hbw.out.drew.trans ((hb4.trans (hb5.mono hb4.size)).mono hbw.out.drew.size)⟩
          rcases Nat.lt_or_ge i j with h | h
          ·exact aE.out i h
          ·obtain rfl:i=j:=by omega
           rw[hE.out,hV.out]
           rfl
         case measure=>simp[intOf];omega
      ·obtain rfl:j=nc:=by omega
       go_wp2_with fail
       go_ret
       exact⟨by rw[zdi aE.out];rfl,Bw3.out.trans (hbw.out.mono Bw3.out.size)⟩
   ·have fL:(nc:Int) > 12:=by omega
    rw[decide_eq_false h12]
    go_wp2_with (first
     | (go_at_call 35;with_reducible refine cw.mono ?_;rintro e w1 ⟨rfl,ai⟩
        have Bw1:Hid (Below w.heap.size w w1):=hb0.out.trans (ai.mono hb0.out.size)
        have Lw1:w.heap.size<w1.heap.size:=Nat.lt_of_lt_of_le hl0 ai.size
        have a0:=(ai.cell (p:=⟨w.heap.size,0,none⟩) (by exact hl0)).trans y0
        have a1:=(ai.cell (p:=⟨w.heap.size,1,none⟩) (by exact hl0)).trans y1
        have a2:=(ai.cell (p:=⟨w.heap.size,2,none⟩) (by exact hl0)).trans y2
        have a3:=(ai.cell (p:=⟨w.heap.size,3,none⟩) (by exact hl0)).trans y3
        have a4:=(ai.cell (p:=⟨w.heap.size,4,none⟩) (by exact hl0)).trans y4
        have a5:=(ai.cell (p:=⟨w.heap.size,5,none⟩) (by exact hl0)).trans y5
        have a6:=(ai.cell (p:=⟨w.heap.size,6,none⟩) (by exact hl0)).trans y6
        have a7:=(ai.cell (p:=⟨w.heap.size,7,none⟩) (by exact hl0)).trans y7
        have a8:=(ai.cell (p:=⟨w.heap.size,8,none⟩) (by exact hl0)).trans y8
        have a9:=(ai.cell (p:=⟨w.heap.size,9,none⟩) (by exact hl0)).trans y9
        have bY:=cY.out w1 Bw1.out
        clear ai y0 y1 y2 y3 y4 y5 y6 y7 y8 y9)
     | (go_at_call 36;with_reducible refine bY.mono ?_;rintro e w2 ⟨rfl,au⟩
        have Bw2:Hid (Below w.heap.size w w2):=Bw1.out.trans (au.mono Bw1.out.size)
        have Lw2:w.heap.size<w2.heap.size:=Nat.lt_of_lt_of_le Lw1 au.size
        have c0:=(au.cell (p:=⟨w.heap.size,0,none⟩) (by exact Lw1)).trans a0
        have c1:=(au.cell (p:=⟨w.heap.size,1,none⟩) (by exact Lw1)).trans a1
        have c2:=(au.cell (p:=⟨w.heap.size,2,none⟩) (by exact Lw1)).trans a2
        have c3:=(au.cell (p:=⟨w.heap.size,3,none⟩) (by exact Lw1)).trans a3
        have c4:=(au.cell (p:=⟨w.heap.size,4,none⟩) (by exact Lw1)).trans a4
        have c5:=(au.cell (p:=⟨w.heap.size,5,none⟩) (by exact Lw1)).trans a5
        have c6:=(au.cell (p:=⟨w.heap.size,6,none⟩) (by exact Lw1)).trans a6
        have c7:=(au.cell (p:=⟨w.heap.size,7,none⟩) (by exact Lw1)).trans a7
        have c8:=(au.cell (p:=⟨w.heap.size,8,none⟩) (by exact Lw1)).trans a8
        have c9:=(au.cell (p:=⟨w.heap.size,9,none⟩) (by exact Lw1)).trans a9
        clear au a0 a1 a2 a3 a4 a5 a6 a7 a8 a9))
    go_ret
    exact⟨by simp,Bw2.out⟩
theorem zet {w:World} {C:Cl} {D:Cd} (h:ClOk w C D) (hT:Tb w):Calls Tryz.prog 10 #[.agg (C.cells D).toArray] w fun e w'=>e=.returned (.bool C.vld)/\Below w.heap.size w w':=by
 obtain⟨h1,h2,h3,h4,h5⟩:=h
 refine zf2 (k:=D.d.k) (f:=D.d.f) (ng:=D.d.neg) (st:=C.st) (aq:=D.d.aq) (dq:=D.d.cq) (sq:=D.d.sq) (bq:=D.bq) (cq:=D.cq) (an:=D.d.an) (ac:=D.d.ac) (dn:=D.d.cn) (dc:=D.d.cc) (sn:=D.d.sn) (sc:=D.d.sc) (nb:=C.nb) (bc:=D.bc) (nc:=C.nc) (cc:=D.cc) (m:=D.d.m)
  (BX:=bxOk C.nb C.bs) (EV:=exV C.goal) (CV:=cov C.goal C.nb C.bs) (ks:=C.cs) (EK:=fun i=>exV (C.cs i).x) (CK:=fun i=>cov (C.cs i).x C.nb C.bs)
  (fun z hz=>zg2 D.bc (h4.below hz) (hT.below hz)) (fun z hz=>zcj (h1.below hz) (hT.below hz)) (fun he z hz=>?_) (h5.imp id ?_) h3
 ·obtain⟨a,ha⟩:=zd1 he
  exact zfb (h1.below hz) (hT.below hz) ha D.bc (h4.below hz) h2
 ·rintro⟨b,o,e,hb,ds,hds⟩
  refine⟨b,o,e,hb,ds,fun i hi=>⟨(hds i hi).1,fun z hz=>zcj ((hds i hi).2.below hz) (hT.below hz),fun he z hz=>?_⟩⟩
  obtain⟨a,ha⟩:=zd1 he
  exact zfb ((hds i hi).2.below hz) (hT.below hz) ha D.bc (h4.below hz) h2
theorem zh9 {w:World} {C:Cl} {D:Cd} (h:ClOk w C D):Calls Tryz.prog 13 #[.agg (C.cells D).toArray] w fun e w'=>e=.returned (.bool C.vld)/\Below w.heap.size w w':=by
 obtain⟨h1,h2,h3,h4,h5⟩:=h
 refine zix (k:=D.d.k) (f:=D.d.f) (ng:=D.d.neg) (st:=C.st) (aq:=D.d.aq) (dq:=D.d.cq) (sq:=D.d.sq) (bq:=D.bq) (cq:=D.cq) (an:=D.d.an) (ac:=D.d.ac) (dn:=D.d.cn) (dc:=D.d.cc) (sn:=D.d.sn) (sc:=D.d.sc) (nb:=C.nb) (bc:=D.bc) (nc:=C.nc) (cc:=D.cc) (m:=D.d.m)
  (BX:=bxOk C.nb C.bs) (EV:=exV C.goal) (CV:=cov C.goal C.nb C.bs) (ks:=C.cs) (EK:=fun i=>exV (C.cs i).x) (CK:=fun i=>cov (C.cs i).x C.nb C.bs)
  (fun z hz=>zkb D.bc (h4.below hz)) (fun z hz=>zc7 (h1.below hz)) (fun he z hz=>?_) (h5.imp id ?_) h3
 ·obtain⟨a,ha⟩:=zd1 he
  exact zgx (h1.below hz) ha D.bc (h4.below hz) h2
 ·rintro⟨b,o,e,hb,ds,hds⟩
  refine⟨b,o,e,hb,ds,fun i hi=>⟨(hds i hi).1,fun z hz=>zc7 ((hds i hi).2.below hz),fun he z hz=>?_⟩⟩
  obtain⟨a,ha⟩:=zd1 he
  exact zgx ((hds i hi).2.below hz) ha D.bc (h4.below hz) h2
end Go.Proofs.YtaonejnicgbifaaGreatDoor
