import Derived.Test.YtaonejnicgbifaaGreatDoorQk28
namespace Go.Proofs.YtaonejnicgbifaaGreatDoor
open Go Go.RowKit
set_option maxRecDepth 100000
set_option maxHeartbeats 16000000
def exV (x:Ex):Bool:=(x.cnt 1 0).isSome
def coOk (nb:Nat) (bs:Nat->Si) (x:Ex):Bool:=exV x&&cov x nb bs
def Cl.vld (C:Cl):Bool:=bxOk C.nb C.bs&&(decide (C.nc<=12)&&(coOk C.nb C.bs C.goal&&(List.range C.nc).all fun i=>coOk C.nb C.bs (C.cs i).x))
theorem zd1 {x:Ex} (h:exV x=true):∃a,x.cnt 1 0=some a:=by
 unfold exV at h
 exact Option.isSome_iff_exists.1 h
theorem zcw {n:Nat} {P:Nat->Bool} {j:Nat} (hj:j<n) (h:P j=false):(List.range n).all P=false:=by
 rw[List.all_eq_false]
 exact⟨j,List.mem_range.2 hj,by rw[h];simp⟩
theorem zdi {n:Nat} {P:Nat->Bool} (h:∀j,j<n->P j=true):(List.range n).all P=true:=by
 rw[List.all_eq_true]
 exact fun j hj=>h j (List.mem_range.1 hj)
theorem zf2 {w:World} {k f:Int} {ng st:Bool} {aq dq sq bq cq:Option Addr} {an ac dn dc sn sc nb bc nc cc:Nat} {m:ByteArray} {BX EV CV:Bool} {ks:Nat->Co} {EK CK:Nat->Bool}
  (hbx:CA w 25 #[.slice bq nb bc] (.bool BX))
  (hev:CA w 26 #[.agg (mA k f ng aq an ac dq dn dc m sq sn sc)] (.bool EV))
  (hcv:EV=true->CA w 27 #[.agg (mA k f ng aq an ac dq dn dc m sq sn sc),.slice bq nb bc] (.bool CV))
  (hcs:nc=0\/∃b o,cq=some ⟨b,o,none⟩/\b<w.heap.size/\∃ds:Nat->Nd,∀i,i<nc->w.rangeAt b (o+i*8) ((ks i).cells (ds i))/\
    (CA w 26 #[(ds i).val] (.bool (EK i)))/\
    (EK i=true->CA w 27 #[(ds i).val,.slice bq nb bc] (.bool (CK i))))
  (hn:nc<=1048576):
  Calls Tryz.prog 10 #[.agg (mC k f ng aq an ac dq dn dc m sq sn sc st bq nb bc cq nc cc)] w fun e w'=>e=.returned (.bool (BX&&(decide (nc<=12)&&((EV&&CV)&&(List.range nc).all fun i=>EK i&&CK i))))/\Below w.heap.size w w':=by
 have cY:=zac hbx
 have dB:=zac hev
 have bX:=zac hcv
 have dC:Hid (nc=0\/∃b o,cq=some ⟨b,o,none⟩/\b<w.heap.size/\∃ds:Nat->Nd,∀i,i<nc->w.rangeAt b (o+i*8) ((ks i).cells (ds i))/\
  (CA w 26 #[(ds i).val] (.bool (EK i)))/\
  (EK i=true->CA w 27 #[(ds i).val,.slice bq nb bc] (.bool (CK i)))):=hcs
 have hb0:Hid (Below w.heap.size w (w.alloc (.cells (mC k f ng aq an ac dq dn dc m sq sn sc st bq nb bc cq nc cc) 34))):=zaa w _
 have hl0:w.heap.size<(w.alloc (.cells (mC k f ng aq an ac dq dn dc m sq sn sc st bq nb bc cq nc cc) 34)).heap.size:=by simp
 clear hbx hev hcv hcs
 have y0:(w.alloc (.cells (mC k f ng aq an ac dq dn dc m sq sn sc st bq nb bc cq nc cc) 34)).cell? ⟨w.heap.size,0,none⟩=some (.int .i64 k):=by simp
 have y1:(w.alloc (.cells (mC k f ng aq an ac dq dn dc m sq sn sc st bq nb bc cq nc cc) 34)).cell? ⟨w.heap.size,1,none⟩=some (.int .i64 f):=by simp
 have y2:(w.alloc (.cells (mC k f ng aq an ac dq dn dc m sq sn sc st bq nb bc cq nc cc) 34)).cell? ⟨w.heap.size,2,none⟩=some (.bool ng):=by simp
 have y3:(w.alloc (.cells (mC k f ng aq an ac dq dn dc m sq sn sc st bq nb bc cq nc cc) 34)).cell? ⟨w.heap.size,3,none⟩=some (.slice aq an ac):=by simp
 have y4:(w.alloc (.cells (mC k f ng aq an ac dq dn dc m sq sn sc st bq nb bc cq nc cc) 34)).cell? ⟨w.heap.size,4,none⟩=some (.slice dq dn dc):=by simp
 have y5:(w.alloc (.cells (mC k f ng aq an ac dq dn dc m sq sn sc st bq nb bc cq nc cc) 34)).cell? ⟨w.heap.size,5,none⟩=some (.string m):=by simp
 have y6:(w.alloc (.cells (mC k f ng aq an ac dq dn dc m sq sn sc st bq nb bc cq nc cc) 34)).cell? ⟨w.heap.size,6,none⟩=some (.slice sq sn sc):=by simp
 have y7:(w.alloc (.cells (mC k f ng aq an ac dq dn dc m sq sn sc st bq nb bc cq nc cc) 34)).cell? ⟨w.heap.size,7,none⟩=some (.bool st):=by simp
 have y8:(w.alloc (.cells (mC k f ng aq an ac dq dn dc m sq sn sc st bq nb bc cq nc cc) 34)).cell? ⟨w.heap.size,8,none⟩=some (.slice bq nb bc):=by simp
 have y9:(w.alloc (.cells (mC k f ng aq an ac dq dn dc m sq sn sc st bq nb bc cq nc cc) 34)).cell? ⟨w.heap.size,9,none⟩=some (.slice cq nc cc):=by simp
 have bY:=cY.out _ hb0.out
 go_enter Tryz.func10,Tryz.ntmps10
 cases BX with
 | false=>
  go_wp2_with (go_at_call 25;with_reducible refine bY.mono ?_;rintro e w1 ⟨rfl,hb1⟩)
  go_ret
  exact⟨by simp,hb0.out.trans (hb1.mono hb0.out.size)⟩
 | true=>
  by_cases h12:nc<=12
  ·have fL:¬((nc:Int) > 12):=by omega
   rw[decide_eq_true h12]
   cases EV with
   | false=>
    go_wp2_with (first
     | (go_at_call 25;with_reducible refine bY.mono ?_;rintro e w1 ⟨rfl,ai⟩
        have Bw1:Hid (Below w.heap.size w w1):=hb0.out.trans (ai.mono hb0.out.size)
        have Lw1:w.heap.size<w1.heap.size:=Nat.lt_of_lt_of_le hl0 ai.size
        have a0:=(ai.cell (p:=⟨w.heap.size,0,none⟩) (by exact hl0)).trans y0
        have a1:=(ai.cell (p:=⟨w.heap.size,1,none⟩) (by exact hl0)).trans y1
        have a2:=(ai.cell (p:=⟨w.heap.size,2,none⟩) (by exact hl0)).trans y2
        have a3:=(ai.cell (p:=⟨w.heap.size,3,none⟩) (by exact hl0)).trans y3
        have a4:=(ai.cell (p:=⟨w.heap.size,4,none⟩) (by exact hl0)).trans y4
        have a5:=(ai.cell (p:=⟨w.heap.size,5,none⟩) (by exact hl0)).trans y5
        have a6:=(ai.cell (p:=⟨w.heap.size,6,none⟩) (by exact hl0)).trans y6
        have a7:=(ai.cell (p:=⟨w.heap.size,7,none⟩) (by exact hl0)).trans y7
        have a8:=(ai.cell (p:=⟨w.heap.size,8,none⟩) (by exact hl0)).trans y8
        have a9:=(ai.cell (p:=⟨w.heap.size,9,none⟩) (by exact hl0)).trans y9
        have cw:=dB.out w1 Bw1.out
        clear ai y0 y1 y2 y3 y4 y5 y6 y7 y8 y9)
     | (go_at_call 26;with_reducible refine cw.mono ?_;rintro e w2 ⟨rfl,hb2⟩))
    go_ret
    exact⟨by simp,Bw1.out.trans (hb2.mono Bw1.out.size)⟩
   | true=>
    cases CV with
    | false=>
     go_wp2_with (first
      | (go_at_call 25;with_reducible refine bY.mono ?_;rintro e w1 ⟨rfl,ai⟩
         have Bw1:Hid (Below w.heap.size w w1):=hb0.out.trans (ai.mono hb0.out.size)
         have Lw1:w.heap.size<w1.heap.size:=Nat.lt_of_lt_of_le hl0 ai.size
         have a0:=(ai.cell (p:=⟨w.heap.size,0,none⟩) (by exact hl0)).trans y0
         have a1:=(ai.cell (p:=⟨w.heap.size,1,none⟩) (by exact hl0)).trans y1
         have a2:=(ai.cell (p:=⟨w.heap.size,2,none⟩) (by exact hl0)).trans y2
         have a3:=(ai.cell (p:=⟨w.heap.size,3,none⟩) (by exact hl0)).trans y3
         have a4:=(ai.cell (p:=⟨w.heap.size,4,none⟩) (by exact hl0)).trans y4
         have a5:=(ai.cell (p:=⟨w.heap.size,5,none⟩) (by exact hl0)).trans y5
         have a6:=(ai.cell (p:=⟨w.heap.size,6,none⟩) (by exact hl0)).trans y6
         have a7:=(ai.cell (p:=⟨w.heap.size,7,none⟩) (by exact hl0)).trans y7
         have a8:=(ai.cell (p:=⟨w.heap.size,8,none⟩) (by exact hl0)).trans y8
         have a9:=(ai.cell (p:=⟨w.heap.size,9,none⟩) (by exact hl0)).trans y9
         have cw:=dB.out w1 Bw1.out
         clear ai y0 y1 y2 y3 y4 y5 y6 y7 y8 y9)
      | (go_at_call 26;with_reducible refine cw.mono ?_;rintro e w2 ⟨rfl,au⟩
         have Bw2:Hid (Below w.heap.size w w2):=Bw1.out.trans (au.mono Bw1.out.size)
         have Lw2:w.heap.size<w2.heap.size:=Nat.lt_of_lt_of_le Lw1 au.size
         have c0:=(au.cell (p:=⟨w.heap.size,0,none⟩) (by exact Lw1)).trans a0
         have c1:=(au.cell (p:=⟨w.heap.size,1,none⟩) (by exact Lw1)).trans a1
         have c2:=(au.cell (p:=⟨w.heap.size,2,none⟩) (by exact Lw1)).trans a2
         have c3:=(au.cell (p:=⟨w.heap.size,3,none⟩) (by exact Lw1)).trans a3
         have c4:=(au.cell (p:=⟨w.heap.size,4,none⟩) (by exact Lw1)).trans a4
         have c5:=(au.cell (p:=⟨w.heap.size,5,none⟩) (by exact Lw1)).trans a5
         have c6:=(au.cell (p:=⟨w.heap.size,6,none⟩) (by exact Lw1)).trans a6
         have c7:=(au.cell (p:=⟨w.heap.size,7,none⟩) (by exact Lw1)).trans a7
         have c8:=(au.cell (p:=⟨w.heap.size,8,none⟩) (by exact Lw1)).trans a8
         have c9:=(au.cell (p:=⟨w.heap.size,9,none⟩) (by exact Lw1)).trans a9
         have dD:=bX.out (by simp) w2 Bw2.out
         clear au a0 a1 a2 a3 a4 a5 a6 a7 a8 a9)
      | (go_at_call 27;with_reducible refine dD.mono ?_;rintro e w3 ⟨rfl,hb3⟩))
     go_ret
     exact⟨by simp,Bw2.out.trans (hb3.mono Bw2.out.size)⟩
    | true=>
     go_upto_region 3 with(first
      | (go_at_call 25;with_reducible refine bY.mono ?_;rintro e w1 ⟨rfl,ai⟩
         have Bw1:Hid (Below w.heap.size w w1):=hb0.out.trans (ai.mono hb0.out.size)
         have Lw1:w.heap.size<w1.heap.size:=Nat.lt_of_lt_of_le hl0 ai.size
         have a0:=(ai.cell (p:=⟨w.heap.size,0,none⟩) (by exact hl0)).trans y0
         have a1:=(ai.cell (p:=⟨w.heap.size,1,none⟩) (by exact hl0)).trans y1
         have a2:=(ai.cell (p:=⟨w.heap.size,2,none⟩) (by exact hl0)).trans y2
         have a3:=(ai.cell (p:=⟨w.heap.size,3,none⟩) (by exact hl0)).trans y3
         have a4:=(ai.cell (p:=⟨w.heap.size,4,none⟩) (by exact hl0)).trans y4
         have a5:=(ai.cell (p:=⟨w.heap.size,5,none⟩) (by exact hl0)).trans y5
         have a6:=(ai.cell (p:=⟨w.heap.size,6,none⟩) (by exact hl0)).trans y6
         have a7:=(ai.cell (p:=⟨w.heap.size,7,none⟩) (by exact hl0)).trans y7
         have a8:=(ai.cell (p:=⟨w.heap.size,8,none⟩) (by exact hl0)).trans y8
         have a9:=(ai.cell (p:=⟨w.heap.size,9,none⟩) (by exact hl0)).trans y9
         have cw:=dB.out w1 Bw1.out
         clear ai y0 y1 y2 y3 y4 y5 y6 y7 y8 y9)
      | (go_at_call 26;with_reducible refine cw.mono ?_;rintro e w2 ⟨rfl,au⟩
         have Bw2:Hid (Below w.heap.size w w2):=Bw1.out.trans (au.mono Bw1.out.size)
         have Lw2:w.heap.size<w2.heap.size:=Nat.lt_of_lt_of_le Lw1 au.size
         have c0:=(au.cell (p:=⟨w.heap.size,0,none⟩) (by exact Lw1)).trans a0
         have c1:=(au.cell (p:=⟨w.heap.size,1,none⟩) (by exact Lw1)).trans a1
         have c2:=(au.cell (p:=⟨w.heap.size,2,none⟩) (by exact Lw1)).trans a2
         have c3:=(au.cell (p:=⟨w.heap.size,3,none⟩) (by exact Lw1)).trans a3
         have c4:=(au.cell (p:=⟨w.heap.size,4,none⟩) (by exact Lw1)).trans a4
         have c5:=(au.cell (p:=⟨w.heap.size,5,none⟩) (by exact Lw1)).trans a5
         have c6:=(au.cell (p:=⟨w.heap.size,6,none⟩) (by exact Lw1)).trans a6
         have c7:=(au.cell (p:=⟨w.heap.size,7,none⟩) (by exact Lw1)).trans a7
         have c8:=(au.cell (p:=⟨w.heap.size,8,none⟩) (by exact Lw1)).trans a8
         have c9:=(au.cell (p:=⟨w.heap.size,9,none⟩) (by exact Lw1)).trans a9
         have dD:=bX.out (by simp) w2 Bw2.out
         clear au a0 a1 a2 a3 a4 a5 a6 a7 a8 a9)
      | (go_at_call 27;with_reducible refine dD.mono ?_;rintro e w3 ⟨rfl,aL⟩
         have Bw3:Hid (Below w.heap.size w w3):=Bw2.out.trans (aL.mono Bw2.out.size)
         have Lw3:w.heap.size<w3.heap.size:=Nat.lt_of_lt_of_le Lw2 aL.size
         have p0:=(aL.cell (p:=⟨w.heap.size,0,none⟩) (by exact Lw2)).trans c0
         have p1:=(aL.cell (p:=⟨w.heap.size,1,none⟩) (by exact Lw2)).trans c1
         have p2:=(aL.cell (p:=⟨w.heap.size,2,none⟩) (by exact Lw2)).trans c2
         have p3:=(aL.cell (p:=⟨w.heap.size,3,none⟩) (by exact Lw2)).trans c3
         have p4:=(aL.cell (p:=⟨w.heap.size,4,none⟩) (by exact Lw2)).trans c4
         have p5:=(aL.cell (p:=⟨w.heap.size,5,none⟩) (by exact Lw2)).trans c5
         have p6:=(aL.cell (p:=⟨w.heap.size,6,none⟩) (by exact Lw2)).trans c6
         have p7:=(aL.cell (p:=⟨w.heap.size,7,none⟩) (by exact Lw2)).trans c7
         have p8:=(aL.cell (p:=⟨w.heap.size,8,none⟩) (by exact Lw2)).trans c8
         have p9:=(aL.cell (p:=⟨w.heap.size,9,none⟩) (by exact Lw2)).trans c9
         clear aL c0 c1 c2 c3 c4 c5 c6 c7 c8 c9))
     clear cY dB bX hb0
     go_wp2_with fail
     go_loopw [32] (fun i wr=>∃j:Nat,j<=nc/\i=.int .i64 j/\Hid (∀i,i<j->(EK i&&CK i)=true)/\Hid (Below w3.heap.size w3 wr)) (fun i _=>nc - (intOf i).toNat)
     case atStart=>exact⟨0,Nat.zero_le _,rfl,fun j hj=>by omega,Below.refl _ _⟩
     case round=>
      obtain⟨j,hj,rfl,aE,hbw⟩:=hrel
      by_cases hlt:j<nc
      ·have aA:(j:Int)<(nc:Int):=by omega
       obtain⟨b,o,rfl,hbl,ds,hds⟩:=dC.out.resolve_left (by omega)
       have hW:Hid (Below w.heap.size w wr):=Bw3.out.trans (hbw.out.mono Bw3.out.size)
       obtain⟨hr,he,hc⟩:=hds j hlt
       have hr:=zad hr hW.out hbl
       have x0:wr.cell? ⟨b,o+j*8,none⟩=some (.int .i64 (ds j).k):=by simpa using hr 0 _ rfl
       have x1:wr.cell? ⟨b,o+j*8+1,none⟩=some (.int .i64 (ds j).f):=by simpa using hr 1 _ rfl
       have x2:wr.cell? ⟨b,o+j*8+2,none⟩=some (.bool (ds j).neg):=by simpa using hr 2 _ rfl
       have x3:wr.cell? ⟨b,o+j*8+3,none⟩=some (.slice (ds j).aq (ds j).an (ds j).ac):=by simpa using hr 3 _ rfl
       have x4:wr.cell? ⟨b,o+j*8+4,none⟩=some (.slice (ds j).cq (ds j).cn (ds j).cc):=by simpa using hr 4 _ rfl
       have x5:wr.cell? ⟨b,o+j*8+5,none⟩=some (.string (ds j).m):=by simpa using hr 5 _ rfl
       have x6:wr.cell? ⟨b,o+j*8+6,none⟩=some (.slice (ds j).sq (ds j).sn (ds j).sc):=by simpa using hr 6 _ rfl
       have x7:wr.cell? ⟨b,o+j*8+7,none⟩=some (.bool (ks j).st):=by simpa using hr 7 _ rfl
       have p8':=(hbw.out.cell (p:=⟨w.heap.size,8,none⟩) (by exact Lw3)).trans p8
       have hbB:Below wr.heap.size wr (wr.alloc (.cells #[.int .i64 (ds j).k,.int .i64 (ds j).f,.bool (ds j).neg,.slice (ds j).aq (ds j).an (ds j).ac,.slice (ds j).cq (ds j).cn (ds j).cc,.string (ds j).m,.slice (ds j).sq (ds j).sn (ds j).sc,.bool (ks j).st] 50)):=zaa wr _
       have hWB:=zac (hW.out.trans (hbB.mono hW.out.size))
       have hlB:wr.heap.size<(wr.alloc (.cells #[.int .i64 (ds j).k,.int .i64 (ds j).f,.bool (ds j).neg,.slice (ds j).aq (ds j).an (ds j).ac,.slice (ds j).cq (ds j).cn (ds j).cc,.string (ds j).m,.slice (ds j).sq (ds j).sn (ds j).sc,.bool (ks j).st] 50)).heap.size:=by simp
       have he1:=he _ hWB.out
       have hc':=zac hc
       obtain⟨E,hE⟩:∃E,EK j=E:=⟨_,rfl⟩
       have hE:Hid (EK j=E):=hE
       rw[hE.out] at he1
       have lwr:w.heap.size<wr.heap.size:=Nat.lt_of_lt_of_le Lw3 hbw.out.size
       have q8:=(hbB.cell (p:=⟨w.heap.size,8,none⟩) (by exact lwr)).trans p8'
       clear hc he hr hds p8'
       simp only[Nd.val] at he1
       cases E with
       | false=>
        go_wp2_with (go_at_call 26;with_reducible refine he1.mono ?_;rintro e w4 ⟨rfl,hb4⟩)
        go_ret
        exact⟨by rw[zcw hlt (by rw[hE.out];rfl)];simp,hWB.out.trans (hb4.mono hWB.out.size)⟩
       | true=>
        obtain⟨V,hV⟩:∃V,CK j=V:=⟨_,rfl⟩
        have hV:Hid (CK j=V):=hV
        cases V with
        | false=>
         go_wp2_with (first
          | (go_at_call 26;with_reducible refine he1.mono ?_;rintro e w4 ⟨rfl,hb4⟩
             have B4:Hid (Below w.heap.size w w4):=hWB.out.trans (hb4.mono hWB.out.size)
             have hc1:=hc'.out (by first | exact hE.out | simp[hE.out]) w4 B4.out
             rw[hV.out] at hc1
             simp only[Nd.val] at hc1
             have r8:=(hb4.cell (p:=⟨w.heap.size,8,none⟩) (by show w.heap.size<_;exact Nat.lt_trans lwr hlB)).trans q8
             have z0:=(hb4.cell (p:=⟨wr.heap.size,0,none⟩) (by exact hlB)).trans (by simp:_=some (.int .i64 (ds j).k))
             have z1:=(hb4.cell (p:=⟨wr.heap.size,1,none⟩) (by exact hlB)).trans (by simp:_=some (.int .i64 (ds j).f))
             have z2:=(hb4.cell (p:=⟨wr.heap.size,2,none⟩) (by exact hlB)).trans (by simp:_=some (.bool (ds j).neg))
             have z3:=(hb4.cell (p:=⟨wr.heap.size,3,none⟩) (by exact hlB)).trans (by simp:_=some (.slice (ds j).aq (ds j).an (ds j).ac))
             have z4:=(hb4.cell (p:=⟨wr.heap.size,4,none⟩) (by exact hlB)).trans (by simp:_=some (.slice (ds j).cq (ds j).cn (ds j).cc))
             have z5:=(hb4.cell (p:=⟨wr.heap.size,5,none⟩) (by exact hlB)).trans (by simp:_=some (.string (ds j).m))
             have z6:=(hb4.cell (p:=⟨wr.heap.size,6,none⟩) (by exact hlB)).trans (by simp:_=some (.slice (ds j).sq (ds j).sn (ds j).sc))
             have z7:=(hb4.cell (p:=⟨wr.heap.size,7,none⟩) (by exact hlB)).trans (by simp:_=some (.bool (ks j).st))
             clear x0 x1 x2 x3 x4 x5 x6 x7)
          | (go_at_call 27;with_reducible refine hc1.mono ?_;rintro e w5 ⟨rfl,hb5⟩))
         go_ret
         exact⟨by rw[zcw hlt (by rw[hE.out,hV.out];rfl)];simp,B4.out.trans (hb5.mono B4.out.size)⟩
        | true=>
         go_wp2_with (first
          | (go_at_call 26;with_reducible refine he1.mono ?_;rintro e w4 ⟨rfl,hb4⟩
             have B4:Hid (Below w.heap.size w w4):=hWB.out.trans (hb4.mono hWB.out.size)
             have hc1:=hc'.out (by first | exact hE.out | simp[hE.out]) w4 B4.out
             rw[hV.out] at hc1
             simp only[Nd.val] at hc1
             have r8:=(hb4.cell (p:=⟨w.heap.size,8,none⟩) (by show w.heap.size<_;exact Nat.lt_trans lwr hlB)).trans q8
             have z0:=(hb4.cell (p:=⟨wr.heap.size,0,none⟩) (by exact hlB)).trans (by simp:_=some (.int .i64 (ds j).k))
             have z1:=(hb4.cell (p:=⟨wr.heap.size,1,none⟩) (by exact hlB)).trans (by simp:_=some (.int .i64 (ds j).f))
             have z2:=(hb4.cell (p:=⟨wr.heap.size,2,none⟩) (by exact hlB)).trans (by simp:_=some (.bool (ds j).neg))
             have z3:=(hb4.cell (p:=⟨wr.heap.size,3,none⟩) (by exact hlB)).trans (by simp:_=some (.slice (ds j).aq (ds j).an (ds j).ac))
             have z4:=(hb4.cell (p:=⟨wr.heap.size,4,none⟩) (by exact hlB)).trans (by simp:_=some (.slice (ds j).cq (ds j).cn (ds j).cc))
             have z5:=(hb4.cell (p:=⟨wr.heap.size,5,none⟩) (by exact hlB)).trans (by simp:_=some (.string (ds j).m))
             have z6:=(hb4.cell (p:=⟨wr.heap.size,6,none⟩) (by exact hlB)).trans (by simp:_=some (.slice (ds j).sq (ds j).sn (ds j).sc))
             have z7:=(hb4.cell (p:=⟨wr.heap.size,7,none⟩) (by exact hlB)).trans (by simp:_=some (.bool (ks j).st))
             clear x0 x1 x2 x3 x4 x5 x6 x7)
          | (go_at_call 27;with_reducible refine hc1.mono ?_;rintro e w5 ⟨rfl,hb5⟩))
         go_roundw
         case rel=>
          refine⟨j+1,by omega,by go_num,fun i hi=>?_,hbw.out.trans ((hbB.trans ((hb4.trans (hb5.mono hb4.size)).mono hbB.size)).mono hbw.out.size)⟩
          rcases Nat.lt_or_ge i j with h | h
          ·exact aE.out i h
          ·obtain rfl:i=j:=by omega
           rw[hE.out,hV.out]
           rfl
         case measure=>simp[intOf];omega
      ·obtain rfl:j=nc:=by omega
       go_wp2_with fail
       go_ret
       exact⟨by rw[zdi aE.out];rfl,Bw3.out.trans (hbw.out.mono Bw3.out.size)⟩
  ·have fL:(nc:Int) > 12:=by omega
   rw[decide_eq_false h12]
   go_wp2_with (go_at_call 25;with_reducible refine bY.mono ?_;rintro e w1 ⟨rfl,ai⟩
                have Bw1:Hid (Below w.heap.size w w1):=hb0.out.trans (ai.mono hb0.out.size)
                have Lw1:w.heap.size<w1.heap.size:=Nat.lt_of_lt_of_le hl0 ai.size
                have a0:=(ai.cell (p:=⟨w.heap.size,0,none⟩) (by exact hl0)).trans y0
                have a1:=(ai.cell (p:=⟨w.heap.size,1,none⟩) (by exact hl0)).trans y1
                have a2:=(ai.cell (p:=⟨w.heap.size,2,none⟩) (by exact hl0)).trans y2
                have a3:=(ai.cell (p:=⟨w.heap.size,3,none⟩) (by exact hl0)).trans y3
                have a4:=(ai.cell (p:=⟨w.heap.size,4,none⟩) (by exact hl0)).trans y4
                have a5:=(ai.cell (p:=⟨w.heap.size,5,none⟩) (by exact hl0)).trans y5
                have a6:=(ai.cell (p:=⟨w.heap.size,6,none⟩) (by exact hl0)).trans y6
                have a7:=(ai.cell (p:=⟨w.heap.size,7,none⟩) (by exact hl0)).trans y7
                have a8:=(ai.cell (p:=⟨w.heap.size,8,none⟩) (by exact hl0)).trans y8
                have a9:=(ai.cell (p:=⟨w.heap.size,9,none⟩) (by exact hl0)).trans y9
                clear ai y0 y1 y2 y3 y4 y5 y6 y7 y8 y9)
   go_ret
   exact⟨by simp,Bw1.out⟩
end Go.Proofs.YtaonejnicgbifaaGreatDoor
