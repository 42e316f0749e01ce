import Derived.Test.YtnnhofmknilopaaGreatDoorPk30
namespace Go.Proofs.YtnnhofmknilopaaGreatDoor
open Go Go.RowKit
set_option maxRecDepth 100000
set_option maxHeartbeats 16000000
theorem box4 {w:World} {N:Nat} {d:Sd} (c:w.heap[N]?=some (.cells (sV d) 32 (0,0))):
  w.cell? ⟨N,0,none⟩=some (.int .i64 d.s.ru)/\w.cell? ⟨N,1,none⟩=some (.string d.s.nm)/\w.cell? ⟨N,2,none⟩=some (.string d.s.ot)/\w.cell? ⟨N,17,none⟩=some (.string d.s.en):=by
 simp[World.cell?,c]
theorem zak {w p q:World} {d:Sd} (hb:Below p.heap.size p q) (b:Hid (Below w.heap.size w p)) (c:Hid (p.heap[w.heap.size]?=some (.cells (sV d) 32 (0,0)))):
  Hid (Below w.heap.size w q)/\Hid (q.heap[w.heap.size]?=some (.cells (sV d) 32 (0,0)))/\q.cell? ⟨w.heap.size,0,none⟩=some (.int .i64 d.s.ru)/\q.cell? ⟨w.heap.size,1,none⟩=some (.string d.s.nm)/\q.cell? ⟨w.heap.size,2,none⟩=some (.string d.s.ot)/\q.cell? ⟨w.heap.size,17,none⟩=some (.string d.s.en):=by
 have c':=(hb.block _ (Array.getElem?_eq_some_iff.1 c.out).1).trans c.out
 exact⟨b.out.trans (hb.mono b.out.size),c',box4 c'⟩
theorem zkt {w:World} {d:Sd} (h4:d.s.pr4=false):
  Calls Tryz.prog 33 #[.agg (sV d)] w (Rt w (.bool false)):=by
 have b0:=zab (zaa w (.cells (sV d) 32))
 have hk:d.s.kk<0\/d.s.nn<0\/d.s.pr<0\/d.s.ve<0:=by
  unfold Sc.pr4 at h4
  simp at h4
  by_cases k0:d.s.kk<0
  ·exact .inl k0
  by_cases k1:d.s.nn<0
  ·exact .inr (.inl k1)
  by_cases k2:d.s.pr<0
  ·exact .inr (.inr (.inl k2))
  ·exact .inr (.inr (.inr (h4 (by omega) (by omega) (by omega))))
 by_cases k0:d.s.kk<0
 ·clear hk h4
  have g0:decide (d.s.kk<0)=true:=decide_eq_true k0
  go_enter Tryz.func33,Tryz.ntmps33
  go_wp2_with fail
  go_ret
  exact⟨rfl,b0.out⟩
 by_cases k1:d.s.nn<0
 ·clear hk h4
  have g0:decide (d.s.kk<0)=false:=decide_eq_false k0
  have g1:decide (d.s.nn<0)=true:=decide_eq_true k1
  go_enter Tryz.func33,Tryz.ntmps33
  go_wp2_with fail
  go_ret
  exact⟨rfl,b0.out⟩
 by_cases k2:d.s.pr<0
 ·clear hk h4
  have g0:decide (d.s.kk<0)=false:=decide_eq_false k0
  have g1:decide (d.s.nn<0)=false:=decide_eq_false k1
  have g2:decide (d.s.pr<0)=true:=decide_eq_true k2
  go_enter Tryz.func33,Tryz.ntmps33
  go_wp2_with fail
  go_ret
  exact⟨rfl,b0.out⟩
 by_cases k3:d.s.ve<0
 ·clear hk h4
  have g0:decide (d.s.kk<0)=false:=decide_eq_false k0
  have g1:decide (d.s.nn<0)=false:=decide_eq_false k1
  have g2:decide (d.s.pr<0)=false:=decide_eq_false k2
  have g3:decide (d.s.ve<0)=true:=decide_eq_true k3
  go_enter Tryz.func33,Tryz.ntmps33
  go_wp2_with fail
  go_ret
  exact⟨rfl,b0.out⟩
 ·omega
theorem ziz {w:World} {d:Sd} {U0 U1 U2 N0 N1 N2 A1 A2:Bool} {ps:Nat->Pt} {bs:Nat->Bd} (h4:d.s.pr4=true)
  (hu0:Hid (∀z,Calls Tryz.prog 54 #[.int .i64 d.s.ru,.int .u8 110] z (Rt z (.bool U0))))
  (hu1:Hid (∀z,Calls Tryz.prog 54 #[.int .i64 d.s.ru,.int .u8 111] z (Rt z (.bool U1))))
  (hu2:Hid (∀z,Calls Tryz.prog 54 #[.int .i64 d.s.ru,.int .u8 121] z (Rt z (.bool U2))))
  (hn0:Hid (∀z,Calls Tryz.prog 55 #[.string d.s.nm] z (Rt z (.bool N0))))
  (hn1:Hid (∀z,Calls Tryz.prog 55 #[.string d.s.ot] z (Rt z (.bool N1))))
  (hn2:Hid (∀z,Calls Tryz.prog 55 #[.string d.s.en] z (Rt z (.bool N2))))
  (hL0:Hid (PtsOk w d.poq d.pon ps)) (hL1:Hid (BdsOk w d.arq d.arn bs)) (hn6:d.pon<=6) (hb6:d.arn<=6)
  (hA1:Hid ((List.range d.pon).all (fun i=>nameB (ps i).m)=A1)) (hA2:Hid ((List.range d.arn).all (fun i=>nameB (bs i).m)=A2)):
  Calls Tryz.prog 33 #[.agg (sV d)] w (Rt w (.bool (!((U0&&!N0)||(U1&&!N1)||(U2&&!N2))&&(A1&&A2)))):=by
 have hk:¬d.s.kk<0/\¬d.s.nn<0/\¬d.s.pr<0/\¬d.s.ve<0:=by
  unfold Sc.pr4 at h4
  simp at h4
  omega
 obtain⟨k0,k1,k2,k3⟩:=hk
 have g0:decide (d.s.kk<0)=false:=decide_eq_false k0
 have g1:decide (d.s.nn<0)=false:=decide_eq_false k1
 have g2:decide (d.s.pr<0)=false:=decide_eq_false k2
 have g3:decide (d.s.ve<0)=false:=decide_eq_false k3
 have bW:Hid (Below w.heap.size w (w.alloc (.cells (sV d) 32))):=zaa w _
 have cW:Hid ((w.alloc (.cells (sV d) 32)).heap[w.heap.size]?=some (.cells (sV d) 32 (0,0))):=heap_alloc_new w _
 clear h4
 go_enter Tryz.func33,Tryz.ntmps33
 go_upto_region 3 with fail
 generalize (w.alloc (.cells (sV d) 32))=W at*
 clear k0 k1 k2 k3 g0 g1 g2 g3
 obtain⟨xW0,xW1,xW2,xW17⟩:=box4 cW.out
 go_cut [55] from 25 to 55 (fun v55 wx=>v55=.bool ((U0&&!N0)||(U1&&!N1)||(U2&&!N2))/\Hid (Below w.heap.size w wx)/\Hid (wx.heap[w.heap.size]?=some (.cells (sV d) 32 (0,0))))
 case first=>
  cases U0 with
  | false=>
   cases U1 with
   | false=>
    cases U2 with
    | false=>
     go_wp2_with (first
      | (go_at_call 54;with_reducible refine(hu0.out _).mono ?_;rintro e w1 ⟨rfl,aG⟩;obtain⟨bw1,cw1,xw10,xw11,xw12,xw117⟩:=zak aG bW cW)
      | (go_at_call 54;with_reducible refine(hu1.out _).mono ?_;rintro e w2 ⟨rfl,aO⟩;obtain⟨bw2,cw2,xw20,xw21,xw22,xw217⟩:=zak aO bw1 cw1)
      | (go_at_call 54;with_reducible refine(hu2.out _).mono ?_;rintro e w3 ⟨rfl,aP⟩;obtain⟨bw3,cw3,xw30,xw31,xw32,xw317⟩:=zak aP bw2 cw2))
     go_meet
     exact⟨rfl,bw3,cw3⟩
    | true=>
     cases N2 with
     | true=>
      go_wp2_with (first
       | (go_at_call 54;with_reducible refine(hu0.out _).mono ?_;rintro e w1 ⟨rfl,aG⟩;obtain⟨bw1,cw1,xw10,xw11,xw12,xw117⟩:=zak aG bW cW)
       | (go_at_call 54;with_reducible refine(hu1.out _).mono ?_;rintro e w2 ⟨rfl,aO⟩;obtain⟨bw2,cw2,xw20,xw21,xw22,xw217⟩:=zak aO bw1 cw1)
       | (go_at_call 54;with_reducible refine(hu2.out _).mono ?_;rintro e w3 ⟨rfl,aP⟩;obtain⟨bw3,cw3,xw30,xw31,xw32,xw317⟩:=zak aP bw2 cw2)
       | (go_at_call 55;with_reducible refine(hn2.out _).mono ?_;rintro e w4 ⟨rfl,bh⟩;obtain⟨bw4,cw4,xw40,xw41,xw42,xw417⟩:=zak bh bw3 cw3))
      go_meet
      exact⟨rfl,bw4,cw4⟩
     | false=>
      go_wp2_with (first
       | (go_at_call 54;with_reducible refine(hu0.out _).mono ?_;rintro e w1 ⟨rfl,aG⟩;obtain⟨bw1,cw1,xw10,xw11,xw12,xw117⟩:=zak aG bW cW)
       | (go_at_call 54;with_reducible refine(hu1.out _).mono ?_;rintro e w2 ⟨rfl,aO⟩;obtain⟨bw2,cw2,xw20,xw21,xw22,xw217⟩:=zak aO bw1 cw1)
       | (go_at_call 54;with_reducible refine(hu2.out _).mono ?_;rintro e w3 ⟨rfl,aP⟩;obtain⟨bw3,cw3,xw30,xw31,xw32,xw317⟩:=zak aP bw2 cw2)
       | (go_at_call 55;with_reducible refine(hn2.out _).mono ?_;rintro e w4 ⟨rfl,bh⟩;obtain⟨bw4,cw4,xw40,xw41,xw42,xw417⟩:=zak bh bw3 cw3))
      go_meet
      exact⟨by simp,bw4,cw4⟩
   | true=>
    cases N1 with
    | true=>
     cases U2 with
     | false=>
      go_wp2_with (first
       | (go_at_call 54;with_reducible refine(hu0.out _).mono ?_;rintro e w1 ⟨rfl,aG⟩;obtain⟨bw1,cw1,xw10,xw11,xw12,xw117⟩:=zak aG bW cW)
       | (go_at_call 54;with_reducible refine(hu1.out _).mono ?_;rintro e w2 ⟨rfl,aO⟩;obtain⟨bw2,cw2,xw20,xw21,xw22,xw217⟩:=zak aO bw1 cw1)
       | (go_at_call 55;with_reducible refine(hn1.out _).mono ?_;rintro e w3 ⟨rfl,aP⟩;obtain⟨bw3,cw3,xw30,xw31,xw32,xw317⟩:=zak aP bw2 cw2)
       | (go_at_call 54;with_reducible refine(hu2.out _).mono ?_;rintro e w4 ⟨rfl,bh⟩;obtain⟨bw4,cw4,xw40,xw41,xw42,xw417⟩:=zak bh bw3 cw3))
      go_meet
      exact⟨rfl,bw4,cw4⟩
     | true=>
      cases N2 with
      | true=>
       go_wp2_with (first
        | (go_at_call 54;with_reducible refine(hu0.out _).mono ?_;rintro e w1 ⟨rfl,aG⟩;obtain⟨bw1,cw1,xw10,xw11,xw12,xw117⟩:=zak aG bW cW)
        | (go_at_call 54;with_reducible refine(hu1.out _).mono ?_;rintro e w2 ⟨rfl,aO⟩;obtain⟨bw2,cw2,xw20,xw21,xw22,xw217⟩:=zak aO bw1 cw1)
        | (go_at_call 55;with_reducible refine(hn1.out _).mono ?_;rintro e w3 ⟨rfl,aP⟩;obtain⟨bw3,cw3,xw30,xw31,xw32,xw317⟩:=zak aP bw2 cw2)
        | (go_at_call 54;with_reducible refine(hu2.out _).mono ?_;rintro e w4 ⟨rfl,bh⟩;obtain⟨bw4,cw4,xw40,xw41,xw42,xw417⟩:=zak bh bw3 cw3)
        | (go_at_call 55;with_reducible refine(hn2.out _).mono ?_;rintro e w5 ⟨rfl,bP⟩;obtain⟨bw5,cw5,xw50,xw51,xw52,xw517⟩:=zak bP bw4 cw4))
       go_meet
       exact⟨rfl,bw5,cw5⟩
      | false=>
       go_wp2_with (first
        | (go_at_call 54;with_reducible refine(hu0.out _).mono ?_;rintro e w1 ⟨rfl,aG⟩;obtain⟨bw1,cw1,xw10,xw11,xw12,xw117⟩:=zak aG bW cW)
        | (go_at_call 54;with_reducible refine(hu1.out _).mono ?_;rintro e w2 ⟨rfl,aO⟩;obtain⟨bw2,cw2,xw20,xw21,xw22,xw217⟩:=zak aO bw1 cw1)
        | (go_at_call 55;with_reducible refine(hn1.out _).mono ?_;rintro e w3 ⟨rfl,aP⟩;obtain⟨bw3,cw3,xw30,xw31,xw32,xw317⟩:=zak aP bw2 cw2)
        | (go_at_call 54;with_reducible refine(hu2.out _).mono ?_;rintro e w4 ⟨rfl,bh⟩;obtain⟨bw4,cw4,xw40,xw41,xw42,xw417⟩:=zak bh bw3 cw3)
        | (go_at_call 55;with_reducible refine(hn2.out _).mono ?_;rintro e w5 ⟨rfl,bP⟩;obtain⟨bw5,cw5,xw50,xw51,xw52,xw517⟩:=zak bP bw4 cw4))
       go_meet
       exact⟨by simp,bw5,cw5⟩
    | false=>
     go_wp2_with (first
      | (go_at_call 54;with_reducible refine(hu0.out _).mono ?_;rintro e w1 ⟨rfl,aG⟩;obtain⟨bw1,cw1,xw10,xw11,xw12,xw117⟩:=zak aG bW cW)
      | (go_at_call 54;with_reducible refine(hu1.out _).mono ?_;rintro e w2 ⟨rfl,aO⟩;obtain⟨bw2,cw2,xw20,xw21,xw22,xw217⟩:=zak aO bw1 cw1)
      | (go_at_call 55;with_reducible refine(hn1.out _).mono ?_;rintro e w3 ⟨rfl,aP⟩;obtain⟨bw3,cw3,xw30,xw31,xw32,xw317⟩:=zak aP bw2 cw2))
     go_meet
     exact⟨by simp,bw3,cw3⟩
  | true=>
   cases N0 with
   | true=>
    cases U1 with
    | false=>
     cases U2 with
     | false=>
      go_wp2_with (first
       | (go_at_call 54;with_reducible refine(hu0.out _).mono ?_;rintro e w1 ⟨rfl,aG⟩;obtain⟨bw1,cw1,xw10,xw11,xw12,xw117⟩:=zak aG bW cW)
       | (go_at_call 55;with_reducible refine(hn0.out _).mono ?_;rintro e w2 ⟨rfl,aO⟩;obtain⟨bw2,cw2,xw20,xw21,xw22,xw217⟩:=zak aO bw1 cw1)
       | (go_at_call 54;with_reducible refine(hu1.out _).mono ?_;rintro e w3 ⟨rfl,aP⟩;obtain⟨bw3,cw3,xw30,xw31,xw32,xw317⟩:=zak aP bw2 cw2)
       | (go_at_call 54;with_reducible refine(hu2.out _).mono ?_;rintro e w4 ⟨rfl,bh⟩;obtain⟨bw4,cw4,xw40,xw41,xw42,xw417⟩:=zak bh bw3 cw3))
      go_meet
      exact⟨rfl,bw4,cw4⟩
     | true=>
      cases N2 with
      | true=>
       go_wp2_with (first
        | (go_at_call 54;with_reducible refine(hu0.out _).mono ?_;rintro e w1 ⟨rfl,aG⟩;obtain⟨bw1,cw1,xw10,xw11,xw12,xw117⟩:=zak aG bW cW)
        | (go_at_call 55;with_reducible refine(hn0.out _).mono ?_;rintro e w2 ⟨rfl,aO⟩;obtain⟨bw2,cw2,xw20,xw21,xw22,xw217⟩:=zak aO bw1 cw1)
        | (go_at_call 54;with_reducible refine(hu1.out _).mono ?_;rintro e w3 ⟨rfl,aP⟩;obtain⟨bw3,cw3,xw30,xw31,xw32,xw317⟩:=zak aP bw2 cw2)
        | (go_at_call 54;with_reducible refine(hu2.out _).mono ?_;rintro e w4 ⟨rfl,bh⟩;obtain⟨bw4,cw4,xw40,xw41,xw42,xw417⟩:=zak bh bw3 cw3)
        | (go_at_call 55;with_reducible refine(hn2.out _).mono ?_;rintro e w5 ⟨rfl,bP⟩;obtain⟨bw5,cw5,xw50,xw51,xw52,xw517⟩:=zak bP bw4 cw4))
       go_meet
       exact⟨rfl,bw5,cw5⟩
      | false=>
       go_wp2_with (first
        | (go_at_call 54;with_reducible refine(hu0.out _).mono ?_;rintro e w1 ⟨rfl,aG⟩;obtain⟨bw1,cw1,xw10,xw11,xw12,xw117⟩:=zak aG bW cW)
        | (go_at_call 55;with_reducible refine(hn0.out _).mono ?_;rintro e w2 ⟨rfl,aO⟩;obtain⟨bw2,cw2,xw20,xw21,xw22,xw217⟩:=zak aO bw1 cw1)
        | (go_at_call 54;with_reducible refine(hu1.out _).mono ?_;rintro e w3 ⟨rfl,aP⟩;obtain⟨bw3,cw3,xw30,xw31,xw32,xw317⟩:=zak aP bw2 cw2)
        | (go_at_call 54;with_reducible refine(hu2.out _).mono ?_;rintro e w4 ⟨rfl,bh⟩;obtain⟨bw4,cw4,xw40,xw41,xw42,xw417⟩:=zak bh bw3 cw3)
        | (go_at_call 55;with_reducible refine(hn2.out _).mono ?_;rintro e w5 ⟨rfl,bP⟩;obtain⟨bw5,cw5,xw50,xw51,xw52,xw517⟩:=zak bP bw4 cw4))
       go_meet
       exact⟨by simp,bw5,cw5⟩
    | true=>
     cases N1 with
     | true=>
      cases U2 with
      | false=>
       go_wp2_with (first
        | (go_at_call 54;with_reducible refine(hu0.out _).mono ?_;rintro e w1 ⟨rfl,aG⟩;obtain⟨bw1,cw1,xw10,xw11,xw12,xw117⟩:=zak aG bW cW)
        | (go_at_call 55;with_reducible refine(hn0.out _).mono ?_;rintro e w2 ⟨rfl,aO⟩;obtain⟨bw2,cw2,xw20,xw21,xw22,xw217⟩:=zak aO bw1 cw1)
        | (go_at_call 54;with_reducible refine(hu1.out _).mono ?_;rintro e w3 ⟨rfl,aP⟩;obtain⟨bw3,cw3,xw30,xw31,xw32,xw317⟩:=zak aP bw2 cw2)
        | (go_at_call 55;with_reducible refine(hn1.out _).mono ?_;rintro e w4 ⟨rfl,bh⟩;obtain⟨bw4,cw4,xw40,xw41,xw42,xw417⟩:=zak bh bw3 cw3)
        | (go_at_call 54;with_reducible refine(hu2.out _).mono ?_;rintro e w5 ⟨rfl,bP⟩;obtain⟨bw5,cw5,xw50,xw51,xw52,xw517⟩:=zak bP bw4 cw4))
       go_meet
       exact⟨rfl,bw5,cw5⟩
      | true=>
       cases N2 with
       | true=>
        go_wp2_with (first
         | (go_at_call 54;with_reducible refine(hu0.out _).mono ?_;rintro e w1 ⟨rfl,aG⟩;obtain⟨bw1,cw1,xw10,xw11,xw12,xw117⟩:=zak aG bW cW)
         | (go_at_call 55;with_reducible refine(hn0.out _).mono ?_;rintro e w2 ⟨rfl,aO⟩;obtain⟨bw2,cw2,xw20,xw21,xw22,xw217⟩:=zak aO bw1 cw1)
         | (go_at_call 54;with_reducible refine(hu1.out _).mono ?_;rintro e w3 ⟨rfl,aP⟩;obtain⟨bw3,cw3,xw30,xw31,xw32,xw317⟩:=zak aP bw2 cw2)
         | (go_at_call 55;with_reducible refine(hn1.out _).mono ?_;rintro e w4 ⟨rfl,bh⟩;obtain⟨bw4,cw4,xw40,xw41,xw42,xw417⟩:=zak bh bw3 cw3)
         | (go_at_call 54;with_reducible refine(hu2.out _).mono ?_;rintro e w5 ⟨rfl,bP⟩;obtain⟨bw5,cw5,xw50,xw51,xw52,xw517⟩:=zak bP bw4 cw4)
         | (go_at_call 55;with_reducible refine(hn2.out _).mono ?_;rintro e w6 ⟨rfl,gm⟩;obtain⟨bw6,cw6,xw60,xw61,xw62,xw617⟩:=zak gm bw5 cw5))
        go_meet
        exact⟨rfl,bw6,cw6⟩
       | false=>
        go_wp2_with (first
         | (go_at_call 54;with_reducible refine(hu0.out _).mono ?_;rintro e w1 ⟨rfl,aG⟩;obtain⟨bw1,cw1,xw10,xw11,xw12,xw117⟩:=zak aG bW cW)
         | (go_at_call 55;with_reducible refine(hn0.out _).mono ?_;rintro e w2 ⟨rfl,aO⟩;obtain⟨bw2,cw2,xw20,xw21,xw22,xw217⟩:=zak aO bw1 cw1)
         | (go_at_call 54;with_reducible refine(hu1.out _).mono ?_;rintro e w3 ⟨rfl,aP⟩;obtain⟨bw3,cw3,xw30,xw31,xw32,xw317⟩:=zak aP bw2 cw2)
         | (go_at_call 55;with_reducible refine(hn1.out _).mono ?_;rintro e w4 ⟨rfl,bh⟩;obtain⟨bw4,cw4,xw40,xw41,xw42,xw417⟩:=zak bh bw3 cw3)
         | (go_at_call 54;with_reducible refine(hu2.out _).mono ?_;rintro e w5 ⟨rfl,bP⟩;obtain⟨bw5,cw5,xw50,xw51,xw52,xw517⟩:=zak bP bw4 cw4)
         | (go_at_call 55;with_reducible refine(hn2.out _).mono ?_;rintro e w6 ⟨rfl,gm⟩;obtain⟨bw6,cw6,xw60,xw61,xw62,xw617⟩:=zak gm bw5 cw5))
        go_meet
        exact⟨by simp,bw6,cw6⟩
     | false=>
      go_wp2_with (first
       | (go_at_call 54;with_reducible refine(hu0.out _).mono ?_;rintro e w1 ⟨rfl,aG⟩;obtain⟨bw1,cw1,xw10,xw11,xw12,xw117⟩:=zak aG bW cW)
       | (go_at_call 55;with_reducible refine(hn0.out _).mono ?_;rintro e w2 ⟨rfl,aO⟩;obtain⟨bw2,cw2,xw20,xw21,xw22,xw217⟩:=zak aO bw1 cw1)
       | (go_at_call 54;with_reducible refine(hu1.out _).mono ?_;rintro e w3 ⟨rfl,aP⟩;obtain⟨bw3,cw3,xw30,xw31,xw32,xw317⟩:=zak aP bw2 cw2)
       | (go_at_call 55;with_reducible refine(hn1.out _).mono ?_;rintro e w4 ⟨rfl,bh⟩;obtain⟨bw4,cw4,xw40,xw41,xw42,xw417⟩:=zak bh bw3 cw3))
      go_meet
      exact⟨by simp,bw4,cw4⟩
   | false=>
    go_wp2_with (first
     | (go_at_call 54;with_reducible refine(hu0.out _).mono ?_;rintro e w1 ⟨rfl,aG⟩;obtain⟨bw1,cw1,xw10,xw11,xw12,xw117⟩:=zak aG bW cW)
     | (go_at_call 55;with_reducible refine(hn0.out _).mono ?_;rintro e w2 ⟨rfl,aO⟩;obtain⟨bw2,cw2,xw20,xw21,xw22,xw217⟩:=zak aO bw1 cw1))
    go_meet
    exact⟨by simp,bw2,cw2⟩
 case rest=>
  obtain⟨rfl,bwc,cwc⟩:=hcut
  clear xW0 xW1 xW2 xW17 hu0 hu1 hu2 hn0 hn1 hn2
  generalize hVV:(U0&&!N0||U1&&!N1||U2&&!N2)=V
  have hVe:=zab hVV
  clear hVV
  have x16:wc.cell? ⟨w.heap.size,16,none⟩=some (.slice d.poq d.pon d.poc):=by simp[World.cell?,cwc.out]
  cases V with
  | true=>
   go_wp2_with fail
   go_ret
   exact⟨by rw[hVe.out];rfl,bwc.out⟩
  | false=>
   go_wp2_with fail
   go_loopw [59] (fun i wr=>∃c:Nat,c<=d.pon/\i=.int .i64 c/\Hid (∀j,j<c->nameB (ps j).m=true)/\Below wc.heap.size wc wr) (fun i _=>d.pon - (intOf i).toNat)
   case atStart=>exact⟨0,Nat.zero_le _,rfl,fun j hj=>absurd hj (Nat.not_lt_zero _),Below.refl _ _⟩
   case round=>
    obtain⟨c,hc,rfl,aB,hbw⟩:=hrel
    have hws:=hbw.size
    by_cases hlt:c<d.pon
    ·have bR:(c:Int)<(d.pon:Int):=by omega
     obtain⟨b,o,hq,hb,ds,hd⟩:=hL0.out.2.resolve_left (by omega)
     have Bw:=bwc.out.trans (hbw.mono bwc.out.size)
     obtain⟨hva,hpt⟩:=hd c hlt
     obtain⟨x0,x1,x2,x3⟩:=hva.below Bw hb
     have hm:=hpt.1
     clear hd hva hpt
     generalize ds c=dd at*
     obtain⟨dm,g,aq,an,ac,cq,cn,cc⟩:=dd
     simp only at hm x0 x1 x2 x3
     rw[hq] at*
     have b1:=Bw.trans ((zaa wr (.cells #[.string dm,.bool g,.slice aq an ac,.slice cq cn cc] 68)).mono Bw.size)
     have b1':Hid (Below wc.heap.size wc (wr.alloc (.cells #[.string dm,.bool g,.slice aq an ac,.slice cq cn cc] 68))):=hbw.trans ((zaa wr (.cells #[.string dm,.bool g,.slice aq an ac,.slice cq cn cc] 68)).mono hws)
     have hcl:=zcw dm (wr.alloc (.cells #[.string dm,.bool g,.slice aq an ac,.slice cq cn cc] 68))
     rw[hm] at hcl
     obtain⟨M,hM⟩:∃M,Hid (nameB (ps c).m=M):=⟨_,rfl⟩
     rw[hM.out] at hcl
     have hm':=zab hm
     rw[<-hm] at hcl
     have b1h:=zab b1
     clear hm b1 Bw
     cases M with
     | true=>
      go_wp2_with (go_at_call 55;refine hcl.mono ?_;rintro e w1 ⟨rfl,hb1⟩)
      go_roundw
      case rel=>
       refine⟨c+1,by omega,by go_num,fun j hj=>?_,b1'.out.trans (hb1.mono b1'.out.size)⟩
       rcases Nat.lt_or_ge j c with h1 | h1
       ·exact aB.out j h1
       ·obtain rfl:j=c:=by omega
        exact hM.out
      case measure=>simp[intOf];omega
     | false=>
      have hfl:(List.range d.pon).all (fun i=>nameB (ps i).m)=false:=zb3 hlt (f:=fun i=>nameB (ps i).m) hM.out
      have gn:=zab hfl
      clear hfl
      go_wp2_with (go_at_call 55;refine hcl.mono ?_;rintro e w1 ⟨rfl,hb1⟩)
      go_ret
      exact⟨by rw[hVe.out,<-hA1.out,gn.out];simp,b1h.out.trans (hb1.mono b1h.out.size)⟩
    ·obtain rfl:c=d.pon:=by omega
     have hal:=zab (za9 aB.out)
     have bwr:Hid (Below w.heap.size w wr):=bwc.out.trans (hbw.mono bwc.out.size)
     have cwr:=(hbw.block _ (Array.getElem?_eq_some_iff.1 cwc.out).1).trans cwc.out
     have x19:wr.cell? ⟨w.heap.size,19,none⟩=some (.slice d.arq d.arn d.arc):=by simp[World.cell?,cwr]
     have jG:=hal
     clear hal cwr aB hbw hlt
     generalize wr=w9 at*
     go_wp2_with fail
     go_loopw [71] (fun i wr=>∃c:Nat,c<=d.arn/\i=.int .i64 c/\Hid (∀j,j<c->nameB (bs j).m=true)/\Below w9.heap.size w9 wr) (fun i _=>d.arn - (intOf i).toNat)
     case atStart=>exact⟨0,Nat.zero_le _,rfl,fun j hj=>absurd hj (Nat.not_lt_zero _),Below.refl _ _⟩
     case round=>
      obtain⟨c,hc,rfl,aB,hbw⟩:=hrel
      have hws:=hbw.size
      by_cases hlt:c<d.arn
      ·have bR:(c:Int)<(d.arn:Int):=by omega
       obtain⟨b,o,hq,hb,ds,hd⟩:=hL1.out.2.resolve_left (by omega)
       have Bw:=bwr.out.trans (hbw.mono bwr.out.size)
       obtain⟨hva,hpt⟩:=hd c hlt
       obtain⟨x0,x1,x2,x3,x4,x5,x6,x7⟩:=hva.below Bw hb
       have hm:=hpt.1
       clear hd hva hpt
       generalize ds c=dd at*
       obtain⟨dm,k,f,ng,aq,an,ac,cq,cn,cc,em,sq,sn,sc⟩:=dd
       simp only at hm x0 x1 x2 x3 x4 x5 x6 x7
       rw[hq] at*
       have b1:=Bw.trans ((zaa wr (.cells #[.string dm,.int .i64 k,.int .i64 f,.bool ng,.slice aq an ac,.slice cq cn cc,.string em,.slice sq sn sc] 71)).mono Bw.size)
       have b1':Hid (Below w9.heap.size w9 (wr.alloc (.cells #[.string dm,.int .i64 k,.int .i64 f,.bool ng,.slice aq an ac,.slice cq cn cc,.string em,.slice sq sn sc] 71))):=hbw.trans ((zaa wr (.cells #[.string dm,.int .i64 k,.int .i64 f,.bool ng,.slice aq an ac,.slice cq cn cc,.string em,.slice sq sn sc] 71)).mono hws)
       have hcl:=zcw dm (wr.alloc (.cells #[.string dm,.int .i64 k,.int .i64 f,.bool ng,.slice aq an ac,.slice cq cn cc,.string em,.slice sq sn sc] 71))
       rw[hm] at hcl
       obtain⟨M,hM⟩:∃M,Hid (nameB (bs c).m=M):=⟨_,rfl⟩
       rw[hM.out] at hcl
       have hm':=zab hm
       rw[<-hm] at hcl
       have b1h:=zab b1
       clear hm b1 Bw
       cases M with
       | true=>
        go_wp2_with (go_at_call 55;refine hcl.mono ?_;rintro e w1 ⟨rfl,hb1⟩)
        go_roundw
        case rel=>
         refine⟨c+1,by omega,by go_num,fun j hj=>?_,b1'.out.trans (hb1.mono b1'.out.size)⟩
         rcases Nat.lt_or_ge j c with h1 | h1
         ·exact aB.out j h1
         ·obtain rfl:j=c:=by omega
          exact hM.out
        case measure=>simp[intOf];omega
       | false=>
        have hfl:(List.range d.arn).all (fun i=>nameB (bs i).m)=false:=zb3 hlt (f:=fun i=>nameB (bs i).m) hM.out
        have gn:=zab hfl
        clear hfl
        go_wp2_with (go_at_call 55;refine hcl.mono ?_;rintro e w1 ⟨rfl,hb1⟩)
        go_ret
        exact⟨by rw[hVe.out,<-hA2.out,gn.out];simp,b1h.out.trans (hb1.mono b1h.out.size)⟩
      ·obtain rfl:c=d.arn:=by omega
       have hal:=zab (za9 aB.out)
       go_wp2_with fail
       go_ret
       have B9:=bwr.out.trans (hbw.mono bwr.out.size)
       exact⟨by rw[hVe.out,<-hA1.out,<-hA2.out,jG.out,hal.out];rfl,B9⟩
def catO (F:Nat->Option (List UInt8)):Nat->Option (List UInt8)
 | 0=>some []
 | c+1=>(catO F c).bind fun a=>(F c).map fun t=>a++t
def catT (G:Nat->List UInt8):Nat->List UInt8
 | 0=>[]
 | c+1=>catT G c++G c
theorem zfm {F:Nat->Option (List UInt8)} {i c:Nat} (hi:i<c) (h:F i=none):catO F c=none:=by
 induction c with
 | zero=>omega
 | succ c ih=>
  unfold catO
  rcases Nat.lt_or_ge i c with h1 | h1
  ·rw[ih h1];rfl
  ·have:i=c:=by omega
   subst this
   rw[h]
   cases catO F i<;>rfl
theorem zdx {F:Nat->Option (List UInt8)} {G:Nat->List UInt8}:∀{n:Nat},(∀i,i<n->F i=some (G i))->catO F n=some (catT G n)
 | 0,_=>rfl
 | n+1,h=>by
  unfold catO catT
  rw[zdx (n:=n) fun i hi=>h i (by omega),h n (by omega)]
  rfl
theorem catO_all {F:Nat->Option (List UInt8)} {n:Nat} {t:List UInt8} (h:catO F n=some t):(∀i,i<n->F i=some ((F i).getD []))/\t=catT (fun i=>(F i).getD []) n:=by
 have hs:∀i,i<n->F i=some ((F i).getD []):=fun i hi=>by
  cases hb:F i with
  | some v=>rfl
  | none=>rw[zfm hi hb] at h;cases h
 refine⟨hs,?_⟩
 rw[zdx hs] at h
 cases h
 rfl
theorem zet {G:Nat->List UInt8} {m:Nat->Nat}:∀{n:Nat},(∀i,i<n->(G i).length<=m i)->(catT G n).length<=sumN m n
 | 0,_=>by simp[catT]
 | n+1,h=>by
  have h1:=zet (n:=n) fun i hi=>h i (by omega)
  have h2:=h n (by omega)
  unfold catT sumN
  simp only[List.length_append]
  omega
theorem zeu {m:Nat->Nat}:∀{c n:Nat},c<=n->sumN m c<=sumN m n
 | c,0,h=>by have:c=0:=by omega
             subst this;exact Nat.le_refl _
 | c,n+1,h=>by
  rcases Nat.lt_or_ge c (n+1) with h1 | h1
  ·have:=zeu (m:=m) (show c<=n by omega)
   show sumN m c<=sumN m n+m n
   omega
  ·have:c=n+1:=by omega
   subst this;exact Nat.le_refl _
theorem zbt (m:Nat->Nat) (c:Nat):sumN m (c+1)=sumN m c+m c:=rfl
theorem zm9 {f:Nat->Nat} {i:Nat}:∀{n:Nat},i<n->f i<=maxN f n
 | 0,h=>absurd h (Nat.not_lt_zero _)
 | n+1,h=>by
  show f i<=max (maxN f n) (f n)
  rcases Nat.lt_or_ge i n with h1 | h1
  ·have:=zm9 (f:=f) h1;omega
  ·have:i=n:=by omega
   subst this;omega
def St.size:St->Nat
 | .non=>1
 | .mk _ _ _ _ _ _ _ _ n ki=>1+sumN (fun i=>(ki i).size) n
def St.prs:St->Bool
 | .non=>false
 | .mk s nu de x pn ps bn bs n ki=>(St.mk s nu de x pn ps bn bs n ki).pr&&(List.range n).all fun i=>(ki i).prs
def St.wfT:St->Prop
 | .non=>True
 | .mk s _ _ _ _ _ _ _ n ki=>s.wf/\∀i,i<n->(ki i).wfT
def St.lin:St->Int->Option (List UInt8)
 | .non,_=>none
 | .mk s nu de x pn ps bn bs n ki,dep=>((St.mk s nu de x pn ps bn bs n ki).ln dep).bind fun l=>(catO (fun i=>(ki i).lin (dep+1)) n).map fun k=>l++10::k
structure St.rdy (t:St) (l:Nat):Prop where
 f:t.formed=true
 p:t.prs=true
 w:t.wfT
 d:t.dep l+1<=l
theorem St.rdy.node {s:Sc} {nu de:List Int} {x:Ex} {pn:Nat} {ps:Nat->Pt} {bn:Nat} {bs:Nat->Bd} {n:Nat} {ki:Nat->St} {l:Nat} (h:(St.mk s nu de x pn ps bn bs n ki).rdy l):
  (St.mk s nu de x pn ps bn bs n ki).form=true/\(St.mk s nu de x pn ps bn bs n ki).pr=true/\s.wf:=by
 obtain⟨h1,h2,h3,_⟩:=h
 unfold St.formed at h1
 unfold St.prs at h2
 unfold St.wfT at h3
 simp only[Bool.and_eq_true] at h1 h2
 exact⟨h1.1,h2.1,h3.1⟩
theorem St.rdy.kid {s:Sc} {nu de:List Int} {x:Ex} {pn:Nat} {ps:Nat->Pt} {bn:Nat} {bs:Nat->Bd} {n:Nat} {ki:Nat->St} {l:Nat} (h:(St.mk s nu de x pn ps bn bs n ki).rdy l):
  2<=l/\∀i,i<n->(ki i).rdy (l - 1):=by
 obtain⟨h1,h2,h3,h4⟩:=h
 unfold St.formed at h1
 unfold St.prs at h2
 unfold St.wfT at h3
 unfold St.dep at h4
 simp only[Bool.and_eq_true,List.all_eq_true,List.mem_range] at h1 h2
 by_cases hl:l<=1
 ·rw[if_pos hl] at h4;omega
 rw[if_neg hl] at h4
 refine⟨by omega,fun i hi=>⟨h1.2 i hi,h2.2 i hi,h3.2 i hi,?_⟩⟩
 have:=zm9 (f:=fun i=>(ki i).dep (l - 1)) hi
 omega
theorem zbo {s:Sc} {nu de:List Int} {x:Ex} {pn:Nat} {ps:Nat->Pt} {bn:Nat} {bs:Nat->Bd} {n:Nat} {ki:Nat->St} (h:(St.mk s nu de x pn ps bn bs n ki).form=true):
  ∃r∈kR,s.ru=r.n/\ruleAt s.ru=some r:=by
 rcases zee s.ru with⟨r,hr,e⟩ | hno
 ·exact⟨r,hr,e.symm,by rw[<-e];exact zda hr⟩
 ·rw[show (St.mk s nu de x pn ps bn bs n ki).form=formS s (val nu) (val de) x pn ps bn bs n from rfl,zec (zdb hno)] at h
  cases h
theorem St.lin_len:∀(t:St) (l:Nat) (dep:Int) (T:List UInt8),t.rdy l->0<=dep->dep+l<=1000->t.lin dep=some T->T.length<=130000*t.size:=by
 intro t
 induction t with
 | non=>intro l dep T h _ _ hT;cases hT
 | mk s nu de x pn ps bn bs n ki ih=>
  intro l dep T h h0 h1 hT
  obtain⟨hf,hp,hw⟩:=h.node
  obtain⟨hl,hk⟩:=h.kid
  obtain⟨r,hr,_,hra⟩:=zbo hf
  unfold St.lin at hT
  obtain⟨ll,hll,hT⟩:=Option.bind_eq_some_iff.1 hT
  obtain⟨k,hk1,rfl⟩:=Option.map_eq_some_iff.1 hT
  have hle:=zk1 hr hra (zk0 hra hf hp) hw h0 (by omega) hll
  obtain⟨ha,rfl⟩:=catO_all hk1
  have hc:=zet (G:=fun i=>((ki i).lin (dep+1)).getD []) (m:=fun i=>130000*(ki i).size) (n:=n) fun i hi=>ih i (l - 1) (dep+1) _ (hk i hi) (by omega) (by omega) (ha i hi)
  have hs:∀c,sumN (fun i=>130000*(ki i).size) c=130000*sumN (fun i=>(ki i).size) c:=by
   intro c
   induction c with
   | zero=>rfl
   | succ c ihc=>rw[zbt,zbt,ihc,Nat.mul_add]
  rw[hs] at hc
  show _<=130000*(1+sumN (fun i=>(ki i).size) n)
  simp only[List.length_append,List.length_cons]
  omega
theorem St.size_le:∀(t:St) (a:Nat),t.steps a<=2000->t.formed=true->a+t.size<=t.steps a:=by
 intro t
 induction t with
 | non=>intro a _ h;cases h
 | mk s nu de x pn ps bn bs n ki ih=>
  intro a h hf
  unfold St.formed at hf
  simp only[Bool.and_eq_true,List.all_eq_true,List.mem_range] at hf
  unfold St.steps at h ⊢
  show a+(1+sumN (fun i=>(ki i).size) n)<=_
  have key:∀c,c<=n->cntN (fun i=>(ki i).steps) c (a+1)<=2000->a+1+sumN (fun i=>(ki i).size) c<=cntN (fun i=>(ki i).steps) c (a+1):=by
   intro c
   induction c with
   | zero=>intro _ _;exact Nat.le_refl _
   | succ c ihc=>
    intro hc hle
    have hst:cntN (fun i=>(ki i).steps) c (a+1)<=2000:=by
     rcases Nat.lt_or_ge 2000 (cntN (fun i=>(ki i).steps) c (a+1)) with hg | hg
     ·rw[zcm hg (show c<=c+1 by omega)] at hle;omega
     ·exact hg
    have h1:=ihc (by omega) hst
    rw[zbt]
    unfold cntN at hle ⊢
    rw[if_pos hst] at hle ⊢
    have:=ih c _ hle (hf.2 c (by omega))
    omega
  have:=key n (Nat.le_refl _) h
  omega
end Go.Proofs.YtnnhofmknilopaaGreatDoor
