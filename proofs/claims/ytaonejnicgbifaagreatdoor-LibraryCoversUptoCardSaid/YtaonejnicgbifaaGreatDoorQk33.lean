import Derived.Test.YtaonejnicgbifaaGreatDoorQk32
namespace Go.Proofs.YtaonejnicgbifaaGreatDoor
open Go Go.RowKit
set_option maxRecDepth 100000
set_option maxHeartbeats 16000000
abbrev SKu (w:World) (kc:Int) (fc:Int) (gc:Bool) (ac:Option Addr) (anc:Nat) (acc:Nat) (dc:Option Addr) (dnc:Nat) (dcc:Nat) (nc:ByteArray) (qc:Option Addr) (qnc:Nat) (qcc:Nat) (stc:Bool) (b2:Nat) (o2:Nat) (nbc:Nat) (bcc:Nat) (cxc:Option Addr) (ncc:Nat) (ccc:Nat) (wr:World) (ms:Nat->Si) (i:Nat) (md:Nat->Sv) (j:Nat) (cs:Nat->Si) (cd:Nat->Sv):World->Prop:=fun z=>BlkI z (w.heap.size+1) 34 (mC kc fc gc ac anc acc dc dnc dcc nc qc qnc qcc stc (some ⟨b2,o2,none⟩) nbc bcc cxc ncc ccc)/\BlkI z wr.heap.size 58 (sB (ms i) (md i))/\z.rangeAt b2 (o2+j*9) ((cs j).cells (cd j))
theorem zhu {w:World} {km fm kc fc:Int} {gm gc stm stc:Bool} {am dm qm ac dc qc bxm cxm bxc cxc:Option Addr} {anm acm dnm dcm qnm qcm nbm bcm ncm ccm anc acc dnc dcc qnc qcc nbc bcc ncc ccc:Nat} {nm nc:ByteArray}
  {ms cs:Nat->Si} {md cd:Nat->Sv} {mk:Nat->Co} {me:Nat->Nd} {E:Bool} {O:Nat->Option Nat} {N:Nat->Nat->Bool} {H:Nat->Bool}
  (hE:(CA w 28 #[.agg (mA km fm gm am anm acm dm dnm dcm nm qm qnm qcm),.agg (mA kc fc gc ac anc acc dc dnc dcc nc qc qnc qcc)] (.bool E))) (hI:(∀i,i<nbm->∀z,Below w.heap.size w z->∀B,B<z.heap.size->z.cell? ⟨B,0,none⟩=some (.string (ms i).m)->Calls Tryz.prog 29 #[.slice bxc nbc bcc,.func (.func 30) #[] #[.pointer (some ⟨B,0,none⟩)]] z fun x w'=>x=.returned (.int .i64 (ixV (O i)))/\Below z.heap.size z w')) (hN:(∀i j,i<nbm->O i=some j->CA w 31 #[.agg (sA (cs j) (cd j)),.agg (sA (ms i) (md i))] (.tuple #[.bool (N i j),.int .i64 0]))) (hC:(∀i,i<ncm->∀z,Below w.heap.size w z->∀B,B<z.heap.size->BlkI z B 50 #[.int .i64 (me i).k,.int .i64 (me i).f,.bool (me i).neg,.slice (me i).aq (me i).an (me i).ac,.slice (me i).cq (me i).cn (me i).cc,.string (me i).m,.slice (me i).sq (me i).sn (me i).sc,.bool (mk i).st]->Calls Tryz.prog 32 #[.slice cxc ncc ccc,.func (.func 33) #[] #[.pointer (some ⟨B,0,none⟩)]] z fun x w'=>x=.returned (.bool (H i))/\Below z.heap.size z w')) (hms:(nbm=0\/∃b o,bxm=some ⟨b,o,none⟩/\b<w.heap.size/\∀i,i<nbm->w.rangeAt b (o+i*9) ((ms i).cells (md i)))) (hcs:(nbc=0\/∃b o,bxc=some ⟨b,o,none⟩/\b<w.heap.size/\∀i,i<nbc->w.rangeAt b (o+i*9) ((cs i).cells (cd i)))) (hmc:(ncm=0\/∃b o,cxm=some ⟨b,o,none⟩/\b<w.heap.size/\∀i,i<ncm->w.rangeAt b (o+i*8) ((mk i).cells (me i)))) (hO:(∀i j,O i=some j->j<nbc)) (l1:nbm<=1048576) (_l2:nbc<=1048576) (l3:ncm<=1048576):
  Calls Tryz.prog 11 #[.agg (mC km fm gm am anm acm dm dnm dcm nm qm qnm qcm stm bxm nbm bcm cxm ncm ccm),.agg (mC kc fc gc ac anc acc dc dnc dcc nc qc qnc qcc stc bxc nbc bcc cxc ncc ccc)] w fun e w'=>e=.returned (.bool (E&&((!stc||stm)&&(((List.range nbm).all fun i=>match O i with | some j=>N i j | none=>false)&&(List.range ncm).all H))))/\Below w.heap.size w w':=by
 have hE1:=hE _ (zah w (.cells (mC km fm gm am anm acm dm dnm dcm nm qm qnm qcm stm bxm nbm bcm cxm ncm ccm) 34) (.cells (mC kc fc gc ac anc acc dc dnc dcc nc qc qnc qcc stc bxc nbc bcc cxc ncc ccc) 34))
 have hI':=zac hI
 have hN':=zac hN
 have hC':=zac hC
 have cU:=zac hms
 have dC:=zac hcs
 have eR:=zac hmc
 have hO':Hid (∀i j,O i=some j->j<nbc):=hO
 have hb0:Hid (Below w.heap.size w ((w.alloc (.cells (mC km fm gm am anm acm dm dnm dcm nm qm qnm qcm stm bxm nbm bcm cxm ncm ccm) 34)).alloc (.cells (mC kc fc gc ac anc acc dc dnc dcc nc qc qnc qcc stc bxc nbc bcc cxc ncc ccc) 34))):=zah w _ _
 have l0:w.heap.size+1<((w.alloc (.cells (mC km fm gm am anm acm dm dnm dcm nm qm qnm qcm stm bxm nbm bcm cxm ncm ccm) 34)).alloc (.cells (mC kc fc gc ac anc acc dc dnc dcc nc qc qnc qcc stc bxc nbc bcc cxc ncc ccc) 34)).heap.size:=by simp
 have J0:BlkI ((w.alloc (.cells (mC km fm gm am anm acm dm dnm dcm nm qm qnm qcm stm bxm nbm bcm cxm ncm ccm) 34)).alloc (.cells (mC kc fc gc ac anc acc dc dnc dcc nc qc qnc qcc stc bxc nbc bcc cxc ncc ccc) 34)) w.heap.size 34 (mC km fm gm am anm acm dm dnm dcm nm qm qnm qcm stm bxm nbm bcm cxm ncm ccm):=by
  have h:BlkI (w.alloc (.cells (mC km fm gm am anm acm dm dnm dcm nm qm qnm qcm stm bxm nbm bcm cxm ncm ccm) 34)) w.heap.size 34 (mC km fm gm am anm acm dm dnm dcm nm qm qnm qcm stm bxm nbm bcm cxm ncm ccm):=heap_alloc_new _ _
  exact h.below (zaa _ _)
 have J1:BlkI ((w.alloc (.cells (mC km fm gm am anm acm dm dnm dcm nm qm qnm qcm stm bxm nbm bcm cxm ncm ccm) 34)).alloc (.cells (mC kc fc gc ac anc acc dc dnc dcc nc qc qnc qcc stc bxc nbc bcc cxc ncc ccc) 34)) (w.heap.size+1) 34 (mC kc fc gc ac anc acc dc dnc dcc nc qc qnc qcc stc bxc nbc bcc cxc ncc ccc):=by
  have h:BlkI ((w.alloc (.cells (mC km fm gm am anm acm dm dnm dcm nm qm qnm qcm stm bxm nbm bcm cxm ncm ccm) 34)).alloc (.cells (mC kc fc gc ac anc acc dc dnc dcc nc qc qnc qcc stc bxc nbc bcc cxc ncc ccc) 34)) (w.alloc (.cells (mC km fm gm am anm acm dm dnm dcm nm qm qnm qcm stm bxm nbm bcm cxm ncm ccm) 34)).heap.size 34 (mC kc fc gc ac anc acc dc dnc dcc nc qc qnc qcc stc bxc nbc bcc cxc ncc ccc):=heap_alloc_new _ _
  rwa [show (w.alloc (.cells (mC km fm gm am anm acm dm dnm dcm nm qm qnm qcm stm bxm nbm bcm cxm ncm ccm) 34)).heap.size=w.heap.size+1 by simp] at h
 have J0':=zac J0
 have J1':=zac J1
 obtain⟨Z,hZ⟩:∃Z,Hid ((E&&((!stc||stm)&&(((List.range nbm).all fun i=>match O i with | some j=>N i j | none=>false)&&(List.range ncm).all H)))=Z):=⟨_,rfl⟩
 rw[hZ.out]
 clear hE hI hN hC hms hcs hmc hO J0 J1
 go_enter Tryz.func11,Tryz.ntmps11
 go_upto_region 1 with fail
 go_cut [26] from 12 to 26 (fun v26 wx=>v26=.bool (!E||(stc&&!stm))/\Hid (Below w.heap.size w wx)/\w.heap.size+1<wx.heap.size/\Hid (BlkI wx w.heap.size 34 (mC km fm gm am anm acm dm dnm dcm nm qm qnm qcm stm bxm nbm bcm cxm ncm ccm))/\Hid (BlkI wx (w.heap.size+1) 34 (mC kc fc gc ac anc acc dc dnc dcc nc qc qnc qcc stc bxc nbc bcc cxc ncc ccc)))
 case first=>
  clear hI' hN' hC' cU dC eR hO' hZ
  cases E with
  | false=>
   go_wp2_with (go_at_call 28;with_reducible refine hE1.mono ?_;rintro r w3 ⟨rfl,hb3⟩
                have B3:Hid (Below w.heap.size w w3):=hb0.out.trans (hb3.mono hb0.out.size)
                have L3:w.heap.size+1<w3.heap.size:=Nat.lt_of_lt_of_le l0 hb3.size
                have J03:=zac (J0'.out.below hb3)
                have J13:=zac (J1'.out.below hb3)
                have m7:w3.cell? ⟨w.heap.size,7,none⟩=some (.bool stm):=J03.out.cell 7
                have c7:w3.cell? ⟨w.heap.size+1,7,none⟩=some (.bool stc):=J13.out.cell 7)
   go_meet
   case rel=>exact⟨rfl,B3,L3,J03,J13⟩
  | true=>
   cases stc with
   | false=>
    go_wp2_with (go_at_call 28;with_reducible refine hE1.mono ?_;rintro r w3 ⟨rfl,hb3⟩
                 have B3:Hid (Below w.heap.size w w3):=hb0.out.trans (hb3.mono hb0.out.size)
                 have L3:w.heap.size+1<w3.heap.size:=Nat.lt_of_lt_of_le l0 hb3.size
                 have J03:=zac (J0'.out.below hb3)
                 have J13:=zac (J1'.out.below hb3)
                 have m7:w3.cell? ⟨w.heap.size,7,none⟩=some (.bool stm):=J03.out.cell 7
                 have c7:w3.cell? ⟨w.heap.size+1,7,none⟩=some (.bool false):=J13.out.cell 7)
    go_meet
    case rel=>exact⟨rfl,B3,L3,J03,J13⟩
   | true=>
    cases stm with
    | false=>
     go_wp2_with (go_at_call 28;with_reducible refine hE1.mono ?_;rintro r w3 ⟨rfl,hb3⟩
                  have B3:Hid (Below w.heap.size w w3):=hb0.out.trans (hb3.mono hb0.out.size)
                  have L3:w.heap.size+1<w3.heap.size:=Nat.lt_of_lt_of_le l0 hb3.size
                  have J03:=zac (J0'.out.below hb3)
                  have J13:=zac (J1'.out.below hb3)
                  have m7:w3.cell? ⟨w.heap.size,7,none⟩=some (.bool false):=J03.out.cell 7
                  have c7:w3.cell? ⟨w.heap.size+1,7,none⟩=some (.bool true):=J13.out.cell 7)
     go_meet
     case rel=>exact⟨rfl,B3,L3,J03,J13⟩
    | true=>
     go_wp2_with (go_at_call 28;with_reducible refine hE1.mono ?_;rintro r w3 ⟨rfl,hb3⟩
                  have B3:Hid (Below w.heap.size w w3):=hb0.out.trans (hb3.mono hb0.out.size)
                  have L3:w.heap.size+1<w3.heap.size:=Nat.lt_of_lt_of_le l0 hb3.size
                  have J03:=zac (J0'.out.below hb3)
                  have J13:=zac (J1'.out.below hb3)
                  have m7:w3.cell? ⟨w.heap.size,7,none⟩=some (.bool true):=J03.out.cell 7
                  have c7:w3.cell? ⟨w.heap.size+1,7,none⟩=some (.bool true):=J13.out.cell 7)
     go_meet
     case rel=>exact⟨rfl,B3,L3,J03,J13⟩
 case rest=>
  obtain⟨rfl,Bc,Lc,J0c,J1c⟩:=hcut
  clear hE1 hb0 l0 J0' J1'
  by_cases hq:(!E||(stc&&!stm))=true
  ·rw[hq]
   have hq':Hid ((!E||(stc&&!stm))=true):=hq
   clear hq
   go_wp2_with fail
   go_ret
   exact⟨by rw[<-hZ.out];have:=hq'.out;cases E<;>cases stc<;>cases stm<;>simp_all,Bc.out⟩
  ·have hq1:(!E||(stc&&!stm))=false:=by simpa using hq
   rw[hq1]
   have hq':Hid (E=true/\(!stc||stm)=true):=by
    show E=true/\(!stc||stm)=true
    cases E<;>cases stc<;>cases stm<;>simp_all
   have hZ2:Hid ((((List.range nbm).all fun i=>match O i with | some j=>N i j | none=>false)&&(List.range ncm).all H)=Z):=by
    show _=Z
    rw[<-hZ.out,hq'.out.1,hq'.out.2]
    rfl
   clear hq hq1 hZ hq'
   have m8:wc.cell? ⟨w.heap.size,8,none⟩=some (.slice bxm nbm bcm):=J0c.out.cell 8
   go_wp2_with fail
   go_loopw [30] (fun t wr=>∃i:Nat,i<=nbm/\t=.int .i64 i/\Hid (∀q,q<i->(match O q with | some j=>N q j | none=>false)=true)/\Hid (Below wc.heap.size wc wr)) (fun t _=>nbm - (intOf t).toNat)
   case atStart=>exact⟨0,Nat.zero_le _,rfl,fun j hj=>by omega,Below.refl _ _⟩
   case round=>
    obtain⟨i,hi,rfl,aE,hbw⟩:=hrel
    have Br:Hid (Below w.heap.size w wr):=Bc.out.trans (hbw.out.mono Bc.out.size)
    have J1r:Hid (BlkI wr (w.heap.size+1) 34 (mC kc fc gc ac anc acc dc dnc dcc nc qc qnc qcc stc bxc nbc bcc cxc ncc ccc)):=J1c.out.below hbw.out
    clear m8
    by_cases hlt:i<nbm
    ·have aA:(i:Int)<(nbm:Int):=by omega
     obtain⟨b,o,rfl,hbl,hr⟩:=cU.out.resolve_left (by omega)
     have hr:=zad (hr i hlt) Br.out hbl
     have x0:wr.cell? ⟨b,o+i*9,none⟩=some (.string (ms i).m):=by simpa using hr 0 _ rfl
     have x1:wr.cell? ⟨b,o+i*9+1,none⟩=some (.bool (ms i).g1):=by simpa using hr 1 _ rfl
     have x2:wr.cell? ⟨b,o+i*9+2,none⟩=some (.slice (md i).q1 (md i).l1 (md i).c1):=by simpa using hr 2 _ rfl
     have x3:wr.cell? ⟨b,o+i*9+3,none⟩=some (.slice (md i).p1 (md i).m1 (md i).e1):=by simpa using hr 3 _ rfl
     have x4:wr.cell? ⟨b,o+i*9+4,none⟩=some (.bool (ms i).g2):=by simpa using hr 4 _ rfl
     have x5:wr.cell? ⟨b,o+i*9+5,none⟩=some (.slice (md i).q2 (md i).l2 (md i).c2):=by simpa using hr 5 _ rfl
     have x6:wr.cell? ⟨b,o+i*9+6,none⟩=some (.slice (md i).p2 (md i).m2 (md i).e2):=by simpa using hr 6 _ rfl
     have x7:wr.cell? ⟨b,o+i*9+7,none⟩=some (.bool (ms i).li):=by simpa using hr 7 _ rfl
     have x8:wr.cell? ⟨b,o+i*9+8,none⟩=some (.bool (ms i).hh):=by simpa using hr 8 _ rfl
     have hbB:Below wr.heap.size wr (wr.alloc (.cells (sB (ms i) (md i)) 58)):=zaa wr _
     have BB:=zac (Br.out.trans (hbB.mono Br.out.size))
     have lB:wr.heap.size<(wr.alloc (.cells (sB (ms i) (md i)) 58)).heap.size:=by simp
     have JB:Hid (BlkI (wr.alloc (.cells (sB (ms i) (md i)) 58)) wr.heap.size 58 (sB (ms i) (md i))):=heap_alloc_new _ _
     have c8:(wr.alloc (.cells (sB (ms i) (md i)) 58)).cell? ⟨w.heap.size+1,8,none⟩=some (.slice bxc nbc bcc):=(J1r.out.below hbB).cell 8
     have hi1:=hI'.out i hlt _ BB.out wr.heap.size lB (JB.out.cell 0)
     obtain⟨Q,hQ⟩:∃Q,O i=Q:=⟨_,rfl⟩
     have hQ:Hid (O i=Q):=hQ
     rw[hQ.out] at hi1
     clear hr
     cases Q with
     | none=>
      have cZ:(ixV none:Int)<0:=by decide
      generalize ixV none=rr at*
      go_wp2_with (go_at_call 29;with_reducible refine hi1.mono ?_;rintro r w4 ⟨rfl,hb4⟩)
      go_ret
      exact⟨by rw[<-hZ2.out,zcw hlt (by rw[hQ.out])];rfl,BB.out.trans (hb4.mono BB.out.size)⟩
     | some j=>
      have cZ:¬(ixV (some j):Int)<0:=fun h=>by simp only[ixV] at h;omega
      have hij:(ixV (some j):Int)=(j:Int):=rfl
      rw[hij] at hi1 cZ
      have hjl:=hO'.out i j hQ.out
      obtain⟨b2,o2,rfl,cT,hr2⟩:=dC.out.resolve_left (by omega)
      have hr2:Hid (w.rangeAt b2 (o2+j*9) ((cs j).cells (cd j))):=hr2 j hjl
      have hjl':(j:Int)<(nbc:Int):=by omega
      have hnj:¬nbc<=j:=by omega
      obtain⟨V,hV⟩:∃V,N i j=V:=⟨_,rfl⟩
      have hV:Hid (N i j=V):=hV
      go_upto_region 9 with(go_at_call 29;with_reducible refine hi1.mono ?_;rintro r w4 ⟨rfl,hb4⟩)
      have B4:Hid (Below w.heap.size w w4):=BB.out.trans (hb4.mono BB.out.size)
      have hw4:w.heap.size<=w4.heap.size:=B4.out.size
      have J14:BlkI w4 (w.heap.size+1) 34 (mC kc fc gc ac anc acc dc dnc dcc nc qc qnc qcc stc (some ⟨b2,o2,none⟩) nbc bcc cxc ncc ccc):=(J1r.out.below hbB).below hb4
      have J14:Hid (BlkI w4.drew (w.heap.size+1) 34 (mC kc fc gc ac anc acc dc dnc dcc nc qc qnc qcc stc (some ⟨b2,o2,none⟩) nbc bcc cxc ncc ccc)):=J14
      have P4:BlkI w4 wr.heap.size 58 (sB (ms i) (md i)):=JB.out.below hb4
      have P4:Hid (BlkI w4.drew wr.heap.size 58 #[.string (ms i).m,.bool (ms i).g1,.slice (md i).q1 (md i).l1 (md i).c1,.slice (md i).p1 (md i).m1 (md i).e1,.bool (ms i).g2,.slice (md i).q2 (md i).l2 (md i).c2,.slice (md i).p2 (md i).m2 (md i).e2,.bool (ms i).li,.bool (ms i).hh]):=P4
      have hcr:w4.drew.rangeAt b2 (o2+j*9) ((cs j).cells (cd j)):=zad hr2.out B4.out.drew cT
      have hn1:=hN'.out i j hlt hQ.out w4.drew B4.out.drew
      rw[hV.out] at hn1
      have Bfin:Hid (Below wc.heap.size wc w4.drew):=hbw.out.trans ((hbB.trans ((hb4.drew).mono hbB.size)).mono hbw.out.size)
      clear x0 x1 x2 x3 x4 x5 x6 x7 x8 c8 hi1
      cases V with
      | false=>
       have hS0:(SKu w kc fc gc ac anc acc dc dnc dcc nc qc qnc qcc stc b2 o2 nbc bcc cxc ncc ccc wr ms i md j cs cd) w4.drew:=⟨J14.out,P4.out,hcr⟩
       refine wp_region_held_drew (S:=(SKu w kc fc gc ac anc acc dc dnc dcc nc qc qnc qcc stc b2 o2 nbc bcc cxc ncc ccc wr ms i md j cs cd)) (by kernel_rfl) hS0 (fun ah=>?_)
       refine tk 0 (.pointer (some ⟨w.heap.size+1,8,none⟩)) rfl ah ?_
       simp only[pz]
       refine tk 1 (.slice (some ⟨b2,o2,none⟩) nbc bcc) rfl ah ?_ (.inl ⟨by rfl,fun z hSz=>by(have h8:=hSz.1.cell 8;go_simp)⟩)
       simp only[pz]
       refine tk 2 (.int .i64 (j:Int)) rfl ah ?_
       simp only[pz]
       refine tk 3 (.pointer (some ⟨b2,o2+j*9,none⟩)) rfl ah ?_
       simp only[pz]
       refine tk 4 (.pointer (some ⟨b2,o2+j*9+1,none⟩)) rfl ah ?_
       simp only[pz]
       refine tk 5 (.agg (sA (cs j) (cd j))) rfl ah ?_ (.inl ⟨by rfl,fun z hSz=>by(have h0:=hSz.2.2 1 _ rfl;have g0:z.cell? ⟨b2,o2+j*9+1,none⟩=some (.bool (cs j).g1):=(by simpa [Nat.add_assoc] using h0);have h1:=hSz.2.2 2 _ rfl;have g1:z.cell? ⟨b2,o2+j*9+1+1,none⟩=some (.slice (cd j).q1 (cd j).l1 (cd j).c1):=(by simpa [Nat.add_assoc] using h1);have h2:=hSz.2.2 3 _ rfl;have g2:z.cell? ⟨b2,o2+j*9+1+2,none⟩=some (.slice (cd j).p1 (cd j).m1 (cd j).e1):=(by simpa [Nat.add_assoc] using h2);have h3:=hSz.2.2 4 _ rfl;have g3:z.cell? ⟨b2,o2+j*9+1+3,none⟩=some (.bool (cs j).g2):=(by simpa [Nat.add_assoc] using h3);have h4:=hSz.2.2 5 _ rfl;have g4:z.cell? ⟨b2,o2+j*9+1+4,none⟩=some (.slice (cd j).q2 (cd j).l2 (cd j).c2):=(by simpa [Nat.add_assoc] using h4);have h5:=hSz.2.2 6 _ rfl;have g5:z.cell? ⟨b2,o2+j*9+1+5,none⟩=some (.slice (cd j).p2 (cd j).m2 (cd j).e2):=(by simpa [Nat.add_assoc] using h5);have h6:=hSz.2.2 7 _ rfl;have g6:z.cell? ⟨b2,o2+j*9+1+6,none⟩=some (.bool (cs j).li):=(by simpa [Nat.add_assoc] using h6);have h7:=hSz.2.2 8 _ rfl;have g7:z.cell? ⟨b2,o2+j*9+1+7,none⟩=some (.bool (cs j).hh):=(by simpa [Nat.add_assoc] using h7);clear h0 h1 h2 h3 h4 h5 h6 h7;go_simp)⟩)
       simp only[pz]
       refine tk 6 (.pointer (some ⟨wr.heap.size,1,none⟩)) rfl ah ?_
       simp only[pz]
       refine tk 7 (.agg (sA (ms i) (md i))) rfl ah ?_ (.inl ⟨by rfl,fun z hSz=>by(have h1:=hSz.2.1.cell 1;have h2:=hSz.2.1.cell 2;have h3:=hSz.2.1.cell 3;have h4:=hSz.2.1.cell 4;have h5:=hSz.2.1.cell 5;have h6:=hSz.2.1.cell 6;have h7:=hSz.2.1.cell 7;have h8:=hSz.2.1.cell 8;go_simp)⟩)
       simp only[pz]
       refine rdy 8 rfl (fun K hK=>?_)
       go_simp
       with_reducible refine hn1.mono ?_
       rintro r w5 ⟨rfl,hb5⟩
       have hS5:(SKu w kc fc gc ac anc acc dc dnc dcc nc qc qnc qcc stc b2 o2 nbc bcc cxc ncc ccc wr ms i md j cs cd) w5:=⟨J14.out.below hb5,P4.out.below hb5,zad hcr hb5 (by show b2<w4.heap.size;omega)⟩
       refine hK.out _ _ hS5 (fun af=>?_)
       clear hK K ah
       try simp only[pz]
       refine tk 9 (.tuple #[.bool false,.int .i64 0]) rfl af ?_
       simp only[pz]
       refine tk 10 (.bool false) rfl af ?_
       simp only[pz]
       refine tk 11 (.int .i64 0) rfl af ?_
       simp only[pz]
       refine tk 12 (.bool false) rfl af ?_
       simp only[pz]
       refine tk 13 (.int .i64 0) rfl af ?_
       simp only[pz]
       refine wpAnyH_done (by kernel_rfl) ?_ _
       go_wp2_with fail
       go_ret
       exact⟨by rw[<-hZ2.out,zcw hlt (by rw[hQ.out];exact hV.out)];rfl,B4.out.drew.trans (hb5.mono B4.out.drew.size)⟩
      | true=>
       have hS0:(SKu w kc fc gc ac anc acc dc dnc dcc nc qc qnc qcc stc b2 o2 nbc bcc cxc ncc ccc wr ms i md j cs cd) w4.drew:=⟨J14.out,P4.out,hcr⟩
       refine wp_region_held_drew (S:=(SKu w kc fc gc ac anc acc dc dnc dcc nc qc qnc qcc stc b2 o2 nbc bcc cxc ncc ccc wr ms i md j cs cd)) (by kernel_rfl) hS0 (fun ah=>?_)
       refine tk 0 (.pointer (some ⟨w.heap.size+1,8,none⟩)) rfl ah ?_
       simp only[pz]
       refine tk 1 (.slice (some ⟨b2,o2,none⟩) nbc bcc) rfl ah ?_ (.inl ⟨by rfl,fun z hSz=>by(have h8:=hSz.1.cell 8;go_simp)⟩)
       simp only[pz]
       refine tk 2 (.int .i64 (j:Int)) rfl ah ?_
       simp only[pz]
       refine tk 3 (.pointer (some ⟨b2,o2+j*9,none⟩)) rfl ah ?_
       simp only[pz]
       refine tk 4 (.pointer (some ⟨b2,o2+j*9+1,none⟩)) rfl ah ?_
       simp only[pz]
       refine tk 5 (.agg (sA (cs j) (cd j))) rfl ah ?_ (.inl ⟨by rfl,fun z hSz=>by(have h0:=hSz.2.2 1 _ rfl;have g0:z.cell? ⟨b2,o2+j*9+1,none⟩=some (.bool (cs j).g1):=(by simpa [Nat.add_assoc] using h0);have h1:=hSz.2.2 2 _ rfl;have g1:z.cell? ⟨b2,o2+j*9+1+1,none⟩=some (.slice (cd j).q1 (cd j).l1 (cd j).c1):=(by simpa [Nat.add_assoc] using h1);have h2:=hSz.2.2 3 _ rfl;have g2:z.cell? ⟨b2,o2+j*9+1+2,none⟩=some (.slice (cd j).p1 (cd j).m1 (cd j).e1):=(by simpa [Nat.add_assoc] using h2);have h3:=hSz.2.2 4 _ rfl;have g3:z.cell? ⟨b2,o2+j*9+1+3,none⟩=some (.bool (cs j).g2):=(by simpa [Nat.add_assoc] using h3);have h4:=hSz.2.2 5 _ rfl;have g4:z.cell? ⟨b2,o2+j*9+1+4,none⟩=some (.slice (cd j).q2 (cd j).l2 (cd j).c2):=(by simpa [Nat.add_assoc] using h4);have h5:=hSz.2.2 6 _ rfl;have g5:z.cell? ⟨b2,o2+j*9+1+5,none⟩=some (.slice (cd j).p2 (cd j).m2 (cd j).e2):=(by simpa [Nat.add_assoc] using h5);have h6:=hSz.2.2 7 _ rfl;have g6:z.cell? ⟨b2,o2+j*9+1+6,none⟩=some (.bool (cs j).li):=(by simpa [Nat.add_assoc] using h6);have h7:=hSz.2.2 8 _ rfl;have g7:z.cell? ⟨b2,o2+j*9+1+7,none⟩=some (.bool (cs j).hh):=(by simpa [Nat.add_assoc] using h7);clear h0 h1 h2 h3 h4 h5 h6 h7;go_simp)⟩)
       simp only[pz]
       refine tk 6 (.pointer (some ⟨wr.heap.size,1,none⟩)) rfl ah ?_
       simp only[pz]
       refine tk 7 (.agg (sA (ms i) (md i))) rfl ah ?_ (.inl ⟨by rfl,fun z hSz=>by(have h1:=hSz.2.1.cell 1;have h2:=hSz.2.1.cell 2;have h3:=hSz.2.1.cell 3;have h4:=hSz.2.1.cell 4;have h5:=hSz.2.1.cell 5;have h6:=hSz.2.1.cell 6;have h7:=hSz.2.1.cell 7;have h8:=hSz.2.1.cell 8;go_simp)⟩)
       simp only[pz]
       refine rdy 8 rfl (fun K hK=>?_)
       go_simp
       with_reducible refine hn1.mono ?_
       rintro r w5 ⟨rfl,hb5⟩
       have hS5:(SKu w kc fc gc ac anc acc dc dnc dcc nc qc qnc qcc stc b2 o2 nbc bcc cxc ncc ccc wr ms i md j cs cd) w5:=⟨J14.out.below hb5,P4.out.below hb5,zad hcr hb5 (by show b2<w4.heap.size;omega)⟩
       refine hK.out _ _ hS5 (fun af=>?_)
       clear hK K ah
       try simp only[pz]
       refine tk 9 (.tuple #[.bool true,.int .i64 0]) rfl af ?_
       simp only[pz]
       refine tk 10 (.bool true) rfl af ?_
       simp only[pz]
       refine tk 11 (.int .i64 0) rfl af ?_
       simp only[pz]
       refine tk 12 (.bool true) rfl af ?_
       simp only[pz]
       refine tk 13 (.int .i64 0) rfl af ?_
       simp only[pz]
       refine wpAnyH_done (by kernel_rfl) ?_ _
       go_wp2_with fail
       go_roundw
       case rel=>
        refine⟨i+1,by omega,by go_num,fun q hq=>?_,Bfin.out.trans (hb5.mono Bfin.out.size)⟩
        rcases Nat.lt_or_ge q i with h | h
        ·exact aE.out q h
        ·obtain rfl:q=i:=by omega
         rw[hQ.out]
         exact hV.out
       case measure=>simp[intOf];omega
    ·obtain rfl:i=nbm:=by omega
     have eS:Hid (((List.range i).all fun i=>match O i with | some j=>N i j | none=>false)=true):=zdi aE.out
     have J0r:Hid (BlkI wr w.heap.size 34 (mC km fm gm am anm acm dm dnm dcm nm qm qnm qcm stm bxm i bcm cxm ncm ccm)):=J0c.out.below hbw.out
     have m9:wr.cell? ⟨w.heap.size,9,none⟩=some (.slice cxm ncm ccm):=J0r.out.cell 9
     clear hI' hN' cU dC hO' aE
     go_wp2_with fail
     generalize hwo:wr=wo at*
     clear hwo wr
     go_loopw [62] (fun t wz=>∃q:Nat,q<=ncm/\t=.int .i64 q/\Hid (∀p,p<q->H p=true)/\Hid (Below wo.heap.size wo wz)) (fun t _=>ncm - (intOf t).toNat)
     case atStart=>exact⟨0,Nat.zero_le _,rfl,fun j hj=>by omega,Below.refl _ _⟩
     case round=>
      obtain⟨q,hq,rfl,aE,hbz⟩:=hrel
      have Bz:Hid (Below w.heap.size w wr):=Br.out.trans (hbz.out.mono Br.out.size)
      have J1z:Hid (BlkI wr (w.heap.size+1) 34 (mC kc fc gc ac anc acc dc dnc dcc nc qc qnc qcc stc bxc nbc bcc cxc ncc ccc)):=J1r.out.below hbz.out
      clear m9
      by_cases cK:q<ncm
      ·have iG:(q:Int)<(ncm:Int):=by omega
       obtain⟨b3,o3,rfl,bv,hr3⟩:=eR.out.resolve_left (by omega)
       have hr3:=zad (hr3 q cK) Bz.out bv
       have x0:wr.cell? ⟨b3,o3+q*8,none⟩=some (.int .i64 (me q).k):=by simpa using hr3 0 _ rfl
       have x1:wr.cell? ⟨b3,o3+q*8+1,none⟩=some (.int .i64 (me q).f):=by simpa using hr3 1 _ rfl
       have x2:wr.cell? ⟨b3,o3+q*8+2,none⟩=some (.bool (me q).neg):=by simpa using hr3 2 _ rfl
       have x3:wr.cell? ⟨b3,o3+q*8+3,none⟩=some (.slice (me q).aq (me q).an (me q).ac):=by simpa using hr3 3 _ rfl
       have x4:wr.cell? ⟨b3,o3+q*8+4,none⟩=some (.slice (me q).cq (me q).cn (me q).cc):=by simpa using hr3 4 _ rfl
       have x5:wr.cell? ⟨b3,o3+q*8+5,none⟩=some (.string (me q).m):=by simpa using hr3 5 _ rfl
       have x6:wr.cell? ⟨b3,o3+q*8+6,none⟩=some (.slice (me q).sq (me q).sn (me q).sc):=by simpa using hr3 6 _ rfl
       have x7:wr.cell? ⟨b3,o3+q*8+7,none⟩=some (.bool (mk q).st):=by simpa using hr3 7 _ rfl
       have hbB:Below wr.heap.size wr (wr.alloc (.cells #[.int .i64 (me q).k,.int .i64 (me q).f,.bool (me q).neg,.slice (me q).aq (me q).an (me q).ac,.slice (me q).cq (me q).cn (me q).cc,.string (me q).m,.slice (me q).sq (me q).sn (me q).sc,.bool (mk q).st] 50)):=zaa wr _
       have BB:=zac (Bz.out.trans (hbB.mono Bz.out.size))
       have lB:wr.heap.size<(wr.alloc (.cells #[.int .i64 (me q).k,.int .i64 (me q).f,.bool (me q).neg,.slice (me q).aq (me q).an (me q).ac,.slice (me q).cq (me q).cn (me q).cc,.string (me q).m,.slice (me q).sq (me q).sn (me q).sc,.bool (mk q).st] 50)).heap.size:=by simp
       have JB:Hid (BlkI (wr.alloc (.cells #[.int .i64 (me q).k,.int .i64 (me q).f,.bool (me q).neg,.slice (me q).aq (me q).an (me q).ac,.slice (me q).cq (me q).cn (me q).cc,.string (me q).m,.slice (me q).sq (me q).sn (me q).sc,.bool (mk q).st] 50)) wr.heap.size 50 #[.int .i64 (me q).k,.int .i64 (me q).f,.bool (me q).neg,.slice (me q).aq (me q).an (me q).ac,.slice (me q).cq (me q).cn (me q).cc,.string (me q).m,.slice (me q).sq (me q).sn (me q).sc,.bool (mk q).st]):=heap_alloc_new _ _
       have c9:(wr.alloc (.cells #[.int .i64 (me q).k,.int .i64 (me q).f,.bool (me q).neg,.slice (me q).aq (me q).an (me q).ac,.slice (me q).cq (me q).cn (me q).cc,.string (me q).m,.slice (me q).sq (me q).sn (me q).sc,.bool (mk q).st] 50)).cell? ⟨w.heap.size+1,9,none⟩=some (.slice cxc ncc ccc):=(J1z.out.below hbB).cell 9
       have hc1:=hC'.out q cK _ BB.out wr.heap.size lB JB.out
       obtain⟨V,hV⟩:∃V,H q=V:=⟨_,rfl⟩
       have hV:Hid (H q=V):=hV
       rw[hV.out] at hc1
       clear hr3
       cases V with
       | false=>
        go_wp2_with (go_at_call 32;with_reducible refine hc1.mono ?_;rintro r w4 ⟨rfl,hb4⟩)
        go_ret
        exact⟨by rw[<-hZ2.out,zcw cK hV.out,Bool.and_false];rfl,BB.out.trans (hb4.mono BB.out.size)⟩
       | true=>
        go_wp2_with (go_at_call 32;with_reducible refine hc1.mono ?_;rintro r w4 ⟨rfl,hb4⟩)
        go_roundw
        case rel=>
         refine⟨q+1,by omega,by go_num,fun p hp=>?_,hbz.out.trans ((hbB.trans (hb4.mono hbB.size)).mono hbz.out.size)⟩
         rcases Nat.lt_or_ge p q with h | h
         ·exact aE.out p h
         ·obtain rfl:p=q:=by omega
          exact hV.out
        case measure=>simp[intOf];omega
      ·obtain rfl:q=ncm:=by omega
       go_wp2_with fail
       go_ret
       exact⟨by rw[<-hZ2.out,eS.out,zdi aE.out];rfl,Bz.out⟩
def sdCv (C:Cl) (s:Si):Bool:=match sdIx C.nb C.bs s.m with | some j=>(C.bs j).c.ins s.c | none=>false
def covS (M C:Cl):Bool:=M.goal.sm C.goal&&((!C.st||M.st)&&(((List.range M.nb).all fun i=>sdCv C (M.bs i))&&(List.range M.nc).all fun i=>(List.range C.nc).any fun j=>coSv (C.cs j) (M.cs i)))
theorem zls {n:Nat} {P:Nat->Bool} (h:(List.range n).all P=true):∀i,i<n->P i=true:=fun i hi=>List.all_eq_true.1 h i (List.mem_range.2 hi)
structure Cl.Parts (C:Cl):Prop where
 n6:C.nb<=6
 lg:∀i,i<C.nb->(C.bs i).c.lg=false
 vd:∀i,i<C.nb->(C.bs i).c.vd=false
 n12:C.nc<=12
 goal:exV C.goal=true
 co:∀i,i<C.nc->exV (C.cs i).x=true
theorem Cl.parts {C:Cl} (h:C.vld=true):C.Parts:=by
 unfold Cl.vld coOk bxOk at h
 simp only[Bool.and_eq_true,decide_eq_true_eq] at h
 obtain⟨⟨h1,h2⟩,h3,⟨h4,_⟩,h5⟩:=h
 have h2:=zls h2
 have h5:=zls h5
 refine⟨h1,fun i hi=>?_,fun i hi=>?_,h3,h4,fun i hi=>?_⟩
 ·have:=h2 i hi
  unfold sdOk at this
  simp only[Bool.and_eq_true,Bool.not_eq_true'] at this
  exact this.2.2.1
 ·have:=h2 i hi
  unfold sdOk at this
  simp only[Bool.and_eq_true,Bool.not_eq_true'] at this
  exact this.2.2.2
 ·have:=h5 i hi
  simp only[Bool.and_eq_true] at this
  exact this.1
theorem zlt {w:World} {M C:Cl} {DM DC:Cd} (hM:ClOk w M DM) (hC:ClOk w C DC) (hT:Tb w) (vM:M.vld=true) (vC:C.vld=true):
  Calls Tryz.prog 11 #[.agg (M.cells DM).toArray,.agg (C.cells DC).toArray] w fun e w'=>e=.returned (.bool (covS M C))/\Below w.heap.size w w':=by
 have pM:=Cl.parts vM
 have pC:=Cl.parts vC
 obtain⟨m1,m2,m3,m4,m5⟩:=hM
 obtain⟨c1,c2,c3,c4,c5⟩:=hC
 obtain⟨md,hmd⟩:∃md:Nat->Sv,M.nb=0\/∃b o,DM.bq=some ⟨b,o,none⟩/\b<w.heap.size/\∀i,i<M.nb->w.rangeAt b (o+i*9) ((M.bs i).cells (md i))/\SiOk w (M.bs i) (md i):=by
  rcases m4 with h | ⟨b,o,e,hb,ds,hds⟩
  ·exact⟨default,.inl h⟩
  ·exact⟨ds,.inr ⟨b,o,e,hb,hds⟩⟩
 obtain⟨cd,hcd⟩:∃cd:Nat->Sv,C.nb=0\/∃b o,DC.bq=some ⟨b,o,none⟩/\b<w.heap.size/\∀i,i<C.nb->w.rangeAt b (o+i*9) ((C.bs i).cells (cd i))/\SiOk w (C.bs i) (cd i):=by
  rcases c4 with h | ⟨b,o,e,hb,ds,hds⟩
  ·exact⟨default,.inl h⟩
  ·exact⟨ds,.inr ⟨b,o,e,hb,hds⟩⟩
 obtain⟨me,hme⟩:∃me:Nat->Nd,M.nc=0\/∃b o,DM.cq=some ⟨b,o,none⟩/\b<w.heap.size/\∀i,i<M.nc->w.rangeAt b (o+i*8) ((M.cs i).cells (me i))/\ExOk w (M.cs i).x (me i):=by
  rcases m5 with h | ⟨b,o,e,hb,ds,hds⟩
  ·exact⟨default,.inl h⟩
  ·exact⟨ds,.inr ⟨b,o,e,hb,hds⟩⟩
 have sM:∀i,i<M.nb->SiOk w (M.bs i) (md i):=fun i hi=>by
  obtain⟨_,_,_,_,h⟩:=hmd.resolve_left (by omega)
  exact(h i hi).2
 have sC:∀i,i<C.nb->SiOk w (C.bs i) (cd i):=fun i hi=>by
  obtain⟨_,_,_,_,h⟩:=hcd.resolve_left (by omega)
  exact(h i hi).2
 have eM:∀i,i<M.nc->ExOk w (M.cs i).x (me i):=fun i hi=>by
  obtain⟨_,_,_,_,h⟩:=hme.resolve_left (by omega)
  exact(h i hi).2
 exact zhu (km:=DM.d.k) (fm:=DM.d.f) (gm:=DM.d.neg) (stm:=M.st) (am:=DM.d.aq) (dm:=DM.d.cq) (qm:=DM.d.sq) (bxm:=DM.bq) (cxm:=DM.cq) (anm:=DM.d.an) (acm:=DM.d.ac) (dnm:=DM.d.cn) (dcm:=DM.d.cc) (qnm:=DM.d.sn) (qcm:=DM.d.sc) (nbm:=M.nb) (bcm:=DM.bc) (ncm:=M.nc) (ccm:=DM.cc) (nm:=DM.d.m)
  (kc:=DC.d.k) (fc:=DC.d.f) (gc:=DC.d.neg) (stc:=C.st) (ac:=DC.d.aq) (dc:=DC.d.cq) (qc:=DC.d.sq) (bxc:=DC.bq) (cxc:=DC.cq) (anc:=DC.d.an) (acc:=DC.d.ac) (dnc:=DC.d.cn) (dcc:=DC.d.cc) (qnc:=DC.d.sn) (qcc:=DC.d.sc) (nbc:=C.nb) (bcc:=DC.bc) (ncc:=C.nc) (ccc:=DC.cc) (nc:=DC.d.m)
  (ms:=M.bs) (cs:=C.bs) (md:=md) (cd:=cd) (mk:=M.cs) (me:=me) (E:=M.goal.sm C.goal) (O:=fun i=>sdIx C.nb C.bs (M.bs i).m) (N:=fun i j=>(C.bs j).c.ins (M.bs i).c) (H:=fun i=>(List.range C.nc).any fun j=>coSv (C.cs j) (M.cs i))
  (fun z hz=>ze1 (m1.below hz) (c1.below hz) (hT.below hz) pM.goal pC.goal)
  (fun i hi z hz B hB hc=>idx30_ok DC.bc (c4.below hz) c2 _ B hB hc)
  (fun i j hi hj z hz=>by
    have hjn:=(zfy hj).1
    have s1:=sC j hjn
    have s2:=sM i hi
    have h:=inside_c (w:=z) (g1s:=(C.bs j).g1) (g2s:=(C.bs j).g2) (lis:=(C.bs j).li) (hhs:=(C.bs j).hh) (g1t:=(M.bs i).g1) (g2t:=(M.bs i).g2) (lit:=(M.bs i).li) (hht:=(M.bs i).hh) (s1.1.below hz) (s1.2.1.below hz) (s1.2.2.1.below hz) (s1.2.2.2.1.below hz) (by have:=s1.2.2.2.2.1;omega) (by have:=s1.2.2.2.2.2.1;omega) (by have:=s1.2.2.2.2.2.2.1;omega) (by have:=s1.2.2.2.2.2.2.2;omega) (s2.1.below hz) (s2.2.1.below hz) (s2.2.2.1.below hz) (s2.2.2.2.1.below hz) (by have:=s2.2.2.2.2.1;omega) (by have:=s2.2.2.2.2.2.1;omega) (by have:=s2.2.2.2.2.2.2.1;omega) (by have:=s2.2.2.2.2.2.2.2;omega) (hT.below hz)
    have l1:(IvC.mk (C.bs j).g1 (val (C.bs j).nu1) (val (C.bs j).de1) (C.bs j).g2 (val (C.bs j).nu2) (val (C.bs j).de2) (C.bs j).li (C.bs j).hh).lg=false:=pC.lg j hjn
    have l2:(IvC.mk (M.bs i).g1 (val (M.bs i).nu1) (val (M.bs i).de1) (M.bs i).g2 (val (M.bs i).nu2) (val (M.bs i).de2) (M.bs i).li (M.bs i).hh).lg=false:=pM.lg i hi
    rw[l1,l2] at h
    exact h)
  (fun i hi z hz B hB hk=>has33_ok DC.cc (c5.below hz) c3 pC.co (M.cs i) (me i) B hB hk ((eM i hi).below hz) (pM.co i hi) (hT.below hz))
  (hmd.imp id fun⟨b,o,e,hb,h⟩=>⟨b,o,e,hb,fun i hi=>(h i hi).1⟩) (hcd.imp id fun⟨b,o,e,hb,h⟩=>⟨b,o,e,hb,fun i hi=>(h i hi).1⟩) (hme.imp id fun⟨b,o,e,hb,h⟩=>⟨b,o,e,hb,fun i hi=>(h i hi).1⟩)
  (fun i j hj=>(zfy hj).1) m2 c2 m3
end Go.Proofs.YtaonejnicgbifaaGreatDoor
