import Derived.Test.YtaonejnicgbifaaGreatDoorQk26
namespace Go.Proofs.YtaonejnicgbifaaGreatDoor
open Go Go.RowKit
set_option maxRecDepth 100000
set_option maxHeartbeats 16000000
theorem fld66 {a0 a7 b4 b5 v:Bool} {a1 a4 a8 b1:Option Addr} {a2 a3 a5 a6 a9 b0 b2 b3:Nat} (z:World):(Instr.field 66 (.agg (iB a0 a1 a2 a3 a4 a5 a6 a7 a8 a9 b0 b1 b2 b3 b4 b5 v)) 4).run Tryz.prog z=.ok (.bool v) z:=by
 have u:=Tryz.underlying66
 have a:=Tryz.isAgg4
 have s:=Tryz.sizeOf4
 simp[Instr.field,asAgg,part,go_sem,a,Sem.run_bind,Result.andThen]
theorem ziw {w:World} {g1 g2 li hh:Bool} {q1 p1 q2 p2:Option Addr} {l1 c1 m1 e1 l2 c2 m2 e2:Nat} {nu1 de1 nu2 de2:List Int} (h1:Sl w (.slice q1 l1 c1) nu1) (h2:Sl w (.slice p1 m1 e1) de1) (h3:Sl w (.slice q2 l2 c2) nu2) (h4:Sl w (.slice p2 m2 e2) de2)
  (b1:nu1.length<=34359737000) (b2:de1.length<=34359737000) (b3:nu2.length<=34359737000) (b4:de2.length<=34359737000):
  Calls Tryz.prog 62 #[.agg (iA g1 q1 l1 c1 p1 m1 e1 g2 q2 l2 c2 p2 m2 e2 li hh)] w fun e w'=>e=.returned (.bool (IvC.mk g1 (val nu1) (val de1) g2 (val nu2) (val de2) li hh).lg)/\Below w.heap.size w w':=by
 have hA:=fun z (hz:Below w.heap.size w z)=>zeo (g:=g1) (h1.below hz) (h2.below hz) (by omega) (by omega)
 have hB:=fun z (hz:Below w.heap.size w z)=>zeo (g:=g2) (h3.below hz) (h4.below hz) (by omega) (by omega)
 have hA:Hid (∀z,Below w.heap.size w z->Calls Tryz.prog 93 #[.agg (qA g1 q1 l1 c1 p1 m1 e1)] z _):=hA
 have hB:Hid (∀z,Below w.heap.size w z->Calls Tryz.prog 93 #[.agg (qA g2 q2 l2 c2 p2 m2 e2)] z _):=hB
 show Calls _ _ _ _ fun e w'=>e=.returned (.bool (large (val nu1) (val de1)||large (val nu2) (val de2)))/\Below w.heap.size w w'
 generalize large (val nu1) (val de1)=X at*
 generalize large (val nu2) (val de2)=Y at*
 clear h1 h2 h3 h4
 have b0:Below w.heap.size w (w.alloc (.cells (iA g1 q1 l1 c1 p1 m1 e1 g2 q2 l2 c2 p2 m2 e2 li hh) 56)):=zaa w _
 have hA1:=hA.out _ b0
 have hsz:w.heap.size<(w.alloc (.cells (iA g1 q1 l1 c1 p1 m1 e1 g2 q2 l2 c2 p2 m2 e2 li hh) 56)).heap.size:=by simp
 have y0:(w.alloc (.cells (iA g1 q1 l1 c1 p1 m1 e1 g2 q2 l2 c2 p2 m2 e2 li hh) 56)).cell? ⟨w.heap.size,0,none⟩=some (.bool g1):=by simp
 have y1:(w.alloc (.cells (iA g1 q1 l1 c1 p1 m1 e1 g2 q2 l2 c2 p2 m2 e2 li hh) 56)).cell? ⟨w.heap.size,1,none⟩=some (.slice q1 l1 c1):=by simp
 have y2:(w.alloc (.cells (iA g1 q1 l1 c1 p1 m1 e1 g2 q2 l2 c2 p2 m2 e2 li hh) 56)).cell? ⟨w.heap.size,2,none⟩=some (.slice p1 m1 e1):=by simp
 have y3:(w.alloc (.cells (iA g1 q1 l1 c1 p1 m1 e1 g2 q2 l2 c2 p2 m2 e2 li hh) 56)).cell? ⟨w.heap.size,3,none⟩=some (.bool g2):=by simp
 have y4:(w.alloc (.cells (iA g1 q1 l1 c1 p1 m1 e1 g2 q2 l2 c2 p2 m2 e2 li hh) 56)).cell? ⟨w.heap.size,4,none⟩=some (.slice q2 l2 c2):=by simp
 have y5:(w.alloc (.cells (iA g1 q1 l1 c1 p1 m1 e1 g2 q2 l2 c2 p2 m2 e2 li hh) 56)).cell? ⟨w.heap.size,5,none⟩=some (.slice p2 m2 e2):=by simp
 have y6:(w.alloc (.cells (iA g1 q1 l1 c1 p1 m1 e1 g2 q2 l2 c2 p2 m2 e2 li hh) 56)).cell? ⟨w.heap.size,6,none⟩=some (.bool li):=by simp
 have y7:(w.alloc (.cells (iA g1 q1 l1 c1 p1 m1 e1 g2 q2 l2 c2 p2 m2 e2 li hh) 56)).cell? ⟨w.heap.size,7,none⟩=some (.bool hh):=by simp
 go_enter Tryz.func62,Tryz.ntmps62
 go_upto_region 1 with fail
 clear hA
 have b0':=zac b0
 cases X with
 | true=>
  go_wp2_with (go_at_call 93;with_reducible refine hA1.mono ?_;rintro e w3 ⟨rfl,hb3⟩)
  go_ret
  exact⟨rfl,b0'.out.trans (hb3.mono b0'.out.size)⟩
 | false=>
  go_wp2_with (first
   | (go_at_call 93;with_reducible refine hA1.mono ?_;rintro e w3 ⟨rfl,hb3⟩
      have z0:=(hb3.cell (p:=⟨w.heap.size,0,none⟩) (by exact hsz)).trans y0
      have z1:=(hb3.cell (p:=⟨w.heap.size,1,none⟩) (by exact hsz)).trans y1
      have z2:=(hb3.cell (p:=⟨w.heap.size,2,none⟩) (by exact hsz)).trans y2
      have z3:=(hb3.cell (p:=⟨w.heap.size,3,none⟩) (by exact hsz)).trans y3
      have z4:=(hb3.cell (p:=⟨w.heap.size,4,none⟩) (by exact hsz)).trans y4
      have z5:=(hb3.cell (p:=⟨w.heap.size,5,none⟩) (by exact hsz)).trans y5
      have z6:=(hb3.cell (p:=⟨w.heap.size,6,none⟩) (by exact hsz)).trans y6
      have z7:=(hb3.cell (p:=⟨w.heap.size,7,none⟩) (by exact hsz)).trans y7
      have b3':Hid (Below w.heap.size w w3):=b0'.out.trans (hb3.mono b0'.out.size)
      have hB1:=hB.out _ b3'.out
      clear hb3 hA1)
   | (go_at_call 93;with_reducible refine hB1.mono ?_;rintro e w4 ⟨rfl,hb4⟩))
  go_ret
  exact⟨by simp,b3'.out.trans (hb4.mono b3'.out.size)⟩
abbrev SKd (P:Nat) (m:ByteArray) (g1:Bool) (q1:Option Addr) (l1:Nat) (c1:Nat) (p1:Option Addr) (m1:Nat) (e1:Nat) (g2:Bool) (q2:Option Addr) (l2:Nat) (c2:Nat) (p2:Option Addr) (m2:Nat) (e2:Nat) (li:Bool) (hh:Bool) (b:Nat) (o:Nat) (i:Nat) (mp:ByteArray):World->Prop:=fun z=>BlkI z P 58 (jA m g1 q1 l1 c1 p1 m1 e1 g2 q2 l2 c2 p2 m2 e2 li hh)/\z.cell? ⟨b,o+i*9,none⟩=some (.string mp)
theorem zgz {w:World} (b o n c:Nat) (bs:Nat->Si) (ds:Nat->Sv) (hn:n<=6) (hb:b<w.heap.size) (hx:∀i,i<n->w.rangeAt b (o+i*9) ((bs i).cells (ds i))/\SiOk w (bs i) (ds i)):
  Calls Tryz.prog 36 #[.slice (some ⟨b,o,none⟩) n c] w fun e w'=>e=.returned (.bool (bxOk n bs))/\Below w.heap.size w w':=by
 have hx':=zac hx
 have hn':¬((n:Int) > 6):=by omega
 clear hx
 go_enter Tryz.func36,Tryz.ntmps36
 go_wp2_with fail
 go_loopw [10] (fun i wr=>∃k:Nat,k<=n/\i=.int .i64 k/\(∀j,j<k->sdOk bs j=true)/\Below w.heap.size w wr) (fun i _=>n - (intOf i).toNat)
 case atStart=>exact⟨0,Nat.zero_le _,rfl,fun j hj=>by omega,Below.refl _ _⟩
 case round=>
  obtain⟨k,hk,rfl,aE,hbw⟩:=hrel
  have aN:Hid (∀j,j<k->sdOk bs j=true):=aE
  clear aE
  by_cases hlt:k<n
  ·have aA:(k:Int)<(n:Int):=by omega
   have hR:=zad (hx'.out k hlt).1 hbw hb
   have hS:=(hx'.out k hlt).2.below hbw
   have hne:Hid (∀z,Below w.heap.size w z->∀j,j+1=k->z.cell? ⟨b,o+j*9,none⟩=some (.string (bs j).m)):=by
    intro z hz j hj
    have h0:=(zad (hx'.out j (by omega)).1 hz hb) 0 _ rfl
    simpa using h0
   obtain⟨S,hSd⟩:∃S,Hid (sdOk bs k=S):=⟨_,rfl⟩
   have x0:wr.cell? ⟨b,o+k*9,none⟩=some (.string (bs k).m):=by simpa using hR 0 _ rfl
   have x1:wr.cell? ⟨b,o+k*9+1,none⟩=some (.bool (bs k).g1):=by simpa using hR 1 _ rfl
   have x2:wr.cell? ⟨b,o+k*9+2,none⟩=some (.slice (ds k).q1 (ds k).l1 (ds k).c1):=by simpa using hR 2 _ rfl
   have x3:wr.cell? ⟨b,o+k*9+3,none⟩=some (.slice (ds k).p1 (ds k).m1 (ds k).e1):=by simpa using hR 3 _ rfl
   have x4:wr.cell? ⟨b,o+k*9+4,none⟩=some (.bool (bs k).g2):=by simpa using hR 4 _ rfl
   have x5:wr.cell? ⟨b,o+k*9+5,none⟩=some (.slice (ds k).q2 (ds k).l2 (ds k).c2):=by simpa using hR 5 _ rfl
   have x6:wr.cell? ⟨b,o+k*9+6,none⟩=some (.slice (ds k).p2 (ds k).m2 (ds k).e2):=by simpa using hR 6 _ rfl
   have x7:wr.cell? ⟨b,o+k*9+7,none⟩=some (.bool (bs k).li):=by simpa using hR 7 _ rfl
   have x8:wr.cell? ⟨b,o+k*9+8,none⟩=some (.bool (bs k).hh):=by simpa using hR 8 _ rfl
   have hsd:Hid (S=(nameB (bs k).m&&((decide (k=0)||Op.bytesLess (bs (k - 1)).m.toList (bs k).m.toList)&&(!(bs k).c.lg&&!(bs k).c.vd)))):=by
    show S=_
    rw[<-hSd.out];rfl
   have hcn:(bs k).c.Nn:=⟨zaf hS.1.1,zaf hS.2.1.1,zaf hS.2.2.1.1,zaf hS.2.2.2.1.1⟩
   have hem:=em_vd hcn
   have hil:=fun z (hz:Below wr.heap.size wr z)=>ziw (g1:=(bs k).g1) (g2:=(bs k).g2) (li:=(bs k).li) (hh:=(bs k).hh) (hS.1.below hz) (hS.2.1.below hz) (hS.2.2.1.below hz) (hS.2.2.2.1.below hz) (by have:=hS.2.2.2.2.1;omega) (by have:=hS.2.2.2.2.2.1;omega) (by have:=hS.2.2.2.2.2.2.1;omega) (by have:=hS.2.2.2.2.2.2.2;omega)
   have hil:Hid (CA wr 62 #[.agg #[.bool (bs k).g1,.slice (ds k).q1 (ds k).l1 (ds k).c1,.slice (ds k).p1 (ds k).m1 (ds k).e1,.bool (bs k).g2,.slice (ds k).q2 (ds k).l2 (ds k).c2,.slice (ds k).p2 (ds k).m2 (ds k).e2,.bool (bs k).li,.bool (bs k).hh]] (.bool (bs k).c.lg)):=hil
   have hio:=fun z (hz:Below wr.heap.size wr z)=>iof_ok (g1:=(bs k).g1) (g2:=(bs k).g2) (hS.1.below hz) (hS.2.1.below hz) (hS.2.2.1.below hz) (hS.2.2.2.1.below hz) (by have:=hS.2.2.2.2.1;omega) (by have:=hS.2.2.2.2.2.1;omega) (by have:=hS.2.2.2.2.2.2.1;omega) (by have:=hS.2.2.2.2.2.2.2;omega) (bs k).li (bs k).hh
   have hio:Hid (∀z,Below wr.heap.size wr z->Calls Tryz.prog 17 #[.agg #[.bool (bs k).g1,.slice (ds k).q1 (ds k).l1 (ds k).c1,.slice (ds k).p1 (ds k).m1 (ds k).e1,.bool (bs k).g2,.slice (ds k).q2 (ds k).l2 (ds k).c2,.slice (ds k).p2 (ds k).m2 (ds k).e2,.bool (bs k).li,.bool (bs k).hh]] z fun e w'=>∃v,e=.returned v/\IAt w' v (bs k).c.v/\Below z.heap.size z w'):=hio
   have hio:Hid (∀z,Below wr.heap.size wr z->Calls Tryz.prog 17 #[.agg #[.bool (bs k).g1,.slice (ds k).q1 (ds k).l1 (ds k).c1,.slice (ds k).p1 (ds k).m1 (ds k).e1,.bool (bs k).g2,.slice (ds k).q2 (ds k).l2 (ds k).c2,.slice (ds k).p2 (ds k).m2 (ds k).e2,.bool (bs k).li,.bool (bs k).hh]] z fun e w'=>∃a0 a1 a2 a3 a4 a5 a6 a7 a8 a9 b0 b1 b2 b3 b4 b5,e=.returned (.agg #[.bool a0,.slice a1 a2 a3,.slice a4 a5 a6,.bool a7,.slice a8 a9 b0,.slice b1 b2 b3,.bool b4,.bool b5,.bool (bs k).c.vd])/\Below z.heap.size z w'):=fun z hz=>(hio.out z hz).mono fun e w' h=>by
    obtain⟨v,rfl,⟨a1,b1,a2,b2,rfl,hq1,hq2⟩,hb⟩:=h
    rw[hem]
    obtain⟨_,_,_,_,e1,s1,_,_,s2,_,_⟩:=hq1
    obtain⟨_,_,_,_,e2,s3,_,_,s4,_,_⟩:=hq2
    simp only[Value.agg.injEq,Array.mk.injEq,List.cons.injEq,and_true,true_and] at e1 e2
    obtain⟨rfl,rfl⟩:=e1
    obtain⟨rfl,rfl⟩:=e2
    obtain⟨_,_,rfl⟩:=s1.form
    obtain⟨_,_,rfl⟩:=s2.form
    obtain⟨_,_,rfl⟩:=s3.form
    obtain⟨_,_,rfl⟩:=s4.form
    exact⟨_,_,_,_,_,_,_,_,_,_,_,_,_,_,_,_,rfl,hb⟩
   clear hR hS hem hcn
   obtain⟨LG,hLG⟩:∃b,(bs k).c.lg=b:=⟨_,rfl⟩
   obtain⟨VD,hVD⟩:∃b,(bs k).c.vd=b:=⟨_,rfl⟩
   rw[hLG] at hil
   rw[hVD] at hio
   rw[hLG,hVD] at hsd
   clear hLG hVD
   generalize (bs k).m=m at*
   generalize (bs k).g1=g1 at*
   generalize (bs k).g2=g2 at*
   generalize (bs k).li=li at*
   generalize (bs k).hh=hh at*
   generalize (ds k).q1=q1 at*
   generalize (ds k).l1=l1 at*
   generalize (ds k).c1=c1 at*
   generalize (ds k).p1=p1 at*
   generalize (ds k).m1=m1 at*
   generalize (ds k).e1=e1 at*
   generalize (ds k).q2=q2 at*
   generalize (ds k).l2=l2 at*
   generalize (ds k).c2=c2 at*
   generalize (ds k).p2=p2 at*
   generalize (ds k).m2=m2 at*
   generalize (ds k).e2=e2 at*
   have B1:Below wr.heap.size wr (wr.alloc (.cells (jA m g1 q1 l1 c1 p1 m1 e1 g2 q2 l2 c2 p2 m2 e2 li hh) 58)):=zaa wr _
   go_upto_region 6 with fail
   have BW:=zac (hbw.trans (B1.mono hbw.size))
   have i7:Hid (∀z,Below (wr.alloc (.cells (jA m g1 q1 l1 c1 p1 m1 e1 g2 q2 l2 c2 p2 m2 e2 li hh) 58)).heap.size (wr.alloc (.cells (jA m g1 q1 l1 c1 p1 m1 e1 g2 q2 l2 c2 p2 m2 e2 li hh) 58)) z->Calls Tryz.prog 62 #[.agg (iA g1 q1 l1 c1 p1 m1 e1 g2 q2 l2 c2 p2 m2 e2 li hh)] z fun e w'=>e=.returned (.bool LG)/\Below z.heap.size z w'):=fun z hz=>hil.out z (B1.trans (hz.mono B1.size))
   have i9:Hid (∀z,Below (wr.alloc (.cells (jA m g1 q1 l1 c1 p1 m1 e1 g2 q2 l2 c2 p2 m2 e2 li hh) 58)).heap.size (wr.alloc (.cells (jA m g1 q1 l1 c1 p1 m1 e1 g2 q2 l2 c2 p2 m2 e2 li hh) 58)) z->Calls Tryz.prog 17 #[.agg (iA g1 q1 l1 c1 p1 m1 e1 g2 q2 l2 c2 p2 m2 e2 li hh)] z fun e w'=>∃a0 a1 a2 a3 a4 a5 a6 a7 a8 a9 b0 b1 b2 b3 b4 b5,e=.returned (.agg (iB a0 a1 a2 a3 a4 a5 a6 a7 a8 a9 b0 b1 b2 b3 b4 b5 VD))/\Below z.heap.size z w'):=fun z hz=>hio.out z (B1.trans (hz.mono B1.size))
   have JB:BlkI (wr.alloc (.cells (jA m g1 q1 l1 c1 p1 m1 e1 g2 q2 l2 c2 p2 m2 e2 li hh) 58)) wr.heap.size 58 (jA m g1 q1 l1 c1 p1 m1 e1 g2 q2 l2 c2 p2 m2 e2 li hh):=heap_alloc_new _ _
   have hwP:w.heap.size<=wr.heap.size:=hbw.size
   clear x0 x1 x2 x3 x4 x5 x6 x7 x8 hil hio B1
   generalize wr.alloc (.cells (jA m g1 q1 l1 c1 p1 m1 e1 g2 q2 l2 c2 p2 m2 e2 li hh) 58)=W at*
   generalize wr.heap.size=P at*
   clear hbw
   have hnm:=zim m W.drew
   have BW':Hid (Below w.heap.size w W.drew):=BW.out.drew
   have cj:b<W.drew.heap.size:=by have:=BW'.out.size;omega
   have cN:Hid (∀z,Below W.drew.heap.size W.drew z->Calls Tryz.prog 62 #[.agg (iA g1 q1 l1 c1 p1 m1 e1 g2 q2 l2 c2 p2 m2 e2 li hh)] z fun e w'=>e=.returned (.bool LG)/\Below z.heap.size z w'):=fun z hz=>i7.out z ((zaj (Below.refl W.heap.size W) 1).trans hz)
   have dS:Hid (∀z,Below W.drew.heap.size W.drew z->Calls Tryz.prog 17 #[.agg (iA g1 q1 l1 c1 p1 m1 e1 g2 q2 l2 c2 p2 m2 e2 li hh)] z fun e w'=>∃a0 a1 a2 a3 a4 a5 a6 a7 a8 a9 b0 b1 b2 b3 b4 b5,e=.returned (.agg (iB a0 a1 a2 a3 a4 a5 a6 a7 a8 a9 b0 b1 b2 b3 b4 b5 VD))/\Below z.heap.size z w'):=fun z hz=>i9.out z ((zaj (Below.refl W.heap.size W) 1).trans hz)
   have JB:BlkI W.drew P 58 (jA m g1 q1 l1 c1 p1 m1 e1 g2 q2 l2 c2 p2 m2 e2 li hh):=JB
   cases hN:nameB m with
   | false=>
    rw[hN] at hnm hsd
    clear hN
    have hS0:(fun z=>BlkI z P 58 (jA m g1 q1 l1 c1 p1 m1 e1 g2 q2 l2 c2 p2 m2 e2 li hh)/\True) W.drew:=⟨JB,trivial⟩
    refine wp_region_held_drew (S:=(fun z=>BlkI z P 58 (jA m g1 q1 l1 c1 p1 m1 e1 g2 q2 l2 c2 p2 m2 e2 li hh)/\True)) (by kernel_rfl) hS0 (fun ah=>?_)
    refine tk 0 (.pointer (some ⟨P,0,none⟩)) rfl ah ?_
    simp only[pz]
    refine tk 1 (.string m) rfl ah ?_ (.inl ⟨by rfl,fun z hSz=>by(have h0:=hSz.1.cell 0;go_simp)⟩)
    simp only[pz]
    refine rdy 2 rfl (fun K hK=>?_)
    go_simp
    with_reducible refine hnm.mono ?_
    rintro e w3 ⟨rfl,hb3⟩
    have BW3:Hid (Below w.heap.size w w3):=BW'.out.trans (hb3.mono BW'.out.size)
    have bv:b<w3.heap.size:=Nat.lt_of_lt_of_le cj hb3.size
    have hS3:(fun z=>BlkI z P 58 (jA m g1 q1 l1 c1 p1 m1 e1 g2 q2 l2 c2 p2 m2 e2 li hh)/\True) w3:=⟨hS0.1.below hb3,trivial⟩
    refine hK.out _ _ hS3 (fun af=>?_)
    clear hK K ah
    try simp only[pz]
    refine tk 3 (.bool true) rfl af ?_
    simp only[pz]
    refine tk 4 (.bool true) rfl af ?_
    simp only[pz]
    refine tk 5 undef rfl af ?_ (.inr ⟨by rfl,rfl⟩)
    simp only[pz]
    refine tk 6 undef rfl af ?_ (.inr ⟨by rfl,rfl⟩)
    simp only[pz]
    refine tk 7 undef rfl af ?_ (.inr ⟨by rfl,rfl⟩)
    simp only[pz]
    refine tk 8 undef rfl af ?_ (.inr ⟨by rfl,rfl⟩)
    simp only[pz]
    refine tk 9 undef rfl af ?_ (.inr ⟨by rfl,rfl⟩)
    simp only[pz]
    refine tk 10 undef rfl af ?_ (.inr ⟨by rfl,rfl⟩)
    simp only[pz]
    refine tk 11 undef rfl af ?_ (.inr ⟨by rfl,rfl⟩)
    simp only[pz]
    refine tk 12 undef rfl af ?_ (.inr ⟨by rfl,rfl⟩)
    simp only[pz]
    refine tk 13 undef rfl af ?_ (.inr ⟨by rfl,rfl⟩)
    simp only[pz]
    refine tk 14 undef rfl af ?_ (.inr ⟨by rfl,rfl⟩)
    simp only[pz]
    refine tk 15 undef rfl af ?_ (.inr ⟨by rfl,rfl⟩)
    simp only[pz]
    refine tk 16 undef rfl af ?_ (.inr ⟨by rfl,rfl⟩)
    simp only[pz]
    refine tk 17 undef rfl af ?_ (.inr ⟨by rfl,rfl⟩)
    simp only[pz]
    refine tk 18 (.bool true) rfl af ?_
    simp only[pz]
    refine tk 19 (.bool true) rfl af ?_
    simp only[pz]
    refine tk 20 undef rfl af ?_ (.inr ⟨by rfl,rfl⟩)
    simp only[pz]
    refine tk 21 undef rfl af ?_ (.inr ⟨by rfl,rfl⟩)
    simp only[pz]
    refine tk 22 undef rfl af ?_ (.inr ⟨by rfl,rfl⟩)
    simp only[pz]
    refine tk 23 (.bool true) rfl af ?_
    simp only[pz]
    refine tk 24 (.bool true) rfl af ?_
    simp only[pz]
    refine tk 25 undef rfl af ?_ (.inr ⟨by rfl,rfl⟩)
    simp only[pz]
    refine tk 26 undef rfl af ?_ (.inr ⟨by rfl,rfl⟩)
    simp only[pz]
    refine tk 27 undef rfl af ?_ (.inr ⟨by rfl,rfl⟩)
    simp only[pz]
    refine tk 28 undef rfl af ?_ (.inr ⟨by rfl,rfl⟩)
    simp only[pz]
    refine tk 29 (.bool true) rfl af ?_
    simp only[pz]
    refine wpAnyH_done (by kernel_rfl) ?_ _
    go_wp2_with fail
    go_ret
    exact⟨by rw[zbo hlt (by rw[hSd.out,hsd.out];rfl)];rfl,BW3.out⟩
   | true=>
    rw[hN] at hnm hsd
    clear hN
    cases k with
    | zero=>
     cases LG with
     | true=>
      have hS0:(fun z=>BlkI z P 58 (jA m g1 q1 l1 c1 p1 m1 e1 g2 q2 l2 c2 p2 m2 e2 li hh)/\True) W.drew:=⟨JB,trivial⟩
      refine wp_region_held_drew (S:=(fun z=>BlkI z P 58 (jA m g1 q1 l1 c1 p1 m1 e1 g2 q2 l2 c2 p2 m2 e2 li hh)/\True)) (by kernel_rfl) hS0 (fun ah=>?_)
      refine tk 0 (.pointer (some ⟨P,0,none⟩)) rfl ah ?_
      simp only[pz]
      refine tk 1 (.string m) rfl ah ?_ (.inl ⟨by rfl,fun z hSz=>by(have h0:=hSz.1.cell 0;go_simp)⟩)
      simp only[pz]
      refine rdy 2 rfl (fun K hK=>?_)
      go_simp
      with_reducible refine hnm.mono ?_
      rintro e w3 ⟨rfl,hb3⟩
      have BW3:Hid (Below w.heap.size w w3):=BW'.out.trans (hb3.mono BW'.out.size)
      have bv:b<w3.heap.size:=Nat.lt_of_lt_of_le cj hb3.size
      have hS3:(fun z=>BlkI z P 58 (jA m g1 q1 l1 c1 p1 m1 e1 g2 q2 l2 c2 p2 m2 e2 li hh)/\True) w3:=⟨hS0.1.below hb3,trivial⟩
      refine hK.out _ _ hS3 (fun af=>?_)
      clear hK K ah
      try simp only[pz]
      refine tk 3 (.bool false) rfl af ?_
      simp only[pz]
      refine tk 4 (.bool false) rfl af ?_
      simp only[pz]
      refine tk 5 (.int .i64 ((0:Nat):Int)) rfl af ?_
      simp only[pz]
      refine tk 6 (.bool false) rfl af ?_
      simp only[pz]
      refine tk 7 (.bool false) rfl af ?_
      simp only[pz]
      refine tk 8 undef rfl af ?_ (.inr ⟨by rfl,rfl⟩)
      simp only[pz]
      refine tk 9 undef rfl af ?_ (.inr ⟨by rfl,rfl⟩)
      simp only[pz]
      refine tk 10 undef rfl af ?_ (.inr ⟨by rfl,rfl⟩)
      simp only[pz]
      refine tk 11 undef rfl af ?_ (.inr ⟨by rfl,rfl⟩)
      simp only[pz]
      refine tk 12 undef rfl af ?_ (.inr ⟨by rfl,rfl⟩)
      simp only[pz]
      refine tk 13 undef rfl af ?_ (.inr ⟨by rfl,rfl⟩)
      simp only[pz]
      refine tk 14 undef rfl af ?_ (.inr ⟨by rfl,rfl⟩)
      simp only[pz]
      refine tk 15 undef rfl af ?_ (.inr ⟨by rfl,rfl⟩)
      simp only[pz]
      refine tk 16 undef rfl af ?_ (.inr ⟨by rfl,rfl⟩)
      simp only[pz]
      refine tk 17 (.bool false) rfl af ?_
      simp only[pz]
      refine tk 18 (.bool false) rfl af ?_
      simp only[pz]
      refine tk 19 (.bool false) rfl af ?_
      simp only[pz]
      refine tk 20 (.pointer (some ⟨P,1,none⟩)) rfl af ?_
      simp only[pz]
      refine tk 21 (.agg (iA g1 q1 l1 c1 p1 m1 e1 g2 q2 l2 c2 p2 m2 e2 li hh)) rfl af ?_ (.inl ⟨by rfl,fun z hSz=>by(have h1:=hSz.1.cell 1;have h2:=hSz.1.cell 2;have h3:=hSz.1.cell 3;have h4:=hSz.1.cell 4;have h5:=hSz.1.cell 5;have h6:=hSz.1.cell 6;have h7:=hSz.1.cell 7;have h8:=hSz.1.cell 8;go_simp)⟩)
      simp only[pz]
      refine rdy 22 rfl (fun K hK=>?_)
      go_simp
      refine(cN.out w3 hb3).mono ?_
      rintro e w4 ⟨rfl,hb4⟩
      have BW4:Hid (Below w.heap.size w w4):=BW3.out.trans (hb4.mono BW3.out.size)
      have dE:b<w4.heap.size:=Nat.lt_of_lt_of_le bv hb4.size
      have hS4:(fun z=>BlkI z P 58 (jA m g1 q1 l1 c1 p1 m1 e1 g2 q2 l2 c2 p2 m2 e2 li hh)/\True) w4:=⟨hS3.1.below hb4,trivial⟩
      refine hK.out _ _ hS4 (fun al=>?_)
      clear hK K af
      try simp only[pz]
      refine tk 23 (.bool true) rfl al ?_
      simp only[pz]
      refine tk 24 (.bool true) rfl al ?_
      simp only[pz]
      refine tk 25 undef rfl al ?_ (.inr ⟨by rfl,rfl⟩)
      simp only[pz]
      refine tk 26 undef rfl al ?_ (.inr ⟨by rfl,rfl⟩)
      simp only[pz]
      refine tk 27 undef rfl al ?_ (.inr ⟨by rfl,rfl⟩)
      simp only[pz]
      refine tk 28 undef rfl al ?_ (.inr ⟨by rfl,rfl⟩)
      simp only[pz]
      refine tk 29 (.bool true) rfl al ?_
      simp only[pz]
      refine wpAnyH_done (by kernel_rfl) ?_ _
      go_wp2_with fail
      go_ret
      exact⟨by rw[zbo hlt (by rw[hSd.out,hsd.out];simp)];rfl,BW4.out⟩
     | false=>
      cases VD with
      | true=>
       have hS0:(fun z=>BlkI z P 58 (jA m g1 q1 l1 c1 p1 m1 e1 g2 q2 l2 c2 p2 m2 e2 li hh)/\True) W.drew:=⟨JB,trivial⟩
       refine wp_region_held_drew (S:=(fun z=>BlkI z P 58 (jA m g1 q1 l1 c1 p1 m1 e1 g2 q2 l2 c2 p2 m2 e2 li hh)/\True)) (by kernel_rfl) hS0 (fun ah=>?_)
       refine tk 0 (.pointer (some ⟨P,0,none⟩)) rfl ah ?_
       simp only[pz]
       refine tk 1 (.string m) rfl ah ?_ (.inl ⟨by rfl,fun z hSz=>by(have h0:=hSz.1.cell 0;go_simp)⟩)
       simp only[pz]
       refine rdy 2 rfl (fun K hK=>?_)
       go_simp
       with_reducible refine hnm.mono ?_
       rintro e w3 ⟨rfl,hb3⟩
       have BW3:Hid (Below w.heap.size w w3):=BW'.out.trans (hb3.mono BW'.out.size)
       have bv:b<w3.heap.size:=Nat.lt_of_lt_of_le cj hb3.size
       have hS3:(fun z=>BlkI z P 58 (jA m g1 q1 l1 c1 p1 m1 e1 g2 q2 l2 c2 p2 m2 e2 li hh)/\True) w3:=⟨hS0.1.below hb3,trivial⟩
       refine hK.out _ _ hS3 (fun af=>?_)
       clear hK K ah
       try simp only[pz]
       refine tk 3 (.bool false) rfl af ?_
       simp only[pz]
       refine tk 4 (.bool false) rfl af ?_
       simp only[pz]
       refine tk 5 (.int .i64 ((0:Nat):Int)) rfl af ?_
       simp only[pz]
       refine tk 6 (.bool false) rfl af ?_
       simp only[pz]
       refine tk 7 (.bool false) rfl af ?_
       simp only[pz]
       refine tk 8 undef rfl af ?_ (.inr ⟨by rfl,rfl⟩)
       simp only[pz]
       refine tk 9 undef rfl af ?_ (.inr ⟨by rfl,rfl⟩)
       simp only[pz]
       refine tk 10 undef rfl af ?_ (.inr ⟨by rfl,rfl⟩)
       simp only[pz]
       refine tk 11 undef rfl af ?_ (.inr ⟨by rfl,rfl⟩)
       simp only[pz]
       refine tk 12 undef rfl af ?_ (.inr ⟨by rfl,rfl⟩)
       simp only[pz]
       refine tk 13 undef rfl af ?_ (.inr ⟨by rfl,rfl⟩)
       simp only[pz]
       refine tk 14 undef rfl af ?_ (.inr ⟨by rfl,rfl⟩)
       simp only[pz]
       refine tk 15 undef rfl af ?_ (.inr ⟨by rfl,rfl⟩)
       simp only[pz]
       refine tk 16 undef rfl af ?_ (.inr ⟨by rfl,rfl⟩)
       simp only[pz]
       refine tk 17 (.bool false) rfl af ?_
       simp only[pz]
       refine tk 18 (.bool false) rfl af ?_
       simp only[pz]
       refine tk 19 (.bool false) rfl af ?_
       simp only[pz]
       refine tk 20 (.pointer (some ⟨P,1,none⟩)) rfl af ?_
       simp only[pz]
       refine tk 21 (.agg (iA g1 q1 l1 c1 p1 m1 e1 g2 q2 l2 c2 p2 m2 e2 li hh)) rfl af ?_ (.inl ⟨by rfl,fun z hSz=>by(have h1:=hSz.1.cell 1;have h2:=hSz.1.cell 2;have h3:=hSz.1.cell 3;have h4:=hSz.1.cell 4;have h5:=hSz.1.cell 5;have h6:=hSz.1.cell 6;have h7:=hSz.1.cell 7;have h8:=hSz.1.cell 8;go_simp)⟩)
       simp only[pz]
       refine rdy 22 rfl (fun K hK=>?_)
       go_simp
       refine(cN.out w3 hb3).mono ?_
       rintro e w4 ⟨rfl,hb4⟩
       have BW4:Hid (Below w.heap.size w w4):=BW3.out.trans (hb4.mono BW3.out.size)
       have dE:b<w4.heap.size:=Nat.lt_of_lt_of_le bv hb4.size
       have hS4:(fun z=>BlkI z P 58 (jA m g1 q1 l1 c1 p1 m1 e1 g2 q2 l2 c2 p2 m2 e2 li hh)/\True) w4:=⟨hS3.1.below hb4,trivial⟩
       refine hK.out _ _ hS4 (fun al=>?_)
       clear hK K af
       try simp only[pz]
       refine tk 23 (.bool false) rfl al ?_
       simp only[pz]
       refine tk 24 (.bool false) rfl al ?_
       simp only[pz]
       refine tk 25 (.pointer (some ⟨P,1,none⟩)) rfl al ?_
       simp only[pz]
       refine tk 26 (.agg (iA g1 q1 l1 c1 p1 m1 e1 g2 q2 l2 c2 p2 m2 e2 li hh)) rfl al ?_ (.inl ⟨by rfl,fun z hSz=>by(have h1:=hSz.1.cell 1;have h2:=hSz.1.cell 2;have h3:=hSz.1.cell 3;have h4:=hSz.1.cell 4;have h5:=hSz.1.cell 5;have h6:=hSz.1.cell 6;have h7:=hSz.1.cell 7;have h8:=hSz.1.cell 8;go_simp)⟩)
       simp only[pz]
       refine rdy 27 rfl (fun K hK=>?_)
       go_simp
       refine(dS.out w4 (hb3.trans (hb4.mono hb3.size))).mono ?_
       rintro e w5 ⟨a0,a1,a2,a3,a4,a5,a6,a7,a8,a9,b0,b1,b2,b3,b4,b5,rfl,hb5⟩
       have BW5:Hid (Below w.heap.size w w5):=BW4.out.trans (hb5.mono BW4.out.size)
       have hS5:(fun z=>BlkI z P 58 (jA m g1 q1 l1 c1 p1 m1 e1 g2 q2 l2 c2 p2 m2 e2 li hh)/\True) w5:=⟨hS4.1.below hb5,trivial⟩
       refine hK.out _ _ hS5 (fun aJ=>?_)
       clear hK K al
       try simp only[pz]
       refine tk 28 (.bool true) rfl aJ ?_ (.inl ⟨by rfl,fun z hSz=>by(have hfl:=fld66 (a0:=a0) (a7:=a7) (b4:=b4) (b5:=b5) (v:=true) (a1:=a1) (a4:=a4) (a8:=a8) (b1:=b1) (a2:=a2) (a3:=a3) (a5:=a5) (a6:=a6) (a9:=a9) (b0:=b0) (b2:=b2) (b3:=b3) z;go_simp)⟩)
       simp only[pz]
       refine tk 29 (.bool true) rfl aJ ?_
       simp only[pz]
       refine wpAnyH_done (by kernel_rfl) ?_ _
       go_wp2_with fail
       go_ret
       exact⟨by rw[zbo hlt (by rw[hSd.out,hsd.out];simp)];rfl,BW5.out⟩
      | false=>
       have hS0:(fun z=>BlkI z P 58 (jA m g1 q1 l1 c1 p1 m1 e1 g2 q2 l2 c2 p2 m2 e2 li hh)/\True) W.drew:=⟨JB,trivial⟩
       refine wp_region_held_drew (S:=(fun z=>BlkI z P 58 (jA m g1 q1 l1 c1 p1 m1 e1 g2 q2 l2 c2 p2 m2 e2 li hh)/\True)) (by kernel_rfl) hS0 (fun ah=>?_)
       refine tk 0 (.pointer (some ⟨P,0,none⟩)) rfl ah ?_
       simp only[pz]
       refine tk 1 (.string m) rfl ah ?_ (.inl ⟨by rfl,fun z hSz=>by(have h0:=hSz.1.cell 0;go_simp)⟩)
       simp only[pz]
       refine rdy 2 rfl (fun K hK=>?_)
       go_simp
       with_reducible refine hnm.mono ?_
       rintro e w3 ⟨rfl,hb3⟩
       have BW3:Hid (Below w.heap.size w w3):=BW'.out.trans (hb3.mono BW'.out.size)
       have bv:b<w3.heap.size:=Nat.lt_of_lt_of_le cj hb3.size
       have hS3:(fun z=>BlkI z P 58 (jA m g1 q1 l1 c1 p1 m1 e1 g2 q2 l2 c2 p2 m2 e2 li hh)/\True) w3:=⟨hS0.1.below hb3,trivial⟩
       refine hK.out _ _ hS3 (fun af=>?_)
       clear hK K ah
       try simp only[pz]
       refine tk 3 (.bool false) rfl af ?_
       simp only[pz]
       refine tk 4 (.bool false) rfl af ?_
       simp only[pz]
       refine tk 5 (.int .i64 ((0:Nat):Int)) rfl af ?_
       simp only[pz]
       refine tk 6 (.bool false) rfl af ?_
       simp only[pz]
       refine tk 7 (.bool false) rfl af ?_
       simp only[pz]
       refine tk 8 undef rfl af ?_ (.inr ⟨by rfl,rfl⟩)
       simp only[pz]
       refine tk 9 undef rfl af ?_ (.inr ⟨by rfl,rfl⟩)
       simp only[pz]
       refine tk 10 undef rfl af ?_ (.inr ⟨by rfl,rfl⟩)
       simp only[pz]
       refine tk 11 undef rfl af ?_ (.inr ⟨by rfl,rfl⟩)
       simp only[pz]
       refine tk 12 undef rfl af ?_ (.inr ⟨by rfl,rfl⟩)
       simp only[pz]
       refine tk 13 undef rfl af ?_ (.inr ⟨by rfl,rfl⟩)
       simp only[pz]
       refine tk 14 undef rfl af ?_ (.inr ⟨by rfl,rfl⟩)
       simp only[pz]
       refine tk 15 undef rfl af ?_ (.inr ⟨by rfl,rfl⟩)
       simp only[pz]
       refine tk 16 undef rfl af ?_ (.inr ⟨by rfl,rfl⟩)
       simp only[pz]
       refine tk 17 (.bool false) rfl af ?_
       simp only[pz]
       refine tk 18 (.bool false) rfl af ?_
       simp only[pz]
       refine tk 19 (.bool false) rfl af ?_
       simp only[pz]
       refine tk 20 (.pointer (some ⟨P,1,none⟩)) rfl af ?_
       simp only[pz]
       refine tk 21 (.agg (iA g1 q1 l1 c1 p1 m1 e1 g2 q2 l2 c2 p2 m2 e2 li hh)) rfl af ?_ (.inl ⟨by rfl,fun z hSz=>by(have h1:=hSz.1.cell 1;have h2:=hSz.1.cell 2;have h3:=hSz.1.cell 3;have h4:=hSz.1.cell 4;have h5:=hSz.1.cell 5;have h6:=hSz.1.cell 6;have h7:=hSz.1.cell 7;have h8:=hSz.1.cell 8;go_simp)⟩)
       simp only[pz]
       refine rdy 22 rfl (fun K hK=>?_)
       go_simp
       refine(cN.out w3 hb3).mono ?_
       rintro e w4 ⟨rfl,hb4⟩
       have BW4:Hid (Below w.heap.size w w4):=BW3.out.trans (hb4.mono BW3.out.size)
       have dE:b<w4.heap.size:=Nat.lt_of_lt_of_le bv hb4.size
       have hS4:(fun z=>BlkI z P 58 (jA m g1 q1 l1 c1 p1 m1 e1 g2 q2 l2 c2 p2 m2 e2 li hh)/\True) w4:=⟨hS3.1.below hb4,trivial⟩
       refine hK.out _ _ hS4 (fun al=>?_)
       clear hK K af
       try simp only[pz]
       refine tk 23 (.bool false) rfl al ?_
       simp only[pz]
       refine tk 24 (.bool false) rfl al ?_
       simp only[pz]
       refine tk 25 (.pointer (some ⟨P,1,none⟩)) rfl al ?_
       simp only[pz]
       refine tk 26 (.agg (iA g1 q1 l1 c1 p1 m1 e1 g2 q2 l2 c2 p2 m2 e2 li hh)) rfl al ?_ (.inl ⟨by rfl,fun z hSz=>by(have h1:=hSz.1.cell 1;have h2:=hSz.1.cell 2;have h3:=hSz.1.cell 3;have h4:=hSz.1.cell 4;have h5:=hSz.1.cell 5;have h6:=hSz.1.cell 6;have h7:=hSz.1.cell 7;have h8:=hSz.1.cell 8;go_simp)⟩)
       simp only[pz]
       refine rdy 27 rfl (fun K hK=>?_)
       go_simp
       refine(dS.out w4 (hb3.trans (hb4.mono hb3.size))).mono ?_
       rintro e w5 ⟨a0,a1,a2,a3,a4,a5,a6,a7,a8,a9,b0,b1,b2,b3,b4,b5,rfl,hb5⟩
       have BW5:Hid (Below w.heap.size w w5):=BW4.out.trans (hb5.mono BW4.out.size)
       have hS5:(fun z=>BlkI z P 58 (jA m g1 q1 l1 c1 p1 m1 e1 g2 q2 l2 c2 p2 m2 e2 li hh)/\True) w5:=⟨hS4.1.below hb5,trivial⟩
       refine hK.out _ _ hS5 (fun aJ=>?_)
       clear hK K al
       try simp only[pz]
       refine tk 28 (.bool false) rfl aJ ?_ (.inl ⟨by rfl,fun z hSz=>by(have hfl:=fld66 (a0:=a0) (a7:=a7) (b4:=b4) (b5:=b5) (v:=false) (a1:=a1) (a4:=a4) (a8:=a8) (b1:=b1) (a2:=a2) (a3:=a3) (a5:=a5) (a6:=a6) (a9:=a9) (b0:=b0) (b2:=b2) (b3:=b3) z;go_simp)⟩)
       simp only[pz]
       refine tk 29 (.bool false) rfl aJ ?_
       simp only[pz]
       refine wpAnyH_done (by kernel_rfl) ?_ _
       go_wp2_with fail
       go_roundw
       case rel=>
        refine⟨0+1,by omega,by go_num,fun j hj=>?_,BW5.out⟩
        rcases Nat.lt_or_ge j 0 with h | h
        ·exact aN.out j h
        ·obtain rfl:j=0:=by omega
         rw[hSd.out,hsd.out]
         simp
       case measure=>simp[intOf];omega
    | succ i=>
     have hi1:((i+1:Nat):Int) - 1=(i:Int):=by omega
     have hi0:((i+1:Nat):Int) > 0:=by omega
     have hni:¬n<=i:=by omega
     have hin:i<n:=by omega
     have wi:IntKind.i64.wrap (i:Int)=(i:Int):=by rw[IntKind.wrap_i64];omega
     have yv:W.drew.cell? ⟨b,o+i*9,none⟩=some (.string (bs i).m):=hne.out W.drew BW'.out i rfl
     simp only[Nat.add_sub_cancel] at hsd
     generalize (bs i).m=mp at*
     cases hq:Op.bytesLess mp.toList m.toList with
     | false=>
      rw[hq] at hsd
      have hS0:(SKd P m g1 q1 l1 c1 p1 m1 e1 g2 q2 l2 c2 p2 m2 e2 li hh b o i mp) W.drew:=⟨JB,yv⟩
      refine wp_region_held_drew (S:=(SKd P m g1 q1 l1 c1 p1 m1 e1 g2 q2 l2 c2 p2 m2 e2 li hh b o i mp)) (by kernel_rfl) hS0 (fun ah=>?_)
      refine tk 0 (.pointer (some ⟨P,0,none⟩)) rfl ah ?_
      simp only[pz]
      refine tk 1 (.string m) rfl ah ?_ (.inl ⟨by rfl,fun z hSz=>by(have h0:=hSz.1.cell 0;go_simp)⟩)
      simp only[pz]
      refine rdy 2 rfl (fun K hK=>?_)
      go_simp
      with_reducible refine hnm.mono ?_
      rintro e w3 ⟨rfl,hb3⟩
      have BW3:Hid (Below w.heap.size w w3):=BW'.out.trans (hb3.mono BW'.out.size)
      have bv:b<w3.heap.size:=Nat.lt_of_lt_of_le cj hb3.size
      have hS3:(SKd P m g1 q1 l1 c1 p1 m1 e1 g2 q2 l2 c2 p2 m2 e2 li hh b o i mp) w3:=⟨hS0.1.below hb3,(hb3.cell (p:=⟨b,o+i*9,none⟩) (by exact cj)).trans hS0.2⟩
      refine hK.out _ _ hS3 (fun af=>?_)
      clear hK K ah
      try simp only[pz]
      refine tk 3 (.bool false) rfl af ?_
      simp only[pz]
      refine tk 4 (.bool false) rfl af ?_
      simp only[pz]
      refine tk 5 (.int .i64 ((i+1:Nat):Int)) rfl af ?_
      simp only[pz]
      refine tk 6 (.bool true) rfl af ?_
      simp only[pz]
      refine tk 7 (.bool true) rfl af ?_
      simp only[pz]
      refine tk 8 (.slice (some ⟨b,o,none⟩) n c) rfl af ?_
      simp only[pz]
      refine tk 9 (.int .i64 ((i+1:Nat):Int)) rfl af ?_
      simp only[pz]
      refine tk 10 (.int .i64 (i:Int)) rfl af ?_
      simp only[pz]
      refine tk 11 (.pointer (some ⟨b,o+i*9,none⟩)) rfl af ?_
      simp only[pz]
      refine tk 12 (.pointer (some ⟨b,o+i*9,none⟩)) rfl af ?_
      simp only[pz]
      refine tk 13 (.string mp) rfl af ?_
      simp only[pz]
      refine tk 14 (.pointer (some ⟨P,0,none⟩)) rfl af ?_
      simp only[pz]
      refine tk 15 (.string m) rfl af ?_ (.inl ⟨by rfl,fun z hSz=>by(have h0:=hSz.1.cell 0;go_simp)⟩)
      simp only[pz]
      refine tk 16 (.bool true) rfl af ?_
      simp only[pz]
      refine tk 17 (.bool true) rfl af ?_
      simp only[pz]
      refine tk 18 (.bool true) rfl af ?_
      simp only[pz]
      refine tk 19 (.bool true) rfl af ?_
      simp only[pz]
      refine tk 20 undef rfl af ?_ (.inr ⟨by rfl,rfl⟩)
      simp only[pz]
      refine tk 21 undef rfl af ?_ (.inr ⟨by rfl,rfl⟩)
      simp only[pz]
      refine tk 22 undef rfl af ?_ (.inr ⟨by rfl,rfl⟩)
      simp only[pz]
      refine tk 23 (.bool true) rfl af ?_
      simp only[pz]
      refine tk 24 (.bool true) rfl af ?_
      simp only[pz]
      refine tk 25 undef rfl af ?_ (.inr ⟨by rfl,rfl⟩)
      simp only[pz]
      refine tk 26 undef rfl af ?_ (.inr ⟨by rfl,rfl⟩)
      simp only[pz]
      refine tk 27 undef rfl af ?_ (.inr ⟨by rfl,rfl⟩)
      simp only[pz]
      refine tk 28 undef rfl af ?_ (.inr ⟨by rfl,rfl⟩)
      simp only[pz]
      refine tk 29 (.bool true) rfl af ?_
      simp only[pz]
      refine wpAnyH_done (by kernel_rfl) ?_ _
      go_wp2_with fail
      go_ret
      exact⟨by rw[zbo hlt (by rw[hSd.out,hsd.out];simp)];rfl,BW3.out⟩
     | true=>
      rw[hq] at hsd
      cases LG with
      | true=>
       have hS0:(SKd P m g1 q1 l1 c1 p1 m1 e1 g2 q2 l2 c2 p2 m2 e2 li hh b o i mp) W.drew:=⟨JB,yv⟩
       refine wp_region_held_drew (S:=(SKd P m g1 q1 l1 c1 p1 m1 e1 g2 q2 l2 c2 p2 m2 e2 li hh b o i mp)) (by kernel_rfl) hS0 (fun ah=>?_)
       refine tk 0 (.pointer (some ⟨P,0,none⟩)) rfl ah ?_
       simp only[pz]
       refine tk 1 (.string m) rfl ah ?_ (.inl ⟨by rfl,fun z hSz=>by(have h0:=hSz.1.cell 0;go_simp)⟩)
       simp only[pz]
       refine rdy 2 rfl (fun K hK=>?_)
       go_simp
       with_reducible refine hnm.mono ?_
       rintro e w3 ⟨rfl,hb3⟩
       have BW3:Hid (Below w.heap.size w w3):=BW'.out.trans (hb3.mono BW'.out.size)
       have bv:b<w3.heap.size:=Nat.lt_of_lt_of_le cj hb3.size
       have hS3:(SKd P m g1 q1 l1 c1 p1 m1 e1 g2 q2 l2 c2 p2 m2 e2 li hh b o i mp) w3:=⟨hS0.1.below hb3,(hb3.cell (p:=⟨b,o+i*9,none⟩) (by exact cj)).trans hS0.2⟩
       refine hK.out _ _ hS3 (fun af=>?_)
       clear hK K ah
       try simp only[pz]
       refine tk 3 (.bool false) rfl af ?_
       simp only[pz]
       refine tk 4 (.bool false) rfl af ?_
       simp only[pz]
       refine tk 5 (.int .i64 ((i+1:Nat):Int)) rfl af ?_
       simp only[pz]
       refine tk 6 (.bool true) rfl af ?_
       simp only[pz]
       refine tk 7 (.bool true) rfl af ?_
       simp only[pz]
       refine tk 8 (.slice (some ⟨b,o,none⟩) n c) rfl af ?_
       simp only[pz]
       refine tk 9 (.int .i64 ((i+1:Nat):Int)) rfl af ?_
       simp only[pz]
       refine tk 10 (.int .i64 (i:Int)) rfl af ?_
       simp only[pz]
       refine tk 11 (.pointer (some ⟨b,o+i*9,none⟩)) rfl af ?_
       simp only[pz]
       refine tk 12 (.pointer (some ⟨b,o+i*9,none⟩)) rfl af ?_
       simp only[pz]
       refine tk 13 (.string mp) rfl af ?_
       simp only[pz]
       refine tk 14 (.pointer (some ⟨P,0,none⟩)) rfl af ?_
       simp only[pz]
       refine tk 15 (.string m) rfl af ?_ (.inl ⟨by rfl,fun z hSz=>by(have h0:=hSz.1.cell 0;go_simp)⟩)
       simp only[pz]
       refine tk 16 (.bool false) rfl af ?_
       simp only[pz]
       refine tk 17 (.bool false) rfl af ?_
       simp only[pz]
       refine tk 18 (.bool false) rfl af ?_
       simp only[pz]
       refine tk 19 (.bool false) rfl af ?_
       simp only[pz]
       refine tk 20 (.pointer (some ⟨P,1,none⟩)) rfl af ?_
       simp only[pz]
       refine tk 21 (.agg (iA g1 q1 l1 c1 p1 m1 e1 g2 q2 l2 c2 p2 m2 e2 li hh)) rfl af ?_ (.inl ⟨by rfl,fun z hSz=>by(have h1:=hSz.1.cell 1;have h2:=hSz.1.cell 2;have h3:=hSz.1.cell 3;have h4:=hSz.1.cell 4;have h5:=hSz.1.cell 5;have h6:=hSz.1.cell 6;have h7:=hSz.1.cell 7;have h8:=hSz.1.cell 8;go_simp)⟩)
       simp only[pz]
       refine rdy 22 rfl (fun K hK=>?_)
       go_simp
       refine(cN.out w3 hb3).mono ?_
       rintro e w4 ⟨rfl,hb4⟩
       have BW4:Hid (Below w.heap.size w w4):=BW3.out.trans (hb4.mono BW3.out.size)
       have dE:b<w4.heap.size:=Nat.lt_of_lt_of_le bv hb4.size
       have hS4:(SKd P m g1 q1 l1 c1 p1 m1 e1 g2 q2 l2 c2 p2 m2 e2 li hh b o i mp) w4:=⟨hS3.1.below hb4,(hb4.cell (p:=⟨b,o+i*9,none⟩) (by exact bv)).trans hS3.2⟩
       refine hK.out _ _ hS4 (fun al=>?_)
       clear hK K af
       try simp only[pz]
       refine tk 23 (.bool true) rfl al ?_
       simp only[pz]
       refine tk 24 (.bool true) rfl al ?_
       simp only[pz]
       refine tk 25 undef rfl al ?_ (.inr ⟨by rfl,rfl⟩)
       simp only[pz]
       refine tk 26 undef rfl al ?_ (.inr ⟨by rfl,rfl⟩)
       simp only[pz]
       refine tk 27 undef rfl al ?_ (.inr ⟨by rfl,rfl⟩)
       simp only[pz]
       refine tk 28 undef rfl al ?_ (.inr ⟨by rfl,rfl⟩)
       simp only[pz]
       refine tk 29 (.bool true) rfl al ?_
       simp only[pz]
       refine wpAnyH_done (by kernel_rfl) ?_ _
       go_wp2_with fail
       go_ret
       exact⟨by rw[zbo hlt (by rw[hSd.out,hsd.out];simp)];rfl,BW4.out⟩
      | false=>
       cases VD with
       | true=>
        have hS0:(SKd P m g1 q1 l1 c1 p1 m1 e1 g2 q2 l2 c2 p2 m2 e2 li hh b o i mp) W.drew:=⟨JB,yv⟩
        refine wp_region_held_drew (S:=(SKd P m g1 q1 l1 c1 p1 m1 e1 g2 q2 l2 c2 p2 m2 e2 li hh b o i mp)) (by kernel_rfl) hS0 (fun ah=>?_)
        refine tk 0 (.pointer (some ⟨P,0,none⟩)) rfl ah ?_
        simp only[pz]
        refine tk 1 (.string m) rfl ah ?_ (.inl ⟨by rfl,fun z hSz=>by(have h0:=hSz.1.cell 0;go_simp)⟩)
        simp only[pz]
        refine rdy 2 rfl (fun K hK=>?_)
        go_simp
        with_reducible refine hnm.mono ?_
        rintro e w3 ⟨rfl,hb3⟩
        have BW3:Hid (Below w.heap.size w w3):=BW'.out.trans (hb3.mono BW'.out.size)
        have bv:b<w3.heap.size:=Nat.lt_of_lt_of_le cj hb3.size
        have hS3:(SKd P m g1 q1 l1 c1 p1 m1 e1 g2 q2 l2 c2 p2 m2 e2 li hh b o i mp) w3:=⟨hS0.1.below hb3,(hb3.cell (p:=⟨b,o+i*9,none⟩) (by exact cj)).trans hS0.2⟩
        refine hK.out _ _ hS3 (fun af=>?_)
        clear hK K ah
        try simp only[pz]
        refine tk 3 (.bool false) rfl af ?_
        simp only[pz]
        refine tk 4 (.bool false) rfl af ?_
        simp only[pz]
        refine tk 5 (.int .i64 ((i+1:Nat):Int)) rfl af ?_
        simp only[pz]
        refine tk 6 (.bool true) rfl af ?_
        simp only[pz]
        refine tk 7 (.bool true) rfl af ?_
        simp only[pz]
        refine tk 8 (.slice (some ⟨b,o,none⟩) n c) rfl af ?_
        simp only[pz]
        refine tk 9 (.int .i64 ((i+1:Nat):Int)) rfl af ?_
        simp only[pz]
        refine tk 10 (.int .i64 (i:Int)) rfl af ?_
        simp only[pz]
        refine tk 11 (.pointer (some ⟨b,o+i*9,none⟩)) rfl af ?_
        simp only[pz]
        refine tk 12 (.pointer (some ⟨b,o+i*9,none⟩)) rfl af ?_
        simp only[pz]
        refine tk 13 (.string mp) rfl af ?_
        simp only[pz]
        refine tk 14 (.pointer (some ⟨P,0,none⟩)) rfl af ?_
        simp only[pz]
        refine tk 15 (.string m) rfl af ?_ (.inl ⟨by rfl,fun z hSz=>by(have h0:=hSz.1.cell 0;go_simp)⟩)
        simp only[pz]
        refine tk 16 (.bool false) rfl af ?_
        simp only[pz]
        refine tk 17 (.bool false) rfl af ?_
        simp only[pz]
        refine tk 18 (.bool false) rfl af ?_
        simp only[pz]
        refine tk 19 (.bool false) rfl af ?_
        simp only[pz]
        refine tk 20 (.pointer (some ⟨P,1,none⟩)) rfl af ?_
        simp only[pz]
        refine tk 21 (.agg (iA g1 q1 l1 c1 p1 m1 e1 g2 q2 l2 c2 p2 m2 e2 li hh)) rfl af ?_ (.inl ⟨by rfl,fun z hSz=>by(have h1:=hSz.1.cell 1;have h2:=hSz.1.cell 2;have h3:=hSz.1.cell 3;have h4:=hSz.1.cell 4;have h5:=hSz.1.cell 5;have h6:=hSz.1.cell 6;have h7:=hSz.1.cell 7;have h8:=hSz.1.cell 8;go_simp)⟩)
        simp only[pz]
        refine rdy 22 rfl (fun K hK=>?_)
        go_simp
        refine(cN.out w3 hb3).mono ?_
        rintro e w4 ⟨rfl,hb4⟩
        have BW4:Hid (Below w.heap.size w w4):=BW3.out.trans (hb4.mono BW3.out.size)
        have dE:b<w4.heap.size:=Nat.lt_of_lt_of_le bv hb4.size
        have hS4:(SKd P m g1 q1 l1 c1 p1 m1 e1 g2 q2 l2 c2 p2 m2 e2 li hh b o i mp) w4:=⟨hS3.1.below hb4,(hb4.cell (p:=⟨b,o+i*9,none⟩) (by exact bv)).trans hS3.2⟩
        refine hK.out _ _ hS4 (fun al=>?_)
        clear hK K af
        try simp only[pz]
        refine tk 23 (.bool false) rfl al ?_
        simp only[pz]
        refine tk 24 (.bool false) rfl al ?_
        simp only[pz]
        refine tk 25 (.pointer (some ⟨P,1,none⟩)) rfl al ?_
        simp only[pz]
        refine tk 26 (.agg (iA g1 q1 l1 c1 p1 m1 e1 g2 q2 l2 c2 p2 m2 e2 li hh)) rfl al ?_ (.inl ⟨by rfl,fun z hSz=>by(have h1:=hSz.1.cell 1;have h2:=hSz.1.cell 2;have h3:=hSz.1.cell 3;have h4:=hSz.1.cell 4;have h5:=hSz.1.cell 5;have h6:=hSz.1.cell 6;have h7:=hSz.1.cell 7;have h8:=hSz.1.cell 8;go_simp)⟩)
        simp only[pz]
        refine rdy 27 rfl (fun K hK=>?_)
        go_simp
        refine(dS.out w4 (hb3.trans (hb4.mono hb3.size))).mono ?_
        rintro e w5 ⟨a0,a1,a2,a3,a4,a5,a6,a7,a8,a9,b0,b1,b2,b3,b4,b5,rfl,hb5⟩
        have BW5:Hid (Below w.heap.size w w5):=BW4.out.trans (hb5.mono BW4.out.size)
        have hS5:(SKd P m g1 q1 l1 c1 p1 m1 e1 g2 q2 l2 c2 p2 m2 e2 li hh b o i mp) w5:=⟨hS4.1.below hb5,(hb5.cell (p:=⟨b,o+i*9,none⟩) (by exact dE)).trans hS4.2⟩
        refine hK.out _ _ hS5 (fun aJ=>?_)
        clear hK K al
        try simp only[pz]
        refine tk 28 (.bool true) rfl aJ ?_ (.inl ⟨by rfl,fun z hSz=>by(have hfl:=fld66 (a0:=a0) (a7:=a7) (b4:=b4) (b5:=b5) (v:=true) (a1:=a1) (a4:=a4) (a8:=a8) (b1:=b1) (a2:=a2) (a3:=a3) (a5:=a5) (a6:=a6) (a9:=a9) (b0:=b0) (b2:=b2) (b3:=b3) z;go_simp)⟩)
        simp only[pz]
        refine tk 29 (.bool true) rfl aJ ?_
        simp only[pz]
        refine wpAnyH_done (by kernel_rfl) ?_ _
        go_wp2_with fail
        go_ret
        exact⟨by rw[zbo hlt (by rw[hSd.out,hsd.out];simp)];rfl,BW5.out⟩
       | false=>
        have hS0:(SKd P m g1 q1 l1 c1 p1 m1 e1 g2 q2 l2 c2 p2 m2 e2 li hh b o i mp) W.drew:=⟨JB,yv⟩
        refine wp_region_held_drew (S:=(SKd P m g1 q1 l1 c1 p1 m1 e1 g2 q2 l2 c2 p2 m2 e2 li hh b o i mp)) (by kernel_rfl) hS0 (fun ah=>?_)
        refine tk 0 (.pointer (some ⟨P,0,none⟩)) rfl ah ?_
        simp only[pz]
        refine tk 1 (.string m) rfl ah ?_ (.inl ⟨by rfl,fun z hSz=>by(have h0:=hSz.1.cell 0;go_simp)⟩)
        simp only[pz]
        refine rdy 2 rfl (fun K hK=>?_)
        go_simp
        with_reducible refine hnm.mono ?_
        rintro e w3 ⟨rfl,hb3⟩
        have BW3:Hid (Below w.heap.size w w3):=BW'.out.trans (hb3.mono BW'.out.size)
        have bv:b<w3.heap.size:=Nat.lt_of_lt_of_le cj hb3.size
        have hS3:(SKd P m g1 q1 l1 c1 p1 m1 e1 g2 q2 l2 c2 p2 m2 e2 li hh b o i mp) w3:=⟨hS0.1.below hb3,(hb3.cell (p:=⟨b,o+i*9,none⟩) (by exact cj)).trans hS0.2⟩
        refine hK.out _ _ hS3 (fun af=>?_)
        clear hK K ah
        try simp only[pz]
        refine tk 3 (.bool false) rfl af ?_
        simp only[pz]
        refine tk 4 (.bool false) rfl af ?_
        simp only[pz]
        refine tk 5 (.int .i64 ((i+1:Nat):Int)) rfl af ?_
        simp only[pz]
        refine tk 6 (.bool true) rfl af ?_
        simp only[pz]
        refine tk 7 (.bool true) rfl af ?_
        simp only[pz]
        refine tk 8 (.slice (some ⟨b,o,none⟩) n c) rfl af ?_
        simp only[pz]
        refine tk 9 (.int .i64 ((i+1:Nat):Int)) rfl af ?_
        simp only[pz]
        refine tk 10 (.int .i64 (i:Int)) rfl af ?_
        simp only[pz]
        refine tk 11 (.pointer (some ⟨b,o+i*9,none⟩)) rfl af ?_
        simp only[pz]
        refine tk 12 (.pointer (some ⟨b,o+i*9,none⟩)) rfl af ?_
        simp only[pz]
        refine tk 13 (.string mp) rfl af ?_
        simp only[pz]
        refine tk 14 (.pointer (some ⟨P,0,none⟩)) rfl af ?_
        simp only[pz]
        refine tk 15 (.string m) rfl af ?_ (.inl ⟨by rfl,fun z hSz=>by(have h0:=hSz.1.cell 0;go_simp)⟩)
        simp only[pz]
        refine tk 16 (.bool false) rfl af ?_
        simp only[pz]
        refine tk 17 (.bool false) rfl af ?_
        simp only[pz]
        refine tk 18 (.bool false) rfl af ?_
        simp only[pz]
        refine tk 19 (.bool false) rfl af ?_
        simp only[pz]
        refine tk 20 (.pointer (some ⟨P,1,none⟩)) rfl af ?_
        simp only[pz]
        refine tk 21 (.agg (iA g1 q1 l1 c1 p1 m1 e1 g2 q2 l2 c2 p2 m2 e2 li hh)) rfl af ?_ (.inl ⟨by rfl,fun z hSz=>by(have h1:=hSz.1.cell 1;have h2:=hSz.1.cell 2;have h3:=hSz.1.cell 3;have h4:=hSz.1.cell 4;have h5:=hSz.1.cell 5;have h6:=hSz.1.cell 6;have h7:=hSz.1.cell 7;have h8:=hSz.1.cell 8;go_simp)⟩)
        simp only[pz]
        refine rdy 22 rfl (fun K hK=>?_)
        go_simp
        refine(cN.out w3 hb3).mono ?_
        rintro e w4 ⟨rfl,hb4⟩
        have BW4:Hid (Below w.heap.size w w4):=BW3.out.trans (hb4.mono BW3.out.size)
        have dE:b<w4.heap.size:=Nat.lt_of_lt_of_le bv hb4.size
        have hS4:(SKd P m g1 q1 l1 c1 p1 m1 e1 g2 q2 l2 c2 p2 m2 e2 li hh b o i mp) w4:=⟨hS3.1.below hb4,(hb4.cell (p:=⟨b,o+i*9,none⟩) (by exact bv)).trans hS3.2⟩
        refine hK.out _ _ hS4 (fun al=>?_)
        clear hK K af
        try simp only[pz]
        refine tk 23 (.bool false) rfl al ?_
        simp only[pz]
        refine tk 24 (.bool false) rfl al ?_
        simp only[pz]
        refine tk 25 (.pointer (some ⟨P,1,none⟩)) rfl al ?_
        simp only[pz]
        refine tk 26 (.agg (iA g1 q1 l1 c1 p1 m1 e1 g2 q2 l2 c2 p2 m2 e2 li hh)) rfl al ?_ (.inl ⟨by rfl,fun z hSz=>by(have h1:=hSz.1.cell 1;have h2:=hSz.1.cell 2;have h3:=hSz.1.cell 3;have h4:=hSz.1.cell 4;have h5:=hSz.1.cell 5;have h6:=hSz.1.cell 6;have h7:=hSz.1.cell 7;have h8:=hSz.1.cell 8;go_simp)⟩)
        simp only[pz]
        refine rdy 27 rfl (fun K hK=>?_)
        go_simp
        refine(dS.out w4 (hb3.trans (hb4.mono hb3.size))).mono ?_
        rintro e w5 ⟨a0,a1,a2,a3,a4,a5,a6,a7,a8,a9,b0,b1,b2,b3,b4,b5,rfl,hb5⟩
        have BW5:Hid (Below w.heap.size w w5):=BW4.out.trans (hb5.mono BW4.out.size)
        have hS5:(SKd P m g1 q1 l1 c1 p1 m1 e1 g2 q2 l2 c2 p2 m2 e2 li hh b o i mp) w5:=⟨hS4.1.below hb5,(hb5.cell (p:=⟨b,o+i*9,none⟩) (by exact dE)).trans hS4.2⟩
        refine hK.out _ _ hS5 (fun aJ=>?_)
        clear hK K al
        try simp only[pz]
        refine tk 28 (.bool false) rfl aJ ?_ (.inl ⟨by rfl,fun z hSz=>by(have hfl:=fld66 (a0:=a0) (a7:=a7) (b4:=b4) (b5:=b5) (v:=false) (a1:=a1) (a4:=a4) (a8:=a8) (b1:=b1) (a2:=a2) (a3:=a3) (a5:=a5) (a6:=a6) (a9:=a9) (b0:=b0) (b2:=b2) (b3:=b3) z;go_simp)⟩)
        simp only[pz]
        refine tk 29 (.bool false) rfl aJ ?_
        simp only[pz]
        refine wpAnyH_done (by kernel_rfl) ?_ _
        go_wp2_with fail
        go_roundw
        case rel=>
         refine⟨(i+1)+1,by omega,by go_num,fun j hj=>?_,BW5.out⟩
         rcases Nat.lt_or_ge j (i+1) with h | h
         ·exact aN.out j h
         ·obtain rfl:j=(i+1):=by omega
          rw[hSd.out,hsd.out]
          simp
        case measure=>simp[intOf];omega
  ·obtain rfl:k=n:=by omega
   go_wp2_with fail
   go_ret
   exact⟨by rw[zd7 hn aN.out];rfl,hbw⟩
theorem zf3 {n:Nat} {bs:Nat->Si} (h:¬n<=6):bxOk n bs=false:=by
 unfold bxOk
 rw[decide_eq_false h]
 rfl
theorem zfc {w:World} (q:Option Addr) (n c:Nat) (hn:¬n<=6):Calls Tryz.prog 25 #[.slice q n c] w fun e w'=>e=.returned (.bool false)/\w'=w:=by
 have hn':(n:Int) > 6:=by omega
 go_enter Tryz.func25,Tryz.ntmps25
 go_wp2_with fail
 go_ret
 exact⟨rfl,rfl⟩
theorem zfd {w:World} (q:Option Addr) (c:Nat):Calls Tryz.prog 25 #[.slice q 0 c] w fun e w'=>e=.returned (.bool true)/\w'=w:=by
 go_enter Tryz.func25,Tryz.ntmps25
 go_wp2_with fail
 refine wp_loop_once ?_
 go_wp2_with fail
 go_ret
 exact⟨rfl,rfl⟩
theorem zg0 {w:World} (q:Option Addr) (n c:Nat) (hn:¬n<=6):Calls Tryz.prog 36 #[.slice q n c] w fun e w'=>e=.returned (.bool false)/\w'=w:=by
 have hn':(n:Int) > 6:=by omega
 go_enter Tryz.func36,Tryz.ntmps36
 go_wp2_with fail
 go_ret
 exact⟨rfl,rfl⟩
theorem zg1 {w:World} (q:Option Addr) (c:Nat):Calls Tryz.prog 36 #[.slice q 0 c] w fun e w'=>e=.returned (.bool true)/\w'=w:=by
 go_enter Tryz.func36,Tryz.ntmps36
 go_wp2_with fail
 refine wp_loop_once ?_
 go_wp2_with fail
 go_ret
 exact⟨rfl,rfl⟩
theorem zg2 {w:World} {q:Option Addr} {n:Nat} (c:Nat) {bs:Nat->Si} (h:SisOk w q n bs) (hT:Tb w):Calls Tryz.prog 25 #[.slice q n c] w fun e w'=>e=.returned (.bool (bxOk n bs))/\Below w.heap.size w w':=by
 by_cases hn:n<=6
 ·rcases h with rfl | ⟨b,o,rfl,hlt,ds,hds⟩
  ·refine(zfd q c).mono ?_
   rintro x w' ⟨rfl,rfl⟩
   exact⟨by rw[zd7 (by omega) (fun j hj=>by omega)],Below.refl _ _⟩
  ·exact zfw b o n c bs ds hn hlt hds hT
 ·refine(zfc q n c hn).mono ?_
  rintro x w' ⟨rfl,rfl⟩
  exact⟨by rw[zf3 hn],Below.refl _ _⟩
theorem zkb {w:World} {q:Option Addr} {n:Nat} (c:Nat) {bs:Nat->Si} (h:SisOk w q n bs):Calls Tryz.prog 36 #[.slice q n c] w fun e w'=>e=.returned (.bool (bxOk n bs))/\Below w.heap.size w w':=by
 by_cases hn:n<=6
 ·rcases h with rfl | ⟨b,o,rfl,hlt,ds,hds⟩
  ·refine(zg1 q c).mono ?_
   rintro x w' ⟨rfl,rfl⟩
   exact⟨by rw[zd7 (by omega) (fun j hj=>by omega)],Below.refl _ _⟩
  ·exact zgz b o n c bs ds hn hlt hds
 ·refine(zg0 q n c hn).mono ?_
  rintro x w' ⟨rfl,rfl⟩
  exact⟨by rw[zf3 hn],Below.refl _ _⟩
end Go.Proofs.YtaonejnicgbifaaGreatDoor
