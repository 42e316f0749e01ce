import Derived.Test.YtaonejnicgbifaaGreatDoorQk34
namespace Go.Proofs.YtaonejnicgbifaaGreatDoor
open Go Go.RowKit
set_option maxRecDepth 100000
set_option maxHeartbeats 16000000
theorem zlp {w:World} {q:Option Addr} {n c:Nat} (k:Ky) {C:Cl} {DC:Cd} (hF:(CA w 12 #[.slice q n c,.agg #[.string k.1,.int .i64 k.2]] (.tuple #[.int .i64 0,.bool false]))):
  Calls Tryz.prog 6 #[.slice q n c,.agg #[.string k.1,.int .i64 k.2],.agg (nC DC.d C.st DC.bq C.nb DC.bc DC.cq C.nc DC.cc)] w fun e w'=>e=.returned (.tuple #[.bool false,.int .i64 90])/\Below w.heap.size w w':=by
 have hb0:Hid (Below w.heap.size w ((w.alloc (.cells #[.string k.1,.int .i64 k.2] 24)).alloc (.cells (nC DC.d C.st DC.bq C.nb DC.bc DC.cq C.nc DC.cc) 34))):=zah w _ _
 have hix:=hF _ hb0.out
 clear hF
 go_enter Tryz.func6,Tryz.ntmps6
 go_wp2_with (go_at_call 12;with_reducible refine hix.mono ?_;rintro r w3 ⟨rfl,hb3⟩)
 go_ret2
 exact⟨rfl,hb0.out.trans (hb3.mono hb0.out.size)⟩
theorem ref6_bad {w:World} {n c i b o:Nat} (k:Ky) {M C:Cl} {DM DC:Cd} (hin:i<n) (hF0:(CA w 12 #[.slice (some ⟨b,o,none⟩) n c,.agg #[.string k.1,.int .i64 k.2]] (.tuple #[.int .i64 (i:Int),.bool true]))) (hcl:(∀z,Below w.heap.size w z->∀j v,(M.cells DM)[j]?=some v->z.cell? ⟨b,o+i*33+2+j,none⟩=some v)) (hv1:(CA w 13 #[.agg (nC DC.d C.st DC.bq C.nb DC.bc DC.cq C.nc DC.cc)] (.bool C.vld))) (hv2:(CA w 13 #[.agg (nC DM.d M.st DM.bq M.nb DM.bc DM.cq M.nc DM.cc)] (.bool M.vld))) (eh:(C.vld&&M.vld)=false):
  Calls Tryz.prog 6 #[.slice (some ⟨b,o,none⟩) n c,.agg #[.string k.1,.int .i64 k.2],.agg (nC DC.d C.st DC.bq C.nb DC.bc DC.cq C.nc DC.cc)] w fun e w'=>e=.returned (.tuple #[.bool false,.int .i64 60])/\Below w.heap.size w w':=by
 have hb0:Hid (Below w.heap.size w ((w.alloc (.cells #[.string k.1,.int .i64 k.2] 24)).alloc (.cells (nC DC.d C.st DC.bq C.nb DC.bc DC.cq C.nc DC.cc) 34))):=zah w _ _
 have hix:=hF0 _ hb0.out
 have J0:Hid (BlkI ((w.alloc (.cells #[.string k.1,.int .i64 k.2] 24)).alloc (.cells (nC DC.d C.st DC.bq C.nb DC.bc DC.cq C.nc DC.cc) 34)) (w.heap.size+1) 34 (nC DC.d C.st DC.bq C.nb DC.bc DC.cq C.nc DC.cc)):=by
  have h:BlkI ((w.alloc (.cells #[.string k.1,.int .i64 k.2] 24)).alloc (.cells (nC DC.d C.st DC.bq C.nb DC.bc DC.cq C.nc DC.cc) 34)) (w.alloc (.cells #[.string k.1,.int .i64 k.2] 24)).heap.size 34 (nC DC.d C.st DC.bq C.nb DC.bc DC.cq C.nc DC.cc):=heap_alloc_new _ _
  rwa [show (w.alloc (.cells #[.string k.1,.int .i64 k.2] 24)).heap.size=w.heap.size+1 by simp] at h
 have hcl:=zac hcl
 have hv1:=zac hv1
 have hv2:=zac hv2
 have gY:(i:Int)<(n:Int):=by omega
 have hni:¬n<=i:=by omega
 clear hF0
 generalize C.vld=VC at*
 generalize M.vld=VM at*
 go_enter Tryz.func6,Tryz.ntmps6
 go_upto_region 4 with(go_at_call 12;with_reducible refine hix.mono ?_;rintro r w3 ⟨rfl,hb3⟩)
 have B3:Hid (Below w.heap.size w w3):=hb0.out.trans (hb3.mono hb0.out.size)
 have J3:=zac (J0.out.below hb3)
 have x0:w3.cell? ⟨b,o+i*33+2,none⟩=some (.int .i64 DM.d.k):=hcl.out w3 B3.out 0 _ rfl
 have x1:w3.cell? ⟨b,o+i*33+3,none⟩=some (.int .i64 DM.d.f):=hcl.out w3 B3.out 1 _ rfl
 have x2:w3.cell? ⟨b,o+i*33+4,none⟩=some (.bool DM.d.neg):=hcl.out w3 B3.out 2 _ rfl
 have x3:w3.cell? ⟨b,o+i*33+5,none⟩=some (.slice DM.d.aq DM.d.an DM.d.ac):=hcl.out w3 B3.out 3 _ rfl
 have x4:w3.cell? ⟨b,o+i*33+6,none⟩=some (.slice DM.d.cq DM.d.cn DM.d.cc):=hcl.out w3 B3.out 4 _ rfl
 have x5:w3.cell? ⟨b,o+i*33+7,none⟩=some (.string DM.d.m):=hcl.out w3 B3.out 5 _ rfl
 have x6:w3.cell? ⟨b,o+i*33+8,none⟩=some (.slice DM.d.sq DM.d.sn DM.d.sc):=hcl.out w3 B3.out 6 _ rfl
 have x7:w3.cell? ⟨b,o+i*33+9,none⟩=some (.bool M.st):=hcl.out w3 B3.out 7 _ rfl
 have x8:w3.cell? ⟨b,o+i*33+10,none⟩=some (.slice DM.bq M.nb DM.bc):=hcl.out w3 B3.out 8 _ rfl
 have x9:w3.cell? ⟨b,o+i*33+11,none⟩=some (.slice DM.cq M.nc DM.cc):=hcl.out w3 B3.out 9 _ rfl
 have hb4:Below w3.heap.size w3 (w3.alloc (.cells (nC DM.d M.st DM.bq M.nb DM.bc DM.cq M.nc DM.cc) 34)):=zaa w3 _
 have B4:=zac (B3.out.trans (hb4.mono B3.out.size))
 have J4:=zac (J3.out.below hb4)
 have P4:Hid (BlkI (w3.alloc (.cells (nC DM.d M.st DM.bq M.nb DM.bc DM.cq M.nc DM.cc) 34)) w3.heap.size 34 (nC DM.d M.st DM.bq M.nb DM.bc DM.cq M.nc DM.cc)):=heap_alloc_new _ _
 have L4:w.heap.size<w3.heap.size:=by have:=J3.out.lt;omega
 go_upto_region 5 with fail
 clear x0 x1 x2 x3 x4 x5 x6 x7 x8 x9 hb3 hb4 B3 J3 J0 hb0 hcl hix
 generalize (w3.alloc (.cells (nC DM.d M.st DM.bq M.nb DM.bc DM.cq M.nc DM.cc) 34))=W4 at*
 obtain⟨y0,y1,y2,y3,y4,y5,y6,y7,y8,y9⟩:=J4.out.c10
 have h1:=hv1.out W4 B4.out
 cases VC with
 | false=>
  go_wp2_with (go_at_call 13;with_reducible refine h1.mono ?_;rintro r w5 ⟨rfl,hb5⟩)
  go_ret2
  exact⟨rfl,B4.out.trans (hb5.mono B4.out.size)⟩
 | true=>
  cases VM with
  | false=>
   go_wp2_with (first
    | (go_at_call 13;with_reducible refine h1.mono ?_;clear h1;rintro r w5 ⟨rfl,hb5⟩
       have B5:Hid (Below w.heap.size w w5):=B4.out.trans (hb5.mono B4.out.size)
       have J5:=zac (J4.out.below hb5)
       have P5:=zac (P4.out.below hb5)
       obtain⟨z0,z1,z2,z3,z4,z5,z6,z7,z8,z9⟩:=P5.out.c10
       have h2:=hv2.out w5 B5.out
       clear hb5 y0 y1 y2 y3 y4 y5 y6 y7 y8 y9)
    | (go_at_call 13;with_reducible refine h2.mono ?_;rintro r w6 ⟨rfl,hb6⟩))
   go_ret2
   exact⟨rfl,B5.out.trans (hb6.mono B5.out.size)⟩
  | true=>cases eh
theorem zlq {w:World} {n c i b o:Nat} (k:Ky) {M C:Cl} {DM DC:Cd} {md:Nat->Sv} {me:Nat->Nd} (hin:i<n) (hF0:(CA w 12 #[.slice (some ⟨b,o,none⟩) n c,.agg #[.string k.1,.int .i64 k.2]] (.tuple #[.int .i64 (i:Int),.bool true]))) (hcl:(∀z,Below w.heap.size w z->∀j v,(M.cells DM)[j]?=some v->z.cell? ⟨b,o+i*33+2+j,none⟩=some v)) (hv1:(CA w 13 #[.agg (nC DC.d C.st DC.bq C.nb DC.bc DC.cq C.nc DC.cc)] (.bool C.vld))) (hv2:(CA w 13 #[.agg (nC DM.d M.st DM.bq M.nb DM.bc DM.cq M.nc DM.cc)] (.bool M.vld))) (hE:(CA w 14 #[.agg (nA DM.d),.agg (nA DC.d)] (.tuple #[.bool (M.goal.sm C.goal),.int .i64 0]))) (hF:(∀i,i<M.nb->∀z,Below w.heap.size w z->Calls Tryz.prog 15 #[.slice DC.bq C.nb DC.bc,.string (M.bs i).m] z fun e w'=>FdR w' e C.bs (sdIx C.nb C.bs (M.bs i).m)/\Below z.heap.size z w')) (hO1:(∀z (s:Si) (d:Sv),SiOk z s d->Calls Tryz.prog 17 #[.agg (sA s d)] z fun e w'=>∃v,e=.returned v/\IAt w' v s.c.v/\Below z.heap.size z w')) (hO2:(∀i,i<M.nb->∀z,Below w.heap.size w z->Calls Tryz.prog 17 #[.agg (sA (M.bs i) (md i))] z fun e w'=>∃v,e=.returned v/\IAt w' v (M.bs i).c.v/\Below z.heap.size z w')) (hWi:(∀i j,i<M.nb->sdIx C.nb C.bs (M.bs i).m=some j->∀z a b,IAt z a (C.bs j).c.v->IAt z b (M.bs i).c.v->Calls Tryz.prog 16 #[a,b] z fun e w'=>e=.returned (.bool ((C.bs j).c.ins (M.bs i).c))/\Below z.heap.size z w')) (hG:(∀i,i<M.nc->CA w 18 #[.agg (nC DC.d C.st DC.bq C.nb DC.bc DC.cq C.nc DC.cc),.agg #[.int .i64 (me i).k,.int .i64 (me i).f,.bool (me i).neg,.slice (me i).aq (me i).an (me i).ac,.slice (me i).cq (me i).cn (me i).cc,.string (me i).m,.slice (me i).sq (me i).sn (me i).sc,.bool (M.cs i).st]] (.bool ((List.range C.nc).any fun j=>coSv (C.cs j) (M.cs i))))) (hms:(M.nb=0\/∃b o,DM.bq=some ⟨b,o,none⟩/\b<w.heap.size/\∀i,i<M.nb->w.rangeAt b (o+i*9) ((M.bs i).cells (md i)))) (hmc:(M.nc=0\/∃b o,DM.cq=some ⟨b,o,none⟩/\b<w.heap.size/\∀i,i<M.nc->w.rangeAt b (o+i*8) ((M.cs i).cells (me i)))) (l1:M.nb<=1048576) (l3:M.nc<=1048576) (v1:C.vld=true) (v2:M.vld=true):
  Calls Tryz.prog 6 #[.slice (some ⟨b,o,none⟩) n c,.agg #[.string k.1,.int .i64 k.2],.agg (nC DC.d C.st DC.bq C.nb DC.bc DC.cq C.nc DC.cc)] w fun e w'=>e=.returned (.tuple #[.bool (covS M C),.int .i64 0])/\Below w.heap.size w w':=by
 rw[v1] at hv1
 rw[v2] at hv2
 have hE:=zac hE
 have hF':=zac hF
 have fu:=zac hO1
 have fw:=zac hO2
 have gI:=zac hWi
 have hG':=zac hG
 have cU:=zac hms
 have eR:=zac hmc
 obtain⟨Z,hZ⟩:∃Z,Hid (covS M C=Z):=⟨_,rfl⟩
 rw[hZ.out]
 have hZ0:Hid (Z=(M.goal.sm C.goal&&((!C.st||M.st)&&(((List.range M.nb).all fun i=>sdCv C (M.bs i))&&(List.range M.nc).all fun i=>(List.range C.nc).any fun j=>coSv (C.cs j) (M.cs i))))):=by show Z=_;rw[<-hZ.out];rfl
 clear hF hO1 hO2 hWi hG hms hmc hZ v1 v2
 have hb0:Hid (Below w.heap.size w ((w.alloc (.cells #[.string k.1,.int .i64 k.2] 24)).alloc (.cells (nC DC.d C.st DC.bq C.nb DC.bc DC.cq C.nc DC.cc) 34))):=zah w _ _
 have hix:=hF0 _ hb0.out
 have J0:Hid (BlkI ((w.alloc (.cells #[.string k.1,.int .i64 k.2] 24)).alloc (.cells (nC DC.d C.st DC.bq C.nb DC.bc DC.cq C.nc DC.cc) 34)) (w.heap.size+1) 34 (nC DC.d C.st DC.bq C.nb DC.bc DC.cq C.nc DC.cc)):=by
  have h:BlkI ((w.alloc (.cells #[.string k.1,.int .i64 k.2] 24)).alloc (.cells (nC DC.d C.st DC.bq C.nb DC.bc DC.cq C.nc DC.cc) 34)) (w.alloc (.cells #[.string k.1,.int .i64 k.2] 24)).heap.size 34 (nC DC.d C.st DC.bq C.nb DC.bc DC.cq C.nc DC.cc):=heap_alloc_new _ _
  rwa [show (w.alloc (.cells #[.string k.1,.int .i64 k.2] 24)).heap.size=w.heap.size+1 by simp] at h
 have hcl:=zac hcl
 have hv1:=zac hv1
 have hv2:=zac hv2
 have gY:(i:Int)<(n:Int):=by omega
 have hni:¬n<=i:=by omega
 clear hF0
 have fx:∀z,Below w.heap.size w z->z.cell? ⟨b,o+i*33+2,none⟩=some (.int .i64 DM.d.k)/\z.cell? ⟨b,o+i*33+3,none⟩=some (.int .i64 DM.d.f)/\z.cell? ⟨b,o+i*33+4,none⟩=some (.bool DM.d.neg)/\z.cell? ⟨b,o+i*33+5,none⟩=some (.slice DM.d.aq DM.d.an DM.d.ac)/\z.cell? ⟨b,o+i*33+6,none⟩=some (.slice DM.d.cq DM.d.cn DM.d.cc)/\z.cell? ⟨b,o+i*33+7,none⟩=some (.string DM.d.m)/\z.cell? ⟨b,o+i*33+8,none⟩=some (.slice DM.d.sq DM.d.sn DM.d.sc)/\z.cell? ⟨b,o+i*33+9,none⟩=some (.bool M.st)/\z.cell? ⟨b,o+i*33+10,none⟩=some (.slice DM.bq M.nb DM.bc)/\z.cell? ⟨b,o+i*33+11,none⟩=some (.slice DM.cq M.nc DM.cc):=fun z hz=>⟨hcl.out z hz 0 _ rfl,hcl.out z hz 1 _ rfl,hcl.out z hz 2 _ rfl,hcl.out z hz 3 _ rfl,hcl.out z hz 4 _ rfl,hcl.out z hz 5 _ rfl,hcl.out z hz 6 _ rfl,hcl.out z hz 7 _ rfl,hcl.out z hz 8 _ rfl,hcl.out z hz 9 _ rfl⟩
 have fx:=zac fx
 clear hcl
 generalize M.goal.sm C.goal=E at*
 generalize C.st=stc at*
 generalize M.st=stm at*
 go_enter Tryz.func6,Tryz.ntmps6
 go_upto_region 4 with(go_at_call 12;with_reducible refine hix.mono ?_;rintro r w3 ⟨rfl,hb3⟩)
 have B3:Hid (Below w.heap.size w w3):=hb0.out.trans (hb3.mono hb0.out.size)
 have J3:=zac (J0.out.below hb3)
 obtain⟨x0,x1,x2,x3,x4,x5,x6,x7,x8,x9⟩:=fx.out w3 B3.out
 have hb4:Below w3.heap.size w3 (w3.alloc (.cells (nC DM.d stm DM.bq M.nb DM.bc DM.cq M.nc DM.cc) 34)):=zaa w3 _
 have B4:=zac (B3.out.trans (hb4.mono B3.out.size))
 have J4:=zac (J3.out.below hb4)
 have P4:Hid (BlkI (w3.alloc (.cells (nC DM.d stm DM.bq M.nb DM.bc DM.cq M.nc DM.cc) 34)) w3.heap.size 34 (nC DM.d stm DM.bq M.nb DM.bc DM.cq M.nc DM.cc)):=heap_alloc_new _ _
 have L4:w.heap.size<w3.heap.size:=by have:=J3.out.lt;omega
 go_upto_region 5 with fail
 clear x0 x1 x2 x3 x4 x5 x6 x7 x8 x9 hb3 hb4 B3 J3 J0 hb0 fx hix
 generalize (w3.alloc (.cells (nC DM.d stm DM.bq M.nb DM.bc DM.cq M.nc DM.cc) 34))=W4 at*
 obtain⟨y0,y1,y2,y3,y4,y5,y6,y7,y8,y9⟩:=J4.out.c10
 have h1:=hv1.out W4 B4.out
 go_upto_region 8 with(first
  | (go_at_call 13;with_reducible refine h1.mono ?_;clear h1;rintro r w5 ⟨rfl,hb5⟩
     have B5:Hid (Below w.heap.size w w5):=B4.out.trans (hb5.mono B4.out.size)
     have J5:=zac (J4.out.below hb5)
     have P5:=zac (P4.out.below hb5)
     obtain⟨z0,z1,z2,z3,z4,z5,z6,z7,z8,z9⟩:=P5.out.c10
     have h2:=hv2.out w5 B5.out
     clear hb5 y0 y1 y2 y3 y4 y5 y6 y7 y8 y9)
  | (go_at_call 13;with_reducible refine h2.mono ?_;clear h2;rintro r w6 ⟨rfl,hb6⟩
     have B6:Hid (Below w.heap.size w w6):=B5.out.trans (hb6.mono B5.out.size)
     have J6:=zac (J5.out.below hb6)
     have P6:=zac (P5.out.below hb6)
     obtain⟨u0,u1,u2,u3,u4,u5,u6,-,-,-⟩:=P6.out.c10
     obtain⟨v0,v1,v2,v3,v4,v5,v6,-,-,-⟩:=J6.out.c10
     have h3:=hE.out w6 B6.out
     clear hb6 z0 z1 z2 z3 z4 z5 z6 z7 z8 z9)
  | (go_at_call 14;with_reducible refine h3.mono ?_;clear h3;rintro r w7 ⟨rfl,hb7⟩
     have B7:Hid (Below w.heap.size w w7):=B6.out.trans (hb7.mono B6.out.size)
     have J7:=zac (J6.out.below hb7)
     have P7:=zac (P6.out.below hb7)
     have m7:w7.cell? ⟨w3.heap.size,7,none⟩=some (.bool stm):=P7.out.cell 7
     have c7:w7.cell? ⟨w.heap.size+1,7,none⟩=some (.bool stc):=J7.out.cell 7
     clear hb7 u0 v0 u1 v1 u2 v2 u3 v3 u4 v4 u5 v5 u6 v6))
 clear hv1 hv2 B5 B6 J4 J5 J6 P4 P5 P6 hE B4
 go_cut [58] from 48 to 58 (fun v58 wx=>v58=.bool (!E||(stc&&!stm))/\wx=w7)
 case first=>
  clear hF' fu fw gI hG' cU eR hZ0
  cases E with
  | false=>
   go_wp2_with fail
   go_meet
   case rel=>exact⟨rfl,rfl⟩
  | true=>
   cases stc with
   | false=>
    go_wp2_with fail
    go_meet
    case rel=>exact⟨rfl,rfl⟩
   | true=>
    cases stm with
    | false=>
     go_wp2_with fail
     go_meet
     case rel=>exact⟨rfl,rfl⟩
    | true=>
     go_wp2_with fail
     go_meet
     case rel=>exact⟨rfl,rfl⟩
 case rest=>
  obtain⟨rfl,hwc⟩:=hcut
  subst hwc
  by_cases hq:(!E||(stc&&!stm))=true
  ·have hq':Hid ((!E||(stc&&!stm))=true):=hq
   rw[hq]
   clear hq
   go_wp2_with fail
   go_ret2
   refine⟨?_,B7.out⟩
   have hz:Z=false:=by
    rw[hZ0.out]
    have:=hq'.out
    cases E<;>cases stc<;>cases stm<;>simp_all
   rw[hz]
   rfl
  ·have hq1:(!E||(stc&&!stm))=false:=by simpa using hq
   rw[hq1]
   have hZ2:Hid ((((List.range M.nb).all fun i=>sdCv C (M.bs i))&&(List.range M.nc).all fun i=>(List.range C.nc).any fun j=>coSv (C.cs j) (M.cs i))=Z):=by
    show _=Z
    rw[hZ0.out]
    cases E<;>cases stc<;>cases stm<;>simp_all
   clear hq hq1 hZ0 m7 c7
   have m8:wc.cell? ⟨w3.heap.size,8,none⟩=some (.slice DM.bq M.nb DM.bc):=P7.out.cell 8
   go_wp2_with fail
   go_loopw [62] (fun t wr=>∃i:Nat,i<=M.nb/\t=.int .i64 i/\Hid (∀q,q<i->sdCv C (M.bs q)=true)/\Hid (Below wc.heap.size wc wr)) (fun t _=>M.nb - (intOf t).toNat)
   case atStart=>exact⟨0,Nat.zero_le _,rfl,fun j hj=>by omega,Below.refl _ _⟩
   case round=>
    obtain⟨i,hi,rfl,aE,hbw⟩:=hrel
    have Br:Hid (Below w.heap.size w wr):=B7.out.trans (hbw.out.mono B7.out.size)
    have Jr:Hid (BlkI wr (w.heap.size+1) 34 (nC DC.d stc DC.bq C.nb DC.bc DC.cq C.nc DC.cc)):=J7.out.below hbw.out
    have Pr:Hid (BlkI wr w3.heap.size 34 (nC DM.d stm DM.bq M.nb DM.bc DM.cq M.nc DM.cc)):=P7.out.below hbw.out
    clear m8
    by_cases hlt:i<M.nb
    ·have aA:(i:Int)<(M.nb:Int):=by omega
     obtain⟨b,o,hbq,hbl,hr⟩:=cU.out.resolve_left (by omega)
     have hr:=zad (hr i hlt) Br.out hbl
     rw[hbq]
     have x0:wr.cell? ⟨b,o+i*9,none⟩=some (.string (M.bs i).m):=by simpa using hr 0 _ rfl
     have x1:wr.cell? ⟨b,o+i*9+1,none⟩=some (.bool (M.bs i).g1):=by simpa using hr 1 _ rfl
     have x2:wr.cell? ⟨b,o+i*9+2,none⟩=some (.slice (md i).q1 (md i).l1 (md i).c1):=by simpa using hr 2 _ rfl
     have x3:wr.cell? ⟨b,o+i*9+3,none⟩=some (.slice (md i).p1 (md i).m1 (md i).e1):=by simpa using hr 3 _ rfl
     have x4:wr.cell? ⟨b,o+i*9+4,none⟩=some (.bool (M.bs i).g2):=by simpa using hr 4 _ rfl
     have x5:wr.cell? ⟨b,o+i*9+5,none⟩=some (.slice (md i).q2 (md i).l2 (md i).c2):=by simpa using hr 5 _ rfl
     have x6:wr.cell? ⟨b,o+i*9+6,none⟩=some (.slice (md i).p2 (md i).m2 (md i).e2):=by simpa using hr 6 _ rfl
     have x7:wr.cell? ⟨b,o+i*9+7,none⟩=some (.bool (M.bs i).li):=by simpa using hr 7 _ rfl
     have x8:wr.cell? ⟨b,o+i*9+8,none⟩=some (.bool (M.bs i).hh):=by simpa using hr 8 _ rfl
     have hb1:Below wr.heap.size wr (wr.alloc (.cells (sB (M.bs i) (md i)) 58)):=zaa wr _
     have BB:=zac (Br.out.trans (hb1.mono Br.out.size))
     have Q1:Hid (BlkI (wr.alloc (.cells (sB (M.bs i) (md i)) 58)) wr.heap.size 58 (sB (M.bs i) (md i))):=heap_alloc_new _ _
     have c8:(wr.alloc (.cells (sB (M.bs i) (md i)) 58)).cell? ⟨w.heap.size+1,8,none⟩=some (.slice DC.bq C.nb DC.bc):=(Jr.out.below hb1).cell 8
     have hf1:=hF'.out i hlt _ BB.out
     obtain⟨O,hO⟩:∃O,sdIx C.nb C.bs (M.bs i).m=O:=⟨_,rfl⟩
     have hO:Hid (sdIx C.nb C.bs (M.bs i).m=O):=hO
     rw[hO.out] at hf1
     clear hr
     cases O with
     | none=>
      go_upto_region 14 with(go_at_call 15;(with_reducible refine hf1.mono ?_);rintro r w4 ⟨⟨s,d,rfl,hfd⟩,hb4⟩)
      have B4:Hid (Below w.heap.size w w4):=BB.out.trans (hb4.mono BB.out.size)
      have hb5:Below w4.heap.size w4 (w4.alloc (.cells (sA s d) 56)):=zaa w4 _
      have B6:=zac (B4.out.trans (hb5.mono B4.out.size))
      have Q6:BlkI (w4.alloc (.cells (sA s d) 56)) wr.heap.size 58 (sB (M.bs i) (md i)):=(Q1.out.below hb4).below hb5
      have F6:BlkI (w4.alloc (.cells (sA s d) 56)) w4.heap.size 56 (sA s d):=heap_alloc_new _ _
      have Bc6:Below wc.heap.size wc (w4.alloc (.cells (sA s d) 56)):=hbw.out.trans ((hb1.trans ((hb4.trans (hb5.mono hb4.size)).mono hb1.size)).mono hbw.out.size)
      clear x0 x1 x2 x3 x4 x5 x6 x7 x8 c8 hb1 BB Q1 hb4 hb5 B4 hf1
      generalize (w4.alloc (.cells (sA s d) 56))=W6 at*
      generalize w4.heap.size=PF at*
      have B6d:Hid (Below w.heap.size w W6.drew):=B6.out.drew
      have Q6:Hid (BlkI W6.drew wr.heap.size 58 #[.string (M.bs i).m,.bool (M.bs i).g1,.slice (md i).q1 (md i).l1 (md i).c1,.slice (md i).p1 (md i).m1 (md i).e1,.bool (M.bs i).g2,.slice (md i).q2 (md i).l2 (md i).c2,.slice (md i).p2 (md i).m2 (md i).e2,.bool (M.bs i).li,.bool (M.bs i).hh]):=Q6
      have F6:Hid (BlkI W6.drew PF 56 (iA s.g1 d.q1 d.l1 d.c1 d.p1 d.m1 d.e1 s.g2 d.q2 d.l2 d.c2 d.p2 d.m2 d.e2 s.li s.hh)):=F6
      have Bc6:Hid (Below wc.heap.size wc W6.drew):=Bc6.drew
      have hS0:(fun z=>BlkI z wr.heap.size 58 (sB (M.bs i) (md i))/\BlkI z PF 56 (sA s d)) W6.drew:=⟨Q6.out,F6.out⟩
      refine wp_region_held_drew (S:=(fun z=>BlkI z wr.heap.size 58 (sB (M.bs i) (md i))/\BlkI z PF 56 (sA s d))) (by kernel_rfl) hS0 (fun ah=>?_)
      refine tk 0 (.bool false) rfl ah ?_
      simp only[pz]
      refine tk 1 (.bool true) rfl ah ?_
      simp only[pz]
      refine tk 2 (.bool true) rfl ah ?_
      simp only[pz]
      refine tk 3 undef rfl ah ?_ (.inr ⟨by rfl,rfl⟩)
      simp only[pz]
      refine tk 4 undef rfl ah ?_ (.inr ⟨by rfl,rfl⟩)
      simp only[pz]
      refine tk 5 undef rfl ah ?_ (.inr ⟨by rfl,rfl⟩)
      simp only[pz]
      refine tk 6 undef rfl ah ?_ (.inr ⟨by rfl,rfl⟩)
      simp only[pz]
      refine tk 7 undef rfl ah ?_ (.inr ⟨by rfl,rfl⟩)
      simp only[pz]
      refine tk 8 undef rfl ah ?_ (.inr ⟨by rfl,rfl⟩)
      simp only[pz]
      refine tk 9 undef rfl ah ?_ (.inr ⟨by rfl,rfl⟩)
      simp only[pz]
      refine tk 10 (.bool true) rfl ah ?_
      simp only[pz]
      refine wpAnyH_done (by kernel_rfl) ?_ _
      go_wp2_with fail
      go_ret2
      refine⟨?_,B6d.out⟩
      have hz:Z=false:=by
       rw[<-hZ2.out,zcw hlt (by unfold sdCv;rw[hO.out])]
       rfl
      rw[hz]
      rfl
     | some j=>
      obtain⟨V,hV⟩:∃V,(C.bs j).c.ins (M.bs i).c=V:=⟨_,rfl⟩
      have hV:Hid ((C.bs j).c.ins (M.bs i).c=V):=hV
      have hwi:∀z a b,IAt z a (C.bs j).c.v->IAt z b (M.bs i).c.v->Calls Tryz.prog 16 #[a,b] z fun e w'=>e=.returned (.bool V)/\Below z.heap.size z w':=fun z a b ha hb=>(gI.out i j hlt hO.out z a b ha hb).mono fun e w' h=>by rw[hV.out] at h;exact h
      have hsd:sdCv C (M.bs i)=V:=by unfold sdCv;rw[hO.out];exact hV.out
      have hsd:Hid (sdCv C (M.bs i)=V):=hsd
      cases V with
      | false=>
       go_upto_region 14 with(go_at_call 15;(with_reducible refine hf1.mono ?_);rintro r w4 ⟨⟨s,d,rfl,hfd⟩,hb4⟩)
       have B4:Hid (Below w.heap.size w w4):=BB.out.trans (hb4.mono BB.out.size)
       have hb5:Below w4.heap.size w4 (w4.alloc (.cells (sA s d) 56)):=zaa w4 _
       have B6:=zac (B4.out.trans (hb5.mono B4.out.size))
       have Q6:BlkI (w4.alloc (.cells (sA s d) 56)) wr.heap.size 58 (sB (M.bs i) (md i)):=(Q1.out.below hb4).below hb5
       have F6:BlkI (w4.alloc (.cells (sA s d) 56)) w4.heap.size 56 (sA s d):=heap_alloc_new _ _
       have Bc6:Below wc.heap.size wc (w4.alloc (.cells (sA s d) 56)):=hbw.out.trans ((hb1.trans ((hb4.trans (hb5.mono hb4.size)).mono hb1.size)).mono hbw.out.size)
       obtain⟨hsj,hsk⟩:=hfd.out j rfl
       have hsk:SiOk (w4.alloc (.cells (sA s d) 56)) s d:=hsk.below hb5
       rw[<-hsj] at hwi
       have hwi:=zac hwi
       clear x0 x1 x2 x3 x4 x5 x6 x7 x8 c8 hb1 BB Q1 hb4 hb5 B4 hf1 hfd hsj
       generalize (w4.alloc (.cells (sA s d) 56))=W6 at*
       generalize w4.heap.size=PF at*
       have B6d:Hid (Below w.heap.size w W6.drew):=B6.out.drew
       have Q6:Hid (BlkI W6.drew wr.heap.size 58 #[.string (M.bs i).m,.bool (M.bs i).g1,.slice (md i).q1 (md i).l1 (md i).c1,.slice (md i).p1 (md i).m1 (md i).e1,.bool (M.bs i).g2,.slice (md i).q2 (md i).l2 (md i).c2,.slice (md i).p2 (md i).m2 (md i).e2,.bool (M.bs i).li,.bool (M.bs i).hh]):=Q6
       have F6:Hid (BlkI W6.drew PF 56 (iA s.g1 d.q1 d.l1 d.c1 d.p1 d.m1 d.e1 s.g2 d.q2 d.l2 d.c2 d.p2 d.m2 d.e2 s.li s.hh)):=F6
       have Bc6:Hid (Below wc.heap.size wc W6.drew):=Bc6.drew
       have hsk:SiOk W6.drew s d:=hsk
       have ho1:=fu.out W6.drew s d hsk
       have hS0:(fun z=>BlkI z wr.heap.size 58 (sB (M.bs i) (md i))/\BlkI z PF 56 (sA s d)) W6.drew:=⟨Q6.out,F6.out⟩
       refine wp_region_held_drew (S:=(fun z=>BlkI z wr.heap.size 58 (sB (M.bs i) (md i))/\BlkI z PF 56 (sA s d))) (by kernel_rfl) hS0 (fun ah=>?_)
       refine tk 0 (.bool true) rfl ah ?_
       simp only[pz]
       refine tk 1 (.bool false) rfl ah ?_
       simp only[pz]
       refine tk 2 (.bool false) rfl ah ?_
       simp only[pz]
       refine tk 3 (.agg (sA s d)) rfl ah ?_ (.inl ⟨by rfl,fun z hSz=>by(have h0:=hSz.2.cell 0;have h1:=hSz.2.cell 1;have h2:=hSz.2.cell 2;have h3:=hSz.2.cell 3;have h4:=hSz.2.cell 4;have h5:=hSz.2.cell 5;have h6:=hSz.2.cell 6;have h7:=hSz.2.cell 7;go_simp)⟩)
       simp only[pz]
       refine tk 5 (.pointer (some ⟨wr.heap.size,1,none⟩)) rfl ah ?_
       simp only[pz]
       refine tk 6 (.agg (sA (M.bs i) (md i))) rfl ah ?_ (.inl ⟨by rfl,fun z hSz=>by(have h1:=hSz.1.cell 1;have h2:=hSz.1.cell 2;have h3:=hSz.1.cell 3;have h4:=hSz.1.cell 4;have h5:=hSz.1.cell 5;have h6:=hSz.1.cell 6;have h7:=hSz.1.cell 7;have h8:=hSz.1.cell 8;go_simp)⟩)
       simp only[pz]
       refine rdy 4 rfl (fun K hK=>?_)
       go_simp
       with_reducible refine ho1.mono ?_
       rintro r w7 ⟨va,rfl,hia,hb7⟩
       have hS7:(fun z=>BlkI z wr.heap.size 58 (sB (M.bs i) (md i))/\BlkI z PF 56 (sA s d)) w7:=⟨Q6.out.below hb7,F6.out.below hb7⟩
       have B7:Hid (Below w.heap.size w w7):=B6d.out.trans (hb7.mono B6d.out.size)
       have hia:Hid (IAt w7 va s.c.v):=hia
       have ho2:=fw.out i hlt w7 B7.out
       refine hK.out _ _ hS7 (fun af=>?_)
       clear hK K ah
       try simp only[pz]
       refine rdy 7 rfl (fun K hK=>?_)
       go_simp
       with_reducible refine ho2.mono ?_
       rintro r w8 ⟨vb,rfl,hib,hb8⟩
       have hS8:(fun z=>BlkI z wr.heap.size 58 (sB (M.bs i) (md i))/\BlkI z PF 56 (sA s d)) w8:=⟨hS7.1.below hb8,hS7.2.below hb8⟩
       have B8:Hid (Below w.heap.size w w8):=B7.out.trans (hb8.mono B7.out.size)
       have hw:=hwi.out w8 va vb (hia.out.below hb8) hib
       refine hK.out _ _ hS8 (fun al=>?_)
       clear hK K af
       try simp only[pz]
       refine rdy 8 rfl (fun K hK=>?_)
       go_simp
       with_reducible refine hw.mono ?_
       rintro r w9 ⟨rfl,hb9⟩
       have hS9:(fun z=>BlkI z wr.heap.size 58 (sB (M.bs i) (md i))/\BlkI z PF 56 (sA s d)) w9:=⟨hS8.1.below hb9,hS8.2.below hb9⟩
       have B9:Hid (Below w.heap.size w w9):=B8.out.trans (hb9.mono B8.out.size)
       have Bf:Hid (Below W6.drew.heap.size W6.drew w9):=hb7.trans ((hb8.trans (hb9.mono hb8.size)).mono hb7.size)
       refine hK.out _ _ hS9 (fun aJ=>?_)
       clear hK K al
       try simp only[pz]
       refine tk 9 (.bool true) rfl aJ ?_
       simp only[pz]
       refine tk 10 (.bool true) rfl aJ ?_
       simp only[pz]
       refine wpAnyH_done (by kernel_rfl) ?_ _
       go_wp2_with fail
       go_ret2
       refine⟨?_,B9.out⟩
       have hz:Z=false:=by
        rw[<-hZ2.out,zcw hlt hsd.out]
        rfl
       rw[hz]
       rfl
      | true=>
       go_upto_region 14 with(go_at_call 15;(with_reducible refine hf1.mono ?_);rintro r w4 ⟨⟨s,d,rfl,hfd⟩,hb4⟩)
       have B4:Hid (Below w.heap.size w w4):=BB.out.trans (hb4.mono BB.out.size)
       have hb5:Below w4.heap.size w4 (w4.alloc (.cells (sA s d) 56)):=zaa w4 _
       have B6:=zac (B4.out.trans (hb5.mono B4.out.size))
       have Q6:BlkI (w4.alloc (.cells (sA s d) 56)) wr.heap.size 58 (sB (M.bs i) (md i)):=(Q1.out.below hb4).below hb5
       have F6:BlkI (w4.alloc (.cells (sA s d) 56)) w4.heap.size 56 (sA s d):=heap_alloc_new _ _
       have Bc6:Below wc.heap.size wc (w4.alloc (.cells (sA s d) 56)):=hbw.out.trans ((hb1.trans ((hb4.trans (hb5.mono hb4.size)).mono hb1.size)).mono hbw.out.size)
       obtain⟨hsj,hsk⟩:=hfd.out j rfl
       have hsk:SiOk (w4.alloc (.cells (sA s d) 56)) s d:=hsk.below hb5
       rw[<-hsj] at hwi
       have hwi:=zac hwi
       clear x0 x1 x2 x3 x4 x5 x6 x7 x8 c8 hb1 BB Q1 hb4 hb5 B4 hf1 hfd hsj
       generalize (w4.alloc (.cells (sA s d) 56))=W6 at*
       generalize w4.heap.size=PF at*
       have B6d:Hid (Below w.heap.size w W6.drew):=B6.out.drew
       have Q6:Hid (BlkI W6.drew wr.heap.size 58 #[.string (M.bs i).m,.bool (M.bs i).g1,.slice (md i).q1 (md i).l1 (md i).c1,.slice (md i).p1 (md i).m1 (md i).e1,.bool (M.bs i).g2,.slice (md i).q2 (md i).l2 (md i).c2,.slice (md i).p2 (md i).m2 (md i).e2,.bool (M.bs i).li,.bool (M.bs i).hh]):=Q6
       have F6:Hid (BlkI W6.drew PF 56 (iA s.g1 d.q1 d.l1 d.c1 d.p1 d.m1 d.e1 s.g2 d.q2 d.l2 d.c2 d.p2 d.m2 d.e2 s.li s.hh)):=F6
       have Bc6:Hid (Below wc.heap.size wc W6.drew):=Bc6.drew
       have hsk:SiOk W6.drew s d:=hsk
       have ho1:=fu.out W6.drew s d hsk
       have hS0:(fun z=>BlkI z wr.heap.size 58 (sB (M.bs i) (md i))/\BlkI z PF 56 (sA s d)) W6.drew:=⟨Q6.out,F6.out⟩
       refine wp_region_held_drew (S:=(fun z=>BlkI z wr.heap.size 58 (sB (M.bs i) (md i))/\BlkI z PF 56 (sA s d))) (by kernel_rfl) hS0 (fun ah=>?_)
       refine tk 0 (.bool true) rfl ah ?_
       simp only[pz]
       refine tk 1 (.bool false) rfl ah ?_
       simp only[pz]
       refine tk 2 (.bool false) rfl ah ?_
       simp only[pz]
       refine tk 3 (.agg (sA s d)) rfl ah ?_ (.inl ⟨by rfl,fun z hSz=>by(have h0:=hSz.2.cell 0;have h1:=hSz.2.cell 1;have h2:=hSz.2.cell 2;have h3:=hSz.2.cell 3;have h4:=hSz.2.cell 4;have h5:=hSz.2.cell 5;have h6:=hSz.2.cell 6;have h7:=hSz.2.cell 7;go_simp)⟩)
       simp only[pz]
       refine tk 5 (.pointer (some ⟨wr.heap.size,1,none⟩)) rfl ah ?_
       simp only[pz]
       refine tk 6 (.agg (sA (M.bs i) (md i))) rfl ah ?_ (.inl ⟨by rfl,fun z hSz=>by(have h1:=hSz.1.cell 1;have h2:=hSz.1.cell 2;have h3:=hSz.1.cell 3;have h4:=hSz.1.cell 4;have h5:=hSz.1.cell 5;have h6:=hSz.1.cell 6;have h7:=hSz.1.cell 7;have h8:=hSz.1.cell 8;go_simp)⟩)
       simp only[pz]
       refine rdy 4 rfl (fun K hK=>?_)
       go_simp
       with_reducible refine ho1.mono ?_
       rintro r w7 ⟨va,rfl,hia,hb7⟩
       have hS7:(fun z=>BlkI z wr.heap.size 58 (sB (M.bs i) (md i))/\BlkI z PF 56 (sA s d)) w7:=⟨Q6.out.below hb7,F6.out.below hb7⟩
       have B7:Hid (Below w.heap.size w w7):=B6d.out.trans (hb7.mono B6d.out.size)
       have hia:Hid (IAt w7 va s.c.v):=hia
       have ho2:=fw.out i hlt w7 B7.out
       refine hK.out _ _ hS7 (fun af=>?_)
       clear hK K ah
       try simp only[pz]
       refine rdy 7 rfl (fun K hK=>?_)
       go_simp
       with_reducible refine ho2.mono ?_
       rintro r w8 ⟨vb,rfl,hib,hb8⟩
       have hS8:(fun z=>BlkI z wr.heap.size 58 (sB (M.bs i) (md i))/\BlkI z PF 56 (sA s d)) w8:=⟨hS7.1.below hb8,hS7.2.below hb8⟩
       have B8:Hid (Below w.heap.size w w8):=B7.out.trans (hb8.mono B7.out.size)
       have hw:=hwi.out w8 va vb (hia.out.below hb8) hib
       refine hK.out _ _ hS8 (fun al=>?_)
       clear hK K af
       try simp only[pz]
       refine rdy 8 rfl (fun K hK=>?_)
       go_simp
       with_reducible refine hw.mono ?_
       rintro r w9 ⟨rfl,hb9⟩
       have hS9:(fun z=>BlkI z wr.heap.size 58 (sB (M.bs i) (md i))/\BlkI z PF 56 (sA s d)) w9:=⟨hS8.1.below hb9,hS8.2.below hb9⟩
       have B9:Hid (Below w.heap.size w w9):=B8.out.trans (hb9.mono B8.out.size)
       have Bf:Hid (Below W6.drew.heap.size W6.drew w9):=hb7.trans ((hb8.trans (hb9.mono hb8.size)).mono hb7.size)
       refine hK.out _ _ hS9 (fun aJ=>?_)
       clear hK K al
       try simp only[pz]
       refine tk 9 (.bool false) rfl aJ ?_
       simp only[pz]
       refine tk 10 (.bool false) rfl aJ ?_
       simp only[pz]
       refine wpAnyH_done (by kernel_rfl) ?_ _
       go_wp2_with fail
       go_roundw
       case rel=>
        refine⟨i+1,by omega,by go_num,fun q hq=>?_,Bc6.out.trans (Bf.out.mono Bc6.out.size)⟩
        rcases Nat.lt_or_ge q i with h | h
        ·exact aE.out q h
        ·obtain rfl:q=i:=by omega
         exact hsd.out
       case measure=>simp[intOf];omega
    ·obtain rfl:i=M.nb:=by omega
     have eS:Hid (((List.range M.nb).all fun i=>sdCv C (M.bs i))=true):=zdi aE.out
     have m9:wr.cell? ⟨w3.heap.size,9,none⟩=some (.slice DM.cq M.nc DM.cc):=Pr.out.cell 9
     clear hF' fu fw gI cU aE J7 P7 Pr
     go_wp2_with fail
     generalize hwo:wr=wo at*
     clear hwo wr
     go_loopw [89] (fun t WZ=>∃q:Nat,q<=M.nc/\t=.int .i64 q/\Hid (∀p,p<q->((List.range C.nc).any fun j=>coSv (C.cs j) (M.cs p))=true)/\Hid (Below wo.heap.size wo WZ)) (fun t _=>M.nc - (intOf t).toNat)
     case atStart=>exact⟨0,Nat.zero_le _,rfl,fun j hj=>by omega,Below.refl _ _⟩
     case round=>
      obtain⟨i,hq,rfl,aE,hbz⟩:=hrel
      have Bz:Hid (Below w.heap.size w wr):=Br.out.trans (hbz.out.mono Br.out.size)
      have Jz:Hid (BlkI wr (w.heap.size+1) 34 (nC DC.d stc DC.bq C.nb DC.bc DC.cq C.nc DC.cc)):=Jr.out.below hbz.out
      clear m9
      by_cases cK:i<M.nc
      ·have iG:(i:Int)<(M.nc:Int):=by omega
       obtain⟨b3,o3,hbq,bv,hr3⟩:=eR.out.resolve_left (by omega)
       have hr3:=zad (hr3 i cK) Bz.out bv
       rw[hbq]
       have x0:wr.cell? ⟨b3,o3+i*8,none⟩=some (.int .i64 (me i).k):=by simpa using hr3 0 _ rfl
       have x1:wr.cell? ⟨b3,o3+i*8+1,none⟩=some (.int .i64 (me i).f):=by simpa using hr3 1 _ rfl
       have x2:wr.cell? ⟨b3,o3+i*8+2,none⟩=some (.bool (me i).neg):=by simpa using hr3 2 _ rfl
       have x3:wr.cell? ⟨b3,o3+i*8+3,none⟩=some (.slice (me i).aq (me i).an (me i).ac):=by simpa using hr3 3 _ rfl
       have x4:wr.cell? ⟨b3,o3+i*8+4,none⟩=some (.slice (me i).cq (me i).cn (me i).cc):=by simpa using hr3 4 _ rfl
       have x5:wr.cell? ⟨b3,o3+i*8+5,none⟩=some (.string (me i).m):=by simpa using hr3 5 _ rfl
       have x6:wr.cell? ⟨b3,o3+i*8+6,none⟩=some (.slice (me i).sq (me i).sn (me i).sc):=by simpa using hr3 6 _ rfl
       have x7:wr.cell? ⟨b3,o3+i*8+7,none⟩=some (.bool (M.cs i).st):=by simpa using hr3 7 _ rfl
       have hbB:Below wr.heap.size wr (wr.alloc (.cells #[.int .i64 (me i).k,.int .i64 (me i).f,.bool (me i).neg,.slice (me i).aq (me i).an (me i).ac,.slice (me i).cq (me i).cn (me i).cc,.string (me i).m,.slice (me i).sq (me i).sn (me i).sc,.bool (M.cs i).st] 50)):=zaa wr _
       have BB:=zac (Bz.out.trans (hbB.mono Bz.out.size))
       have JB:Hid (BlkI (wr.alloc (.cells #[.int .i64 (me i).k,.int .i64 (me i).f,.bool (me i).neg,.slice (me i).aq (me i).an (me i).ac,.slice (me i).cq (me i).cn (me i).cc,.string (me i).m,.slice (me i).sq (me i).sn (me i).sc,.bool (M.cs i).st] 50)) wr.heap.size 50 #[.int .i64 (me i).k,.int .i64 (me i).f,.bool (me i).neg,.slice (me i).aq (me i).an (me i).ac,.slice (me i).cq (me i).cn (me i).cc,.string (me i).m,.slice (me i).sq (me i).sn (me i).sc,.bool (M.cs i).st]):=heap_alloc_new _ _
       have JC:=zac (Jz.out.below hbB)
       have hbo:=zac (hbz.out.trans (hbB.mono hbz.out.size))
       have hc1:=hG'.out i cK _ BB.out
       obtain⟨V,hV⟩:∃V,((List.range C.nc).any fun j=>coSv (C.cs j) (M.cs i))=V:=⟨_,rfl⟩
       have hV:=zac hV
       rw[hV.out] at hc1
       cases V with
       | false=>
        go_upto_region 20 with fail
        clear hr3 x0 x1 x2 x3 x4 x5 x6 x7 hbB
        generalize (wr.alloc (.cells #[.int .i64 (me i).k,.int .i64 (me i).f,.bool (me i).neg,.slice (me i).aq (me i).an (me i).ac,.slice (me i).cq (me i).cn (me i).cc,.string (me i).m,.slice (me i).sq (me i).sn (me i).sc,.bool (M.cs i).st] 50))=W4 at*
        obtain⟨x0,x1,x2,x3,x4,x5,x6,x7⟩:=JB.out.c8
        obtain⟨y0,y1,y2,y3,y4,y5,y6,y7,y8,y9⟩:=JC.out.c10
        go_wp2_with (go_at_call 18;with_reducible refine hc1.mono ?_;rintro r w4 ⟨rfl,hb4⟩)
        go_ret2
        refine⟨?_,BB.out.trans (hb4.mono BB.out.size)⟩
        have hz:Z=false:=by
         rw[<-hZ2.out,zcw cK hV.out,Bool.and_false]
        rw[hz]
        rfl
       | true=>
        go_upto_region 20 with fail
        clear hr3 x0 x1 x2 x3 x4 x5 x6 x7 hbB
        generalize (wr.alloc (.cells #[.int .i64 (me i).k,.int .i64 (me i).f,.bool (me i).neg,.slice (me i).aq (me i).an (me i).ac,.slice (me i).cq (me i).cn (me i).cc,.string (me i).m,.slice (me i).sq (me i).sn (me i).sc,.bool (M.cs i).st] 50))=W4 at*
        obtain⟨x0,x1,x2,x3,x4,x5,x6,x7⟩:=JB.out.c8
        obtain⟨y0,y1,y2,y3,y4,y5,y6,y7,y8,y9⟩:=JC.out.c10
        go_wp2_with (go_at_call 18;with_reducible refine hc1.mono ?_;rintro r w4 ⟨rfl,hb4⟩)
        go_roundw
        case rel=>
         refine⟨i+1,by omega,by go_num,fun p hp=>?_,hbo.out.trans (hb4.mono hbo.out.size)⟩
         rcases Nat.lt_or_ge p i with h | h
         ·exact aE.out p h
         ·obtain rfl:p=i:=by omega
          exact hV.out
        case measure=>simp[intOf];omega
      ·obtain rfl:i=M.nc:=by omega
       go_wp2_with fail
       go_ret2
       refine⟨?_,Bz.out⟩
       have hz:Z=true:=by
        rw[<-hZ2.out,eS.out,zdi aE.out]
        rfl
       rw[hz]
       rfl
end Go.Proofs.YtaonejnicgbifaaGreatDoor
