import Derived.Test.YtaonejnicgbifaaGreatDoorQk30
namespace Go.Proofs.YtaonejnicgbifaaGreatDoor
open Go Go.RowKit
set_option maxRecDepth 100000
set_option maxHeartbeats 16000000
def qz (g1:Bool) (n1 d1:Int) (g2:Bool) (n2 d2:Int):Bool:=decide (qS (mkG g1 n1 (denI d1),mkN n1 (denI d1),mkD n1 (denI d1)) (mkG g2 n2 (denI d2),mkN n2 (denI d2),mkD n2 (denI d2))=0)
theorem QAt.form {w:World} {v:Value} {g:Bool} {n d:Int} (h:QAt w v g n d):∃a1 a2 a3 b1 b2 b3,v=.agg (qA g a1 a2 a3 b1 b2 b3):=by
 obtain⟨a,b,ns,ds,rfl,z1,_,_,z2,_,_⟩:=h
 obtain⟨_,_,rfl⟩:=z1.form
 obtain⟨_,_,rfl⟩:=z2.form
 exact⟨_,_,_,_,_,_,rfl⟩
theorem same_ok {w:World} {g1 g2:Bool} {q1 p1 q2 p2:Option Addr} {l1 c1 m1 e1 l2 c2 m2 e2:Nat} {nu1 de1 nu2 de2:List Int} (h1:Sl w (.slice q1 l1 c1) nu1) (h2:Sl w (.slice p1 m1 e1) de1) (h3:Sl w (.slice q2 l2 c2) nu2) (h4:Sl w (.slice p2 m2 e2) de2) (b1:nu1.length<=1048576) (b2:de1.length<=1048576) (b3:nu2.length<=1048576) (b4:de2.length<=1048576):
  Calls Tryz.prog 65 #[.agg (qA g1 q1 l1 c1 p1 m1 e1),.agg (qA g2 q2 l2 c2 p2 m2 e2)] w fun e w'=>e=.returned (.bool (qz g1 (val nu1) (val de1) g2 (val nu2) (val de2)))/\Below w.heap.size w w':=by
 obtain⟨L,L1,L2,L3⟩:=zb8
 have t1:=zbz L2 L3 h1.1 h2.1 (by omega) (by omega)
 have t2:=zbz L2 L3 h3.1 h4.1 (by omega) (by omega)
 have k1:Hid (∀z,Below w.heap.size w z->Calls Tryz.prog 40 #[.agg (qA g1 q1 l1 c1 p1 m1 e1)] z fun e w'=>∃v,e=.returned v/\QAt w' v (mkG g1 (val nu1) (denI (val de1))) (mkN (val nu1) (denI (val de1))) (mkD (val nu1) (denI (val de1)))/\Below z.heap.size z w'):=fun z hz=>zbn (h1.below hz) (h2.below hz) (by omega) (by omega)
 have k2:Hid (∀z,Below w.heap.size w z->Calls Tryz.prog 40 #[.agg (qA g2 q2 l2 c2 p2 m2 e2)] z fun e w'=>∃v,e=.returned v/\QAt w' v (mkG g2 (val nu2) (denI (val de2))) (mkN (val nu2) (denI (val de2))) (mkD (val nu2) (denI (val de2)))/\Below z.heap.size z w'):=fun z hz=>zbn (h3.below hz) (h4.below hz) (by omega) (by omega)
 have k3:Hid (∀z a b,QAt z a (mkG g1 (val nu1) (denI (val de1))) (mkN (val nu1) (denI (val de1))) (mkD (val nu1) (denI (val de1)))->QAt z b (mkG g2 (val nu2) (denI (val de2))) (mkN (val nu2) (denI (val de2))) (mkD (val nu2) (denI (val de2)))->Calls Tryz.prog 39 #[a,b] z fun e w'=>e=.returned (.int .i64 (qS (mkG g1 (val nu1) (denI (val de1)),mkN (val nu1) (denI (val de1)),mkD (val nu1) (denI (val de1))) (mkG g2 (val nu2) (denI (val de2)),mkN (val nu2) (denI (val de2)),mkD (val nu2) (denI (val de2)))))/\Below z.heap.size z w'):=fun z a b ha hb=>ze4 ha hb L1 t1 t2
 unfold qz
 generalize qS (mkG g1 (val nu1) (denI (val de1)),mkN (val nu1) (denI (val de1)),mkD (val nu1) (denI (val de1))) (mkG g2 (val nu2) (denI (val de2)),mkN (val nu2) (denI (val de2)),mkD (val nu2) (denI (val de2)))=R at*
 generalize mkG g1 (val nu1) (denI (val de1))=G1 at*
 generalize mkN (val nu1) (denI (val de1))=X1 at*
 generalize mkD (val nu1) (denI (val de1))=Y1 at*
 generalize mkG g2 (val nu2) (denI (val de2))=G2 at*
 generalize mkN (val nu2) (denI (val de2))=X2 at*
 generalize mkD (val nu2) (denI (val de2))=Y2 at*
 have hb0:Hid (Below w.heap.size w ((w.alloc (.cells (qA g1 q1 l1 c1 p1 m1 e1) 27)).alloc (.cells (qA g2 q2 l2 c2 p2 m2 e2) 27))):=zah w _ _
 have hJ1:Hid (BlkI ((w.alloc (.cells (qA g1 q1 l1 c1 p1 m1 e1) 27)).alloc (.cells (qA g2 q2 l2 c2 p2 m2 e2) 27)) w.heap.size 27 (qA g1 q1 l1 c1 p1 m1 e1)):=by
  have h:BlkI (w.alloc (.cells (qA g1 q1 l1 c1 p1 m1 e1) 27)) w.heap.size 27 (qA g1 q1 l1 c1 p1 m1 e1):=heap_alloc_new _ _
  exact h.below (zaa _ _)
 have hJ2:Hid (BlkI ((w.alloc (.cells (qA g1 q1 l1 c1 p1 m1 e1) 27)).alloc (.cells (qA g2 q2 l2 c2 p2 m2 e2) 27)) (w.heap.size+1) 27 (qA g2 q2 l2 c2 p2 m2 e2)):=by
  have h:BlkI ((w.alloc (.cells (qA g1 q1 l1 c1 p1 m1 e1) 27)).alloc (.cells (qA g2 q2 l2 c2 p2 m2 e2) 27)) (w.alloc (.cells (qA g1 q1 l1 c1 p1 m1 e1) 27)).heap.size 27 (qA g2 q2 l2 c2 p2 m2 e2):=heap_alloc_new _ _
  rwa [show (w.alloc (.cells (qA g1 q1 l1 c1 p1 m1 e1) 27)).heap.size=w.heap.size+1 by simp] at h
 have he:(R==0)=decide (R=0):=by by_cases h:R=0<;>simp[h]
 have he:Hid ((R==0)=decide (R=0)):=he
 clear h1 h2 h3 h4 t1 t2 L3
 go_enter Tryz.func65,Tryz.ntmps65
 go_upto_region 1 with fail
 generalize ((w.alloc (.cells (qA g1 q1 l1 c1 p1 m1 e1) 27)).alloc (.cells (qA g2 q2 l2 c2 p2 m2 e2) 27))=W0 at*
 have hbd:Hid (Below w.heap.size w W0.drew):=hb0.out.drew
 have hS0:(fun z=>BlkI z w.heap.size 27 (qA g1 q1 l1 c1 p1 m1 e1)/\BlkI z (w.heap.size+1) 27 (qA g2 q2 l2 c2 p2 m2 e2)) W0.drew:=⟨hJ1.out,hJ2.out⟩
 refine wp_region_held_drew (S:=(fun z=>BlkI z w.heap.size 27 (qA g1 q1 l1 c1 p1 m1 e1)/\BlkI z (w.heap.size+1) 27 (qA g2 q2 l2 c2 p2 m2 e2))) (by kernel_rfl) hS0 (fun ah=>?_)
 refine tk 0 (.agg (qA g1 q1 l1 c1 p1 m1 e1)) rfl ah ?_ (.inl ⟨by rfl,fun z hSz=>by(have h0:=hSz.1.cell 0;have h1:=hSz.1.cell 1;have h2:=hSz.1.cell 2;go_simp)⟩)
 simp only[pz]
 refine tk 2 (.agg (qA g2 q2 l2 c2 p2 m2 e2)) rfl ah ?_ (.inl ⟨by rfl,fun z hSz=>by(have h0:=hSz.2.cell 0;have h1:=hSz.2.cell 1;have h2:=hSz.2.cell 2;go_simp)⟩)
 simp only[pz]
 refine rdy 1 rfl (fun K hK=>?_)
 go_simp
 refine(k1.out _ hbd.out).mono ?_
 rintro e w3 ⟨v1,rfl,hq1,hb3⟩
 obtain⟨x1,x2,x3,x4,x5,x6,rfl⟩:=hq1.form
 have B3:Hid (Below w.heap.size w w3):=hbd.out.trans (hb3.mono hbd.out.size)
 have hS3:(fun z=>BlkI z w.heap.size 27 (qA g1 q1 l1 c1 p1 m1 e1)/\BlkI z (w.heap.size+1) 27 (qA g2 q2 l2 c2 p2 m2 e2)) w3:=⟨hS0.1.below hb3,hS0.2.below hb3⟩
 refine hK.out _ _ hS3 (fun af=>?_)
 clear hK K ah
 try simp only[pz]
 refine rdy 3 rfl (fun K hK=>?_)
 go_simp
 refine(k2.out _ B3.out).mono ?_
 rintro e w4 ⟨v2,rfl,hq2,hb4⟩
 obtain⟨u1,u2,u3,u4,u5,u6,rfl⟩:=hq2.form
 have B4:Hid (Below w.heap.size w w4):=B3.out.trans (hb4.mono B3.out.size)
 have hS4:(fun z=>BlkI z w.heap.size 27 (qA g1 q1 l1 c1 p1 m1 e1)/\BlkI z (w.heap.size+1) 27 (qA g2 q2 l2 c2 p2 m2 e2)) w4:=⟨hS3.1.below hb4,hS3.2.below hb4⟩
 have hc:=k3.out w4 _ _ (hq1.below hb4) hq2
 refine hK.out _ _ hS4 (fun al=>?_)
 clear hK K af
 try simp only[pz]
 refine rdy 4 rfl (fun K hK=>?_)
 go_simp
 refine hc.mono ?_
 rintro e w5 ⟨rfl,hb5⟩
 have hS5:(fun z=>BlkI z w.heap.size 27 (qA g1 q1 l1 c1 p1 m1 e1)/\BlkI z (w.heap.size+1) 27 (qA g2 q2 l2 c2 p2 m2 e2)) w5:=⟨hS4.1.below hb5,hS4.2.below hb5⟩
 refine hK.out _ _ hS5 (fun aJ=>?_)
 clear hK K al
 try simp only[pz]
 refine tk 5 (.bool (R==0)) rfl aJ ?_
 simp only[pz]
 refine tk 6 (.bool (R==0)) rfl aJ ?_
 simp only[pz]
 refine wpAnyH_done (by kernel_rfl) ?_ _
 go_wp2_with fail
 go_ret
 exact⟨by rw[<-he.out];rfl,B4.out.trans (hb5.mono B4.out.size)⟩
theorem zja {w:World} {g1 g2:Bool} {q1 p1 q2 p2:Option Addr} {l1 c1 m1 e1 l2 c2 m2 e2:Nat} {nu1 de1 nu2 de2:List Int} (h1:Sl w (.slice q1 l1 c1) nu1) (h2:Sl w (.slice p1 m1 e1) de1) (h3:Sl w (.slice q2 l2 c2) nu2) (h4:Sl w (.slice p2 m2 e2) de2) (b1:nu1.length<=1048576) (b2:de1.length<=1048576) (b3:nu2.length<=1048576) (b4:de2.length<=1048576) (hT:Tb w) (hl1:large (val nu1) (val de1)=false) (hl2:large (val nu2) (val de2)=false):
  Calls Tryz.prog 116 #[.agg (qA g1 q1 l1 c1 p1 m1 e1),.agg (qA g2 q2 l2 c2 p2 m2 e2)] w fun e w'=>e=.returned (.tuple #[.int .i64 (fcS (mkG g1 (val nu1) (denI (val de1))) (mkN (val nu1) (denI (val de1))) (mkD (val nu1) (denI (val de1))) (mkG g2 (val nu2) (denI (val de2))) (mkN (val nu2) (denI (val de2))) (mkD (val nu2) (denI (val de2)))),.int .i64 0])/\Below w.heap.size w w':=by
 obtain rfl:=h1.len_eq
 obtain rfl:=h2.len_eq
 obtain rfl:=h3.len_eq
 obtain rfl:=h4.len_eq
 have hr1:=fun z (hz:Below w.heap.size w z)=>zbu (g:=g1) (h1.below hz) (h2.below hz) (by omega) (by omega) (hT.below hz)
 have hr2:=fun z (hz:Below w.heap.size w z)=>zbu (g:=g2) (h3.below hz) (h4.below hz) (by omega) (by omega) (hT.below hz)
 simp only[hl1,hl2,Bool.not_false] at hr1 hr2
 have hr1:Hid (∀z,Below w.heap.size w z->Calls Tryz.prog 110 #[.agg (qA g1 q1 nu1.length c1 p1 de1.length e1)] z fun e w'=>∃f g' n' d',e=.returned (.tuple #[f,.bool true])/\FAt w' f g' n' d'/\(false=false->g'=mkG g1 (val nu1) (denI (val de1))/\n'=mkN (val nu1) (denI (val de1))/\d'=mkD (val nu1) (denI (val de1)))/\Below z.heap.size z w'):=fun z hz=>(hr1 z hz).mono fun e w' h=>by
  obtain⟨f,g',n',d',h1,h2,h3,h4⟩:=h
  exact⟨f,g',n',d',h1,h2,fun _=>by simpa using h3,h4⟩
 have hr2:Hid (∀z,Below w.heap.size w z->Calls Tryz.prog 110 #[.agg (qA g2 q2 nu2.length c2 p2 de2.length e2)] z fun e w'=>∃f g' n' d',e=.returned (.tuple #[f,.bool true])/\FAt w' f g' n' d'/\(false=false->g'=mkG g2 (val nu2) (denI (val de2))/\n'=mkN (val nu2) (denI (val de2))/\d'=mkD (val nu2) (denI (val de2)))/\Below z.heap.size z w'):=fun z hz=>(hr2 z hz).mono fun e w' h=>by
  obtain⟨f,g',n',d',h1,h2,h3,h4⟩:=h
  exact⟨f,g',n',d',h1,h2,fun _=>by simpa using h3,h4⟩
 generalize hG1:mkG g1 (val nu1) (denI (val de1))=G1 at*
 generalize mkN (val nu1) (denI (val de1))=X1 at*
 generalize mkD (val nu1) (denI (val de1))=Y1 at*
 generalize mkG g2 (val nu2) (denI (val de2))=G2 at*
 generalize mkN (val nu2) (denI (val de2))=X2 at*
 generalize mkD (val nu2) (denI (val de2))=Y2 at*
 clear hG1 h1 h2 h3 h4 hT hl1 hl2
 have hb0:Hid (Below w.heap.size w ((w.alloc (.cells (qA g1 q1 nu1.length c1 p1 de1.length e1) 27)).alloc (.cells (qA g2 q2 nu2.length c2 p2 de2.length e2) 27))):=zah w _ _
 have h10:=hr1.out _ hb0.out
 have hl0:w.heap.size+1<((w.alloc (.cells (qA g1 q1 nu1.length c1 p1 de1.length e1) 27)).alloc (.cells (qA g2 q2 nu2.length c2 p2 de2.length e2) 27)).heap.size:=by simp
 have y0:((w.alloc (.cells (qA g1 q1 nu1.length c1 p1 de1.length e1) 27)).alloc (.cells (qA g2 q2 nu2.length c2 p2 de2.length e2) 27)).cell? ⟨w.heap.size+1,0,none⟩=some (.bool g2):=by simp
 have y1:((w.alloc (.cells (qA g1 q1 nu1.length c1 p1 de1.length e1) 27)).alloc (.cells (qA g2 q2 nu2.length c2 p2 de2.length e2) 27)).cell? ⟨w.heap.size+1,1,none⟩=some (.slice q2 nu2.length c2):=by simp
 have y2:((w.alloc (.cells (qA g1 q1 nu1.length c1 p1 de1.length e1) 27)).alloc (.cells (qA g2 q2 nu2.length c2 p2 de2.length e2) 27)).cell? ⟨w.heap.size+1,2,none⟩=some (.slice p2 de2.length e2):=by simp
 go_enter Tryz.func116,Tryz.ntmps116
 go_wp2_with (first
  | (go_at_call 110;with_reducible refine h10.mono ?_;clear h10;rintro e w3 ⟨f,g',n',d',rfl,hf,heq,hb3⟩
     obtain⟨z1,z2,z3⟩:=heq (by simp)
     rw[z1,z2,z3] at hf
     clear heq z1 z2 z3
     obtain⟨fa,fb,ns,ds,rfl,z1,z2,z3,z4,z5,z6,z7,z8⟩:=hf
     obtain⟨qn,kn,rfl⟩:=z1.form
     obtain⟨qm,km,rfl⟩:=z4.form
     have B3:Hid (Below w.heap.size w w3):=hb0.out.trans (hb3.mono hb0.out.size)
     have hb4:Below w3.heap.size w3 (w3.alloc (.cells (qA G1 qn ns.length kn qm ds.length km) 107)):=zaa w3 _
     have B4:=zac (B3.out.trans (hb4.mono B3.out.size))
     have L3:w.heap.size+1<w3.heap.size:=Nat.lt_of_lt_of_le hl0 hb3.size
     have F1:Hid (FAt (w3.alloc (.cells (qA G1 qn ns.length kn qm ds.length km) 107)) (.agg (qA G1 qn ns.length kn qm ds.length km)) G1 X1 Y1):=FAt.below ⟨_,_,ns,ds,rfl,z1,z2,z3,z4,z5,z6,z7,z8⟩ hb4
     have J1:Hid (BlkI (w3.alloc (.cells (qA G1 qn ns.length kn qm ds.length km) 107)) w3.heap.size 107 (qA G1 qn ns.length kn qm ds.length km)):=heap_alloc_new _ _
     have a0:=(hb4.cell (p:=⟨w.heap.size+1,0,none⟩) (by exact L3)).trans ((hb3.cell (p:=⟨w.heap.size+1,0,none⟩) (by exact hl0)).trans y0)
     have a1:=(hb4.cell (p:=⟨w.heap.size+1,1,none⟩) (by exact L3)).trans ((hb3.cell (p:=⟨w.heap.size+1,1,none⟩) (by exact hl0)).trans y1)
     have a2:=(hb4.cell (p:=⟨w.heap.size+1,2,none⟩) (by exact L3)).trans ((hb3.cell (p:=⟨w.heap.size+1,2,none⟩) (by exact hl0)).trans y2)
     have h20:=hr2.out _ B4.out
     clear hb3 hb4 z1 z2 z3 z4 z5 z6 z7 z8 y0 y1 y2)
  | (go_at_call 110;with_reducible refine h20.mono ?_;clear h20;rintro e w5 ⟨f2,g2',n2',d2',rfl,hf,heq,hb3⟩
     obtain⟨z1,z2,z3⟩:=heq (by simp)
     rw[z1,z2,z3] at hf
     clear heq z1 z2 z3
     obtain⟨fa,fb,ns2,ds2,rfl,z1,z2,z3,z4,z5,z6,z7,z8⟩:=hf
     obtain⟨qn2,kn2,rfl⟩:=z1.form
     obtain⟨qm2,km2,rfl⟩:=z4.form
     have B5:Hid (Below w.heap.size w w5):=B4.out.trans (hb3.mono B4.out.size)
     have hb4:Below w5.heap.size w5 (w5.alloc (.cells (qA G2 qn2 ns2.length kn2 qm2 ds2.length km2) 107)):=zaa w5 _
     have cI:Below (w3.alloc (.cells (qA G1 qn ns.length kn qm ds.length km) 107)).heap.size (w3.alloc (.cells (qA G1 qn ns.length kn qm ds.length km) 107)) (w5.alloc (.cells (qA G2 qn2 ns2.length kn2 qm2 ds2.length km2) 107)):=hb3.trans (hb4.mono hb3.size)
     have B6:=zac (B5.out.trans (hb4.mono B5.out.size))
     have F2:FAt (w5.alloc (.cells (qA G2 qn2 ns2.length kn2 qm2 ds2.length km2) 107)) (.agg (qA G2 qn2 ns2.length kn2 qm2 ds2.length km2)) G2 X2 Y2:=FAt.below ⟨_,_,ns2,ds2,rfl,z1,z2,z3,z4,z5,z6,z7,z8⟩ hb4
     have J2:BlkI (w5.alloc (.cells (qA G2 qn2 ns2.length kn2 qm2 ds2.length km2) 107)) w5.heap.size 107 (qA G2 qn2 ns2.length kn2 qm2 ds2.length km2):=heap_alloc_new _ _
     have J1':=J1.out.below cI
     have hcm:=zfq (F1.out.below cI) F2
     have u0:=J1'.cell 0
     have u1:=J1'.cell 1
     have u2:=J1'.cell 2
     have v0:=J2.cell 0
     have v1:=J2.cell 1
     have v2:=J2.cell 2
     simp only[List.getElem?_toArray,List.getElem?_cons_zero,List.getElem?_cons_succ] at u0 u1 u2 v0 v1 v2
     clear hb3 hb4 cI z1 z2 z3 z4 z5 z6 z7 z8 F2 J2 J1')
  | (go_at_call 58;with_reducible refine hcm.mono ?_;rintro e w7 ⟨rfl,hb7⟩))
 go_ret2
 exact⟨rfl,B6.out.trans (hb7.mono B6.out.size)⟩
def Ex.sm:Ex->Ex->Bool
 | .mk k f ng nu de m n ar,.mk k' f' ng' nu' de' m' n' ar'=>
  decide (k=k')&&decide (f=f')&&decide (m.toList=m'.toList)&&qz ng (val nu) (val de) ng' (val nu') (val de')&&(decide (n=n')&&(List.range n).all fun i=>(ar i).sm (ar' i))
 | .non,.non=>true
 | _,_=>false
theorem zhb (k1 f1 k2 f2:Int) (g1 g2:Bool) (aq1 cq1 aq2 cq2:Option Addr) (an1 ac1 cn1 cc1 an2 ac2 cn2 cc2:Nat) (m1 m2:ByteArray) (n p1 p2 b o b2 o2:Nat) (ds es:Nat->Nd) (P:Nat->Bool) (w:World) (hn:n<=1099511627776)
  (hcx:∀i,i<n->NdAt w b (o+i*7) (ds i)) (hcy:∀i,i<n->NdAt w b2 (o2+i*7) (es i)) (hb1:b<w.heap.size) (hb2:b2<w.heap.size)
  (hR:∀w1,Below w.heap.size w w1->Calls Tryz.prog 65 #[.agg (qA g1 aq1 an1 ac1 cq1 cn1 cc1),.agg (qA g2 aq2 an2 ac2 cq2 cn2 cc2)] w1 fun e w'=>e=.returned (.bool true)/\Below w1.heap.size w1 w')
  (hP:∀i,i<n->∀w1,Below w.heap.size w w1->Calls Tryz.prog 38 #[(ds i).val,(es i).val] w1 fun e w'=>e=.returned (.bool (P i))/\Below w1.heap.size w1 w')
  (hk:k1=k2) (hf:f1=f2) (hm:m1.toList=m2.toList):
  Calls Tryz.prog 38 #[.agg (mA k1 f1 g1 aq1 an1 ac1 cq1 cn1 cc1 m1 (some ⟨b,o,none⟩) n p1),.agg (mA k2 f2 g2 aq2 an2 ac2 cq2 cn2 cc2 m2 (some ⟨b2,o2,none⟩) n p2)] w
   fun e w'=>e=.returned (.bool ((List.range n).all P))/\Below w.heap.size w w':=by
 subst hk hf
 have h2:∀o o2,Below w.heap.size w ((w.alloc o).alloc o2):=fun o o2=>zah w o o2
 go_enter Tryz.func38,Tryz.ntmps38
 go_wp2_with (go_at_call 65;refine(hR _ ?_).mono ?_;exact h2 _ _;rintro e w1 ⟨rfl,aV⟩
              have q6:w1.cell? ⟨w.heap.size,6,none⟩=some (.slice (some ⟨b,o,none⟩) n p1):=(aV.cell (by show w.heap.size<_;simp;omega)).trans (by simp)
              have r6:w1.cell? ⟨w.heap.size+1,6,none⟩=some (.slice (some ⟨b2,o2,none⟩) n p2):=(aV.cell (by show w.heap.size+1<_;simp)).trans (by simp)
              have hs1:w.heap.size+2<=w1.heap.size:=by have:=aV.size;simpa using this
              have hW1:=(h2 _ _).trans (aV.mono (h2 _ _).size))
 go_loopw [5] (fun i wr=>∃k:Nat,k<=n/\i=.int .i64 k/\(∀j,j<k->P j=true)/\Below w1.heap.size w1 wr) (fun i _=>n - (intOf i).toNat)
 case atStart=>exact⟨0,Nat.zero_le _,rfl,fun j hj=>by omega,Below.refl _ _⟩
 case round=>
  obtain⟨k,hk,rfl,hag,hbw⟩:=hrel
  have aK:Hid (∀j,j<k->P j=true):=hag
  clear hag
  have hW:Below w.heap.size w wr:=hW1.trans (hbw.mono hW1.size)
  have q6r:=(hbw.cell (p:=⟨w.heap.size,6,none⟩) (by show w.heap.size<_;omega)).trans q6
  have r6r:=(hbw.cell (p:=⟨w.heap.size+1,6,none⟩) (by show w.heap.size+1<_;omega)).trans r6
  by_cases hlt:k<n
  ·have aA:(k:Int)<(n:Int):=by omega
   obtain⟨x0,x1,x2,x3,x4,x5,x6⟩:=(hcx k hlt).below hW hb1
   obtain⟨y0,y1,y2,y3,y4,y5,y6⟩:=(hcy k hlt).below hW hb2
   have hPk:=hP k hlt
   simp only[Nd.val] at hPk
   have hws:=hbw.size
   clear q6 r6 hR
   go_wp2_with fail
   go_region_held3 (fun z=>z.cell? ⟨w.heap.size,6,none⟩=some (.slice (some ⟨b,o,none⟩) n p1)/\z.cell? ⟨w.heap.size+1,6,none⟩=some (.slice (some ⟨b2,o2,none⟩) n p2)/\z.cell? ⟨b,o+k*7,none⟩=some (.int .i64 (ds k).k)/\z.cell? ⟨b,o+k*7+1,none⟩=some (.int .i64 (ds k).f)/\z.cell? ⟨b,o+k*7+2,none⟩=some (.bool (ds k).neg)/\z.cell? ⟨b,o+k*7+3,none⟩=some (.slice (ds k).aq (ds k).an (ds k).ac)/\z.cell? ⟨b,o+k*7+4,none⟩=some (.slice (ds k).cq (ds k).cn (ds k).cc)/\z.cell? ⟨b,o+k*7+5,none⟩=some (.string (ds k).m)/\z.cell? ⟨b,o+k*7+6,none⟩=some (.slice (ds k).sq (ds k).sn (ds k).sc)/\z.cell? ⟨b2,o2+k*7,none⟩=some (.int .i64 (es k).k)/\z.cell? ⟨b2,o2+k*7+1,none⟩=some (.int .i64 (es k).f)/\z.cell? ⟨b2,o2+k*7+2,none⟩=some (.bool (es k).neg)/\z.cell? ⟨b2,o2+k*7+3,none⟩=some (.slice (es k).aq (es k).an (es k).ac)/\z.cell? ⟨b2,o2+k*7+4,none⟩=some (.slice (es k).cq (es k).cn (es k).cc)/\z.cell? ⟨b2,o2+k*7+5,none⟩=some (.string (es k).m)/\z.cell? ⟨b2,o2+k*7+6,none⟩=some (.slice (es k).sq (es k).sn (es k).sc)) (first | exact⟨q6r,r6r,x0,x1,x2,x3,x4,x5,x6,y0,y1,y2,y3,y4,y5,y6⟩ | exact hS5)
    (first
      | (go_at_call 38;refine(hPk _ ?_).mono ?_;exact hW.drew;rintro e w5 ⟨rfl,hb5⟩
         have hs5:wr.heap.size<=wr.drew.heap.size:=Nat.le_refl _
         have hbl:b<wr.drew.heap.size:=by omega
         have cT:b2<wr.drew.heap.size:=by omega
         have hc5:w.heap.size<wr.drew.heap.size:=by omega
         have hc6:w.heap.size+1<wr.drew.heap.size:=by omega
         have hS5:w5.cell? ⟨w.heap.size,6,none⟩=some (.slice (some ⟨b,o,none⟩) n p1)/\w5.cell? ⟨w.heap.size+1,6,none⟩=some (.slice (some ⟨b2,o2,none⟩) n p2)/\w5.cell? ⟨b,o+k*7,none⟩=some (.int .i64 (ds k).k)/\w5.cell? ⟨b,o+k*7+1,none⟩=some (.int .i64 (ds k).f)/\w5.cell? ⟨b,o+k*7+2,none⟩=some (.bool (ds k).neg)/\w5.cell? ⟨b,o+k*7+3,none⟩=some (.slice (ds k).aq (ds k).an (ds k).ac)/\w5.cell? ⟨b,o+k*7+4,none⟩=some (.slice (ds k).cq (ds k).cn (ds k).cc)/\w5.cell? ⟨b,o+k*7+5,none⟩=some (.string (ds k).m)/\w5.cell? ⟨b,o+k*7+6,none⟩=some (.slice (ds k).sq (ds k).sn (ds k).sc)/\w5.cell? ⟨b2,o2+k*7,none⟩=some (.int .i64 (es k).k)/\w5.cell? ⟨b2,o2+k*7+1,none⟩=some (.int .i64 (es k).f)/\w5.cell? ⟨b2,o2+k*7+2,none⟩=some (.bool (es k).neg)/\w5.cell? ⟨b2,o2+k*7+3,none⟩=some (.slice (es k).aq (es k).an (es k).ac)/\w5.cell? ⟨b2,o2+k*7+4,none⟩=some (.slice (es k).cq (es k).cn (es k).cc)/\w5.cell? ⟨b2,o2+k*7+5,none⟩=some (.string (es k).m)/\w5.cell? ⟨b2,o2+k*7+6,none⟩=some (.slice (es k).sq (es k).sn (es k).sc):=⟨(hb5.cell (by exact hc5)).trans q6r,(hb5.cell (by exact hc6)).trans r6r,(hb5.cell (by exact hbl)).trans x0,(hb5.cell (by exact hbl)).trans x1,(hb5.cell (by exact hbl)).trans x2,(hb5.cell (by exact hbl)).trans x3,(hb5.cell (by exact hbl)).trans x4,(hb5.cell (by exact hbl)).trans x5,(hb5.cell (by exact hbl)).trans x6,(hb5.cell (by exact cT)).trans y0,(hb5.cell (by exact cT)).trans y1,(hb5.cell (by exact cT)).trans y2,(hb5.cell (by exact cT)).trans y3,(hb5.cell (by exact cT)).trans y4,(hb5.cell (by exact cT)).trans y5,(hb5.cell (by exact cT)).trans y6⟩))
   have hW5:Below w.heap.size w w5:=hW.drew.trans (hb5.mono hW.drew.size)
   have jf:Below w1.heap.size w1 w5:=hbw.drew.trans (hb5.mono hbw.drew.size)
   clear hS5 x0 x1 x2 x3 x4 x5 x6 y0 y1 y2 y3 y4 y5 y6 q6r r6r hb5
   cases hp:P k with
   | false=>
    go_wp2_with fail
    go_ret
    have bj:(List.range n).all P=false:=by
     rw[List.all_eq_false]
     exact⟨k,List.mem_range.2 hlt,by simp[hp]⟩
    rw[bj]
    exact⟨rfl,hW5⟩
   | true=>
    go_wp2_with fail
    go_roundw
    case rel=>
     refine⟨k+1,by omega,by go_num,fun j hj=>?_,jf⟩
     rcases Nat.lt_or_ge j k with h | h
     ·exact aK.out j h
     ·have:j=k:=by omega
      subst this
      exact hp
    case measure=>simp[intOf];omega
  ·have hk':k=n:=by omega
   subst hk'
   go_wp2_with fail
   go_ret
   refine⟨?_,hW⟩
   have:(List.range k).all P=true:=by
    rw[List.all_eq_true]
    intro j hj
    exact aK.out j (List.mem_range.1 hj)
   rw[this]
   rfl
theorem zhc (k1 f1 k2 f2:Int) (g1 g2:Bool) (aq1 cq1 aq2 cq2 q1 q2:Option Addr) (an1 ac1 cn1 cc1 an2 ac2 cn2 cc2:Nat) (m1 m2:ByteArray) (p1 p2:Nat) (w:World)
  (hR:∀w1,Below w.heap.size w w1->Calls Tryz.prog 65 #[.agg (qA g1 aq1 an1 ac1 cq1 cn1 cc1),.agg (qA g2 aq2 an2 ac2 cq2 cn2 cc2)] w1 fun e w'=>e=.returned (.bool true)/\Below w1.heap.size w1 w')
  (hk:k1=k2) (hf:f1=f2) (hm:m1.toList=m2.toList):
  Calls Tryz.prog 38 #[.agg #[.int .i64 k1,.int .i64 f1,.bool g1,.slice aq1 an1 ac1,.slice cq1 cn1 cc1,.string m1,.slice q1 0 p1],.agg #[.int .i64 k2,.int .i64 f2,.bool g2,.slice aq2 an2 ac2,.slice cq2 cn2 cc2,.string m2,.slice q2 0 p2]] w
   fun e w'=>e=.returned (.bool true)/\Below w.heap.size w w':=by
 subst hk hf
 have h2:∀o o2,Below w.heap.size w ((w.alloc o).alloc o2):=fun o o2=>zah w o o2
 go_enter Tryz.func38,Tryz.ntmps38
 go_wp2_with (go_at_call 65;refine(hR _ ?_).mono ?_;exact h2 _ _;rintro e w1 ⟨rfl,aV⟩
              have q6:w1.cell? ⟨w.heap.size,6,none⟩=some (.slice q1 0 p1):=(aV.cell (by show w.heap.size<_;simp;omega)).trans (by simp)
              have hW1:=(h2 _ _).trans (aV.mono (h2 _ _).size))
 refine wp_loop_once ?_
 go_wp2_with fail
 go_ret
 exact⟨rfl,hW1⟩
theorem zf8 (k1 f1 k2 f2:Int) (g1 g2 R:Bool) (aq1 cq1 aq2 cq2 q1 q2:Option Addr) (an1 ac1 cn1 cc1 an2 ac2 cn2 cc2:Nat) (m1 m2:ByteArray) (n1 n2 p1 p2:Nat) (w:World) (_b1:n1<=1099511627776) (b2:n2<=1099511627776)
  (hR:∀w1,Below w.heap.size w w1->Calls Tryz.prog 65 #[.agg (qA g1 aq1 an1 ac1 cq1 cn1 cc1),.agg (qA g2 aq2 an2 ac2 cq2 cn2 cc2)] w1 fun e w'=>e=.returned (.bool R)/\Below w1.heap.size w1 w')
  (h:¬(k1=k2/\f1=f2/\m1.toList=m2.toList/\n1=n2/\R=true)):
  Calls Tryz.prog 38 #[.agg (mA k1 f1 g1 aq1 an1 ac1 cq1 cn1 cc1 m1 q1 n1 p1),.agg (mA k2 f2 g2 aq2 an2 ac2 cq2 cn2 cc2 m2 q2 n2 p2)] w
   fun e w'=>e=.returned (.bool false)/\Below w.heap.size w w':=by
 have h2:∀o o2,Below w.heap.size w ((w.alloc o).alloc o2):=fun o o2=>zah w o o2
 by_cases hk:k1=k2
 ·subst hk
  by_cases hf:f1=f2
  ·subst hf
   by_cases hm:m1.toList=m2.toList
   ·by_cases hn:n1=n2
    ·subst hn
     have hr:R=false:=by
      cases R
      ·rfl
      ·exact absurd ⟨rfl,rfl,hm,rfl,rfl⟩ h
     subst hr
     clear h
     go_enter Tryz.func38,Tryz.ntmps38
     go_wp2_with (go_at_call 65;refine(hR _ ?_).mono ?_;exact h2 _ _;rintro e w1 ⟨rfl,aV⟩)
     go_ret
     exact⟨rfl,(h2 _ _).trans (aV.mono (h2 _ _).size)⟩
    ·clear h
     have hn':¬(n1:Int)=(n2:Int):=by omega
     go_enter Tryz.func38,Tryz.ntmps38
     go_wp2_with fail
     go_ret
     exact⟨rfl,h2 _ _⟩
   ·clear h
    go_enter Tryz.func38,Tryz.ntmps38
    go_wp2_with fail
    go_ret
    exact⟨rfl,h2 _ _⟩
  ·clear h
   go_enter Tryz.func38,Tryz.ntmps38
   go_wp2_with fail
   go_ret
   exact⟨rfl,h2 _ _⟩
 ·clear h
  go_enter Tryz.func38,Tryz.ntmps38
  go_wp2_with fail
  go_ret
  exact⟨rfl,h2 _ _⟩
theorem zk0:∀(x y:Ex) (d e:Nd) (w:World),ExOk w x d->ExOk w y e->
  Calls Tryz.prog 38 #[d.val,e.val] w fun r w'=>r=.returned (.bool (x.sm y))/\Below w.heap.size w w':=by
 intro x
 induction x with
 | non=>exact fun y d e w hx=>hx.elim
 | mk k f ng nu de m n ar ih=>
  intro y d e w hx hy
  cases y with
  | non=>exact hy.elim
  | mk k' f' ng' nu' de' m' n' ar'=>
  unfold ExOk at hx hy
  obtain⟨⟨rfl,rfl,rfl,rfl,rfl⟩,x2,x3,x4,x5,x6,x7⟩:=hx
  obtain⟨⟨rfl,rfl,rfl,rfl,rfl⟩,y2,y3,y4,y5,y6,y7⟩:=hy
  unfold Ex.sm
  have hR:∀w1,Below w.heap.size w w1->Calls Tryz.prog 65 #[.agg (qA d.neg d.aq d.an d.ac d.cq d.cn d.cc),.agg (qA e.neg e.aq e.an e.ac e.cq e.cn e.cc)] w1 fun r w'=>r=.returned (.bool (qz d.neg (val nu) (val de) e.neg (val nu') (val de')))/\Below w1.heap.size w1 w':=
   fun w1 h1=>same_ok (x2.below h1) (x3.below h1) (y2.below h1) (y3.below h1) x4 x5 y4 y5
  by_cases ht:d.k=e.k/\d.f=e.f/\d.m.toList=e.m.toList/\d.sn=e.sn/\qz d.neg (val nu) (val de) e.neg (val nu') (val de')=true
  ·obtain⟨t1,t2,t3,t4,t5⟩:=ht
   rw[t5] at hR
   have dG:(decide (d.k=e.k)&&decide (d.f=e.f)&&decide (d.m.toList=e.m.toList)&&qz d.neg (val nu) (val de) e.neg (val nu') (val de')&&(decide (d.sn=e.sn)&&(List.range d.sn).all fun i=>(ar i).sm (ar' i)))=(List.range d.sn).all fun i=>(ar i).sm (ar' i):=by
    simp[t1,t2,t3,t4,t5]
   rw[dG]
   by_cases h0:d.sn=0
   ·have h0':e.sn=0:=by omega
    unfold Nd.val
    rw[h0,h0']
    exact zhc _ _ _ _ _ _ _ _ _ _ _ _ _ _ _ _ _ _ _ _ _ _ _ _ w hR t1 t2 t3
   ·rcases x7 with h | ⟨b,o,hq,hlt,ds,hds⟩
    ·exact absurd h h0
    rcases y7 with h | ⟨b',o',hq',aA,es,hes⟩
    ·omega
    unfold Nd.val
    rw[hq,hq',<-t4]
    exact zhb _ _ _ _ _ _ _ _ _ _ _ _ _ _ _ _ _ _ _ _ d.sn _ _ b o b' o' ds es (fun i=>(ar i).sm (ar' i)) w x6 (fun i hi=>(hds i hi).1) (fun i hi=>(hes i (by omega)).1) hlt aA hR
     (fun i hi w2 h2=>ih i (ar' i) (ds i) (es i) w2 ((hds i hi).2.below h2) ((hes i (by omega)).2.below h2)) t1 t2 t3
  ·have dG:(decide (d.k=e.k)&&decide (d.f=e.f)&&decide (d.m.toList=e.m.toList)&&qz d.neg (val nu) (val de) e.neg (val nu') (val de')&&(decide (d.sn=e.sn)&&(List.range d.sn).all fun i=>(ar i).sm (ar' i)))=false:=by
    rw[Bool.eq_false_iff]
    intro hh
    simp only[Bool.and_eq_true,decide_eq_true_eq] at hh
    exact ht ⟨hh.1.1.1.1,hh.1.1.1.2,hh.1.1.2,hh.2.1,hh.1.2⟩
   rw[dG]
   unfold Nd.val
   exact zf8 _ _ _ _ _ _ _ _ _ _ _ _ _ _ _ _ _ _ _ _ _ _ _ _ _ _ _ w x6 y6 hR ht
theorem zhd (b o cap b2 o2 cap2 n:Nat) (xs ys:Nat->Nd) (P:Nat->Bool) (w:World) (hn:n<=1099511627776)
  (hcx:∀i,i<n->NdAt w b (o+i*7) (xs i)) (hcy:∀i,i<n->NdAt w b2 (o2+i*7) (ys i)) (hb1:b<w.heap.size) (hb2:b2<w.heap.size)
  (hP:∀i,i<n->∀w1,Below w.heap.size w w1->Calls Tryz.prog 84 #[(xs i).val,(ys i).val] w1 fun e w'=>e=.returned (.bool (P i))/\Below w1.heap.size w1 w'):
  Calls Tryz.prog 117 #[.slice (some ⟨b,o,none⟩) n cap,.slice (some ⟨b2,o2,none⟩) n cap2,.func (.func 84) #[] #[]] w fun e w'=>e=.returned (.bool ((List.range n).all P))/\Below w.heap.size w w':=by
 go_enter Tryz.func117,Tryz.ntmps117
 go_wp2
 go_loopw [17] (fun i wr=>∃k:Nat,k<=n/\i=.int .i64 k/\(∀j,j<k->P j=true)/\Below w.heap.size w wr) (fun i _=>n - (intOf i).toNat)
 case atStart=>exact⟨0,Nat.zero_le _,rfl,fun j hj=>by omega,Below.refl _ _⟩
 case round=>
  obtain⟨k,hk,rfl,hag,hbw⟩:=hrel
  have aK:Hid (∀j,j<k->P j=true):=hag
  clear hag
  by_cases hlt:k<n
  ·have aA:(k:Int)<(n:Int):=by omega
   obtain⟨x0,x1,x2,x3,x4,x5,x6⟩:=(hcx k hlt).below hbw hb1
   have hy:∀ob,NdAt (wr.alloc ob) b2 (o2+k*7) (ys k):=fun ob=>(hcy k hlt).below (hbw.alloc hbw.size ob) hb2
   have y0:=fun ob=>(hy ob).h0
   have y1:=fun ob=>(hy ob).h1
   have y2:=fun ob=>(hy ob).h2
   have y3:=fun ob=>(hy ob).h3
   have y4:=fun ob=>(hy ob).h4
   have y5:=fun ob=>(hy ob).h5
   have y6:=fun ob=>(hy ob).h6
   clear hy
   have hPk:=hP k hlt
   simp only[Nd.val] at hPk
   have hws:=hbw.size
   have hal:∀o o2,Below w.heap.size w ((wr.alloc o).alloc o2):=fun o o2=>(hbw.alloc hws _).alloc (by simp;omega) _
   go_wp2_with (go_at_call 84;refine(hPk _ ?_).mono ?_;exact hal _ _;rintro e w5 ⟨rfl,hb5⟩)
   ·go_ret
    have hp:P k=false:=by
     cases h:P k<;>simp_all
    have bj:(List.range n).all P=false:=by
     rw[List.all_eq_false]
     exact⟨k,List.mem_range.2 hlt,by simp[hp]⟩
    rw[bj]
    exact⟨rfl,(hal _ _).trans (hb5.mono (hal _ _).size)⟩
   ·go_roundw
    case rel=>
     refine⟨k+1,by omega,by go_num,fun j hj=>?_,(hal _ _).trans (hb5.mono (hal _ _).size)⟩
     rcases Nat.lt_or_ge j k with h | h
     ·exact aK.out j h
     ·have:j=k:=by omega
      subst this
      cases h:P j<;>simp_all
    case measure=>simp[intOf];omega
  ·have hk':k=n:=by omega
   subst hk'
   go_wp2
   go_ret
   refine⟨?_,hbw⟩
   have:(List.range k).all P=true:=by
    rw[List.all_eq_true]
    intro j hj
    exact aK.out j (List.mem_range.1 hj)
   rw[this]
   rfl
def Good (x:Ex):Prop:=∃d n a,x.cnt d n=some a
theorem zf9 {P:Nat->Nat->Option Nat}:∀{c n a:Nat},cntF P c n=some a->∀i,i<c->∃n' a',P i n'=some a'
 | 0,n,a,h,i,hi=>by omega
 | c+1,n,a,h,i,hi=>by
  unfold cntF at h
  cases hq:cntF P c n with
  | none=>rw[hq] at h;cases h
  | some x=>
   rw[hq] at h
   rcases Nat.lt_or_ge i c with hi' | hi'
   ·exact zf9 hq i hi'
   ·obtain rfl:i=c:=by omega
    exact⟨_,_,h⟩
theorem Good.mk {k f:Int} {ng:Bool} {nu de:List Int} {m:ByteArray} {c:Nat} {ar:Nat->Ex} (h:Good (.mk k f ng nu de m c ar)):nodeOk k f ng (val nu) (val de) m c=true/\∀i,i<c->Good (ar i):=by
 obtain⟨d,n,a,h⟩:=h
 unfold Ex.cnt at h
 split at h
 ·rename_i hc
  refine⟨hc.2.2,fun i hi=>?_⟩
  obtain⟨n',a',h'⟩:=zf9 h i hi
  exact⟨d+1,n',a',h'⟩
 ·cases h
theorem zcq {f:Int} {ng:Bool} {X Y:Int} {m:ByteArray} {n:Nat} (h:nodeOk 1 f ng X Y m n=true):n=0/\large X Y=false:=by
 unfold nodeOk at h
 simp only[Bool.and_eq_true,decide_eq_true_eq,if_true,Bool.not_eq_true'] at h
 have:=h.1.1
 rw[show kidsI 1=0 from by decide] at this
 exact⟨by omega,h.2.1.1⟩
theorem zbw {k f:Int} {ng:Bool} {X Y:Int} {m:ByteArray} {n:Nat} (h:nodeOk k f ng X Y m n=true) (hk:k≠1):X=0/\kidsI k=n:=by
 unfold nodeOk at h
 rw[if_neg hk] at h
 simp only[Bool.and_eq_true,decide_eq_true_eq] at h
 exact⟨h.2.1,h.1.1⟩
theorem qz_zero (g1 g2:Bool) (d1 d2:Int):qz g1 0 d1 g2 0 d2=true:=by
 have h:∀(g:Bool) (d:Int),mkG g 0 d=false/\mkN 0 d=0/\mkD 0 d=1:=fun g d=>by simp[mkG,mkN,mkD]
 unfold qz
 rw[(h g1 _).1,(h g1 _).2.1,(h g1 _).2.2,(h g2 _).1,(h g2 _).2.1,(h g2 _).2.2]
 decide
theorem zga {w:World} {k1 f1 k2 f2 R:Int} {g1 g2 E:Bool} {aq1 cq1 aq2 cq2 q1 q2:Option Addr} {an1 ac1 cn1 cc1 an2 ac2 cn2 cc2 n1 n2 p1 p2:Nat} {m1 m2:ByteArray}
  (hC:k1=1->k2=1->CA w 116 #[.agg (qA g1 aq1 an1 ac1 cq1 cn1 cc1),.agg (qA g2 aq2 an2 ac2 cq2 cn2 cc2)] (.tuple #[.int .i64 R,.int .i64 0]))
  (hE:k1≠1->k1=k2->CA w 117 #[.slice q1 n1 p1,.slice q2 n2 p2,.func (.func 84) #[] #[]] (.bool E)):
  Calls Tryz.prog 84 #[.agg (mA k1 f1 g1 aq1 an1 ac1 cq1 cn1 cc1 m1 q1 n1 p1),.agg (mA k2 f2 g2 aq2 an2 ac2 cq2 cn2 cc2 m2 q2 n2 p2)] w fun e w'=>e=.returned (.bool (decide (k1=k2)&&decide (f1=f2)&&decide (m1.toList=m2.toList)&&(if k1=1 then decide (R=0) else E)))/\Below w.heap.size w w':=by
 have hb0:Hid (Below w.heap.size w ((w.alloc (.cells (mA k1 f1 g1 aq1 an1 ac1 cq1 cn1 cc1 m1 q1 n1 p1) 30)).alloc (.cells (mA k2 f2 g2 aq2 an2 ac2 cq2 cn2 cc2 m2 q2 n2 p2) 30))):=zah w _ _
 obtain⟨Z,hZ⟩:∃Z,Hid ((decide (k1=k2)&&decide (f1=f2)&&decide (m1.toList=m2.toList)&&(if k1=1 then decide (R=0) else E))=Z):=⟨_,rfl⟩
 rw[hZ.out]
 by_cases hk:k1=k2
 ·subst hk
  by_cases hf:f1=f2
  ·subst hf
   by_cases hm:m1.toList=m2.toList
   ·have hm':Hid (m1.toList=m2.toList):=hm
    have hmb:(m1.toList==m2.toList)=true:=by simpa using hm
    clear hm
    by_cases h1:k1=1
    ·subst h1
     have hc:=hC rfl rfl _ hb0.out
     have he:(R==0)=decide (R=0):=by by_cases h:R=0<;>simp[h]
     have he:Hid ((R==0)=decide (R=0)):=he
     clear hC hE
     go_enter Tryz.func84,Tryz.ntmps84
     go_wp2_with (go_at_call 116;with_reducible refine hc.mono ?_;rintro e w3 ⟨rfl,hb3⟩)
     go_ret
     exact⟨by rw[<-hZ.out];simp[hm'.out],hb0.out.trans (hb3.mono hb0.out.size)⟩
    ·have h1b:(k1==1)=false:=by simp[h1]
     have hc:=hE h1 rfl _ hb0.out
     have h1':Hid (¬k1=1):=h1
     clear hC hE h1
     go_enter Tryz.func84,Tryz.ntmps84
     go_wp2_with (go_at_call 117;with_reducible refine hc.mono ?_;rintro e w3 ⟨rfl,hb3⟩)
     go_ret
     exact⟨by rw[<-hZ.out,decide_eq_true hm'.out,if_neg h1'.out];simp,hb0.out.trans (hb3.mono hb0.out.size)⟩
   ·have hm':Hid (¬m1.toList=m2.toList):=hm
    have hmb:(m1.toList==m2.toList)=false:=by simpa using hm
    clear hC hE hm
    go_enter Tryz.func84,Tryz.ntmps84
    go_wp2_with fail
    go_ret
    exact⟨by rw[<-hZ.out,decide_eq_false hm'.out];simp,hb0.out⟩
  ·have hf':Hid (¬f1=f2):=hf
   clear hC hE
   go_enter Tryz.func84,Tryz.ntmps84
   go_wp2_with fail
   go_ret
   exact⟨by rw[<-hZ.out,decide_eq_false hf'.out];simp,hb0.out⟩
 ·have hk':Hid (¬k1=k2):=hk
  clear hC hE
  go_enter Tryz.func84,Tryz.ntmps84
  go_wp2_with fail
  go_ret
  exact⟨by rw[<-hZ.out,decide_eq_false hk'.out];simp,hb0.out⟩
theorem zjb:∀(x y:Ex) (d e:Nd) (w:World),ExOk w x d->ExOk w y e->Good x->Good y->Tb w->
  Calls Tryz.prog 84 #[d.val,e.val] w fun r w'=>r=.returned (.bool (x.sm y))/\Below w.heap.size w w':=by
 intro x
 induction x with
 | non=>exact fun y d e w hx=>hx.elim
 | mk k f ng nu de m n ar ih=>
  intro y d e w hx hy gx gy hT
  cases y with
  | non=>exact hy.elim
  | mk k' f' ng' nu' de' m' n' ar'=>
  obtain⟨gx1,gx2⟩:=gx.mk
  obtain⟨gy1,gy2⟩:=gy.mk
  unfold ExOk at hx hy
  obtain⟨⟨rfl,rfl,rfl,rfl,rfl⟩,x2,x3,x4,x5,x6,x7⟩:=hx
  obtain⟨⟨rfl,rfl,rfl,rfl,rfl⟩,y2,y3,y4,y5,y6,y7⟩:=hy
  unfold Ex.sm
  have ak:=zga (w:=w) (k1:=d.k) (f1:=d.f) (k2:=e.k) (f2:=e.f) (g1:=d.neg) (g2:=e.neg) (aq1:=d.aq) (cq1:=d.cq) (aq2:=e.aq) (cq2:=e.cq) (q1:=d.sq) (q2:=e.sq) (an1:=d.an) (ac1:=d.ac) (cn1:=d.cn) (cc1:=d.cc) (an2:=e.an) (ac2:=e.ac) (cn2:=e.cn) (cc2:=e.cc) (n1:=d.sn) (n2:=e.sn) (p1:=d.sc) (p2:=e.sc) (m1:=d.m) (m2:=e.m)
   (R:=fcS (mkG d.neg (val nu) (denI (val de))) (mkN (val nu) (denI (val de))) (mkD (val nu) (denI (val de))) (mkG e.neg (val nu') (denI (val de'))) (mkN (val nu') (denI (val de'))) (mkD (val nu') (denI (val de')))) (E:=(List.range d.sn).all fun i=>(ar i).sm (ar' i))
   (fun h1 h2 z hz=>by
     rw[h1] at gx1
     rw[h2] at gy1
     exact zja (x2.below hz) (x3.below hz) (y2.below hz) (y3.below hz) x4 x5 y4 y5 (hT.below hz) (zcq gx1).2 (zcq gy1).2)
   (fun h1 h2 z hz=>by
     have e1:=(zbw gx1 h1).2
     have e2:=(zbw gy1 (by rw[<-h2];exact h1)).2
     rw[h2] at e1
     have hn:d.sn=e.sn:=by omega
     by_cases h0:d.sn=0
     ·rw[h0,show e.sn=0 by omega]
      refine(zha d.sq e.sq d.sc e.sc _ z).mono ?_
      rintro r w' ⟨rfl,rfl⟩
      exact⟨rfl,Below.refl _ _⟩
     ·rcases x7 with h | ⟨b,o,hq,hlt,ds,hds⟩
      ·exact absurd h h0
      rcases y7 with h | ⟨b',o',hq',aA,es,hes⟩
      ·omega
      rw[hq,hq',<-hn]
      have hs:=hz.size
      exact zhd b o d.sc b' o' e.sc d.sn ds es (fun i=>(ar i).sm (ar' i)) z x6 (fun i hi=>(hds i hi).1.below hz hlt) (fun i hi=>(hes i (by omega)).1.below hz aA) (by omega) (by omega)
       (fun i hi w2 h2=>ih i (ar' i) (ds i) (es i) w2 ((hds i hi).2.below (hz.trans (h2.mono hs))) ((hes i (by omega)).2.below (hz.trans (h2.mono hs))) (gx2 i hi) (gy2 i (by omega)) (hT.below (hz.trans (h2.mono hs)))))
  have dG:(decide (d.k=e.k)&&decide (d.f=e.f)&&decide (d.m.toList=e.m.toList)&&qz d.neg (val nu) (val de) e.neg (val nu') (val de')&&(decide (d.sn=e.sn)&&(List.range d.sn).all fun i=>(ar i).sm (ar' i)))=
    (decide (d.k=e.k)&&decide (d.f=e.f)&&decide (d.m.toList=e.m.toList)&&(if d.k=1 then decide (fcS (mkG d.neg (val nu) (denI (val de))) (mkN (val nu) (denI (val de))) (mkD (val nu) (denI (val de))) (mkG e.neg (val nu') (denI (val de'))) (mkN (val nu') (denI (val de'))) (mkD (val nu') (denI (val de')))=0) else(List.range d.sn).all fun i=>(ar i).sm (ar' i))):=by
   by_cases hk:d.k=e.k
   ·by_cases h1:d.k=1
    ·have h2:e.k=1:=by rw[<-hk];exact h1
     rw[h1] at gx1
     rw[h2] at gy1
     have e1:=(zcq gx1).1
     have e2:=(zcq gy1).1
     rw[if_pos h1,zd8 (zaf x2.1) (zaf x3.1) (zaf y2.1) (zaf y3.1),e1,e2]
     simp[qz]
    ·have e1:=zbw gx1 h1
     have e2:=zbw gy1 (by rw[<-hk];exact h1)
     have hn:d.sn=e.sn:=by have:=e1.2;have:=e2.2;rw[hk] at *;omega
     rw[if_neg h1,e1.1,e2.1,qz_zero,decide_eq_true hn]
     simp
   ·simp[hk]
  rw[dG]
  exact ak
end Go.Proofs.YtaonejnicgbifaaGreatDoor
