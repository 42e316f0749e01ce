import Derived.Test.YtfhjhnofkaiceaaGreatDoorXdA
import Derived.Deep.CutRange
import Derived.Deep.RegionHeld3
import Derived.Test.YtfhjhnofkaiceaaGreatDoorXdE
import Derived.Test.YtfhjhnofkaiceaaGreatDoorDvK
import Derived.Test.YtfhjhnofkaiceaaGreatDoorDvI
import Derived.Test.YtfhjhnofkaiceaaGreatDoorLbF
import Derived.Test.YtfhjhnofkaiceaaGreatDoorDvG
namespace Go.Proofs.YtfhjhnofkaiceaaGreatDoor
open Go Go.RowKit
theorem IAt.form {w:World} {v:Value} {i:IvV} (h:IAt w v i):∃(q1 p1 q2 p2:Option Addr) (l1 c1 m1 e1 l2 c2 m2 e2:Nat),v=.agg #[.bool i.g1,.slice q1 l1 c1,.slice p1 m1 e1,.bool i.g2,.slice q2 l2 c2,.slice p2 m2 e2,.bool i.li,.bool i.hh,.bool i.em]/\QAt w (.agg #[.bool i.g1,.slice q1 l1 c1,.slice p1 m1 e1]) i.g1 i.n1 i.d1/\QAt w (.agg #[.bool i.g2,.slice q2 l2 c2,.slice p2 m2 e2]) i.g2 i.n2 i.d2:=by
 obtain⟨a1,b1,a2,b2,rfl,h1,h2⟩:=h
 have f:∀{g:Bool} {n d:Int} {a b:Value},QAt w (.agg #[.bool g,a,b]) g n d->∃q l c p m e,a=.slice q l c/\b=.slice p m e:=by
  rintro g n d a b ⟨x,y,ns,ds,e,k1,_,_,k2,_,_⟩
  simp only[Value.agg.injEq,Array.mk.injEq,List.cons.injEq,and_true,true_and] at e
  obtain⟨rfl,rfl⟩:=e
  obtain⟨q,c,rfl⟩:=k1.form
  obtain⟨p,e,rfl⟩:=k2.form
  exact⟨_,_,_,_,_,_,rfl,rfl⟩
 obtain⟨q1,l1,c1,p1,m1,e1,rfl,rfl⟩:=f h1
 obtain⟨q2,l2,c2,p2,m2,e2,rfl,rfl⟩:=f h2
 exact⟨q1,p1,q2,p2,l1,c1,m1,e1,l2,c2,m2,e2,rfl,h1,h2⟩
def Nine (w:World) (i:IvV) (r:List Value):Prop:=r.length=9/\(∀u∈r,u.oneCell'=true)/\∃(q1 p1 q2 p2:Option Addr) (l1 c1 m1 e1 l2 c2 m2 e2:Nat),r=[.bool i.g1,.slice q1 l1 c1,.slice p1 m1 e1,.bool i.g2,.slice q2 l2 c2,.slice p2 m2 e2,.bool i.li,.bool i.hh,.bool i.em]/\QAt w (.agg #[.bool i.g1,.slice q1 l1 c1,.slice p1 m1 e1]) i.g1 i.n1 i.d1/\QAt w (.agg #[.bool i.g2,.slice q2 l2 c2,.slice p2 m2 e2]) i.g2 i.n2 i.d2
theorem IAt.nine {w:World} {v:Value} {i:IvV} (h:IAt w v i):∃r:List Value,v=.agg r.toArray/\Nine w i r:=by
 obtain⟨q1,p1,q2,p2,l1,c1,m1,e1,l2,c2,m2,e2,rfl,h1,h2⟩:=h.form
 refine⟨[.bool i.g1,.slice q1 l1 c1,.slice p1 m1 e1,.bool i.g2,.slice q2 l2 c2,.slice p2 m2 e2,.bool i.li,.bool i.hh,.bool i.em],rfl,rfl,?_,q1,p1,q2,p2,l1,c1,m1,e1,l2,c2,m2,e2,rfl,h1,h2⟩
 intro u hu
 simp only[List.mem_cons,List.not_mem_nil,or_false] at hu
 rcases hu with rfl | rfl | rfl | rfl | rfl | rfl | rfl | rfl | rfl<;>rfl
theorem Nine.below {w w':World} {i:IvV} {r:List Value} (h:Nine w i r) (hb:Below w.heap.size w w'):Nine w' i r:=by
 obtain⟨h1,h2,q1,p1,q2,p2,l1,c1,m1,e1,l2,c2,m2,e2,h3,h4,h5⟩:=h
 exact⟨h1,h2,q1,p1,q2,p2,l1,c1,m1,e1,l2,c2,m2,e2,h3,h4.below hb,h5.below hb⟩
theorem zc6 {B p:Nat} (hB:B<=p) {z:World} {xs:List Value} (_hz:B<=z.heap.size):Below B z (z.setCells p 0 xs)/\Sav p z (z.setCells p 0 xs)/\(z.setCells p 0 xs).heap.size=z.heap.size:=by
 obtain⟨g,s,k⟩:=zae B p hB xs 0 z z (Below.refl _ _)
 exact⟨g,⟨g.os,g.tape,g.output,by omega,fun b _ hb=>k b hb⟩,s⟩
theorem BlkI.there9 {z:World} {p:Nat} (h:BlkI z p 151 zw9):z.there p 0 9:=by
 intro j hj
 have c:=h.cell j
 have f:=h.fr j
 refine⟨?_,by simpa using f⟩
 rw[Nat.zero_add,c]
 match j,hj with
 | 0,_=>rfl
 | 1,_=>rfl
 | 2,_=>rfl
 | 3,_=>rfl
 | 4,_=>rfl
 | 5,_=>rfl
 | 6,_=>rfl
 | 7,_=>rfl
 | 8,_=>rfl
theorem zai {w1 z:World} {p7 p8:Nat} {i:IvV} {xs ys:List Value} (hx:Nine z i xs) (hy:Nine z i ys) (G:Below w1.heap.size w1 z) (h7:w1.heap.size<=p7) (h8:w1.heap.size<=p8) (N7:BlkI z p7 151 zw9) (N8:BlkI z p8 151 zw9) (hne:p7≠p8):
  (z.setCells p7 0 xs).there p8 0 9/\Below w1.heap.size w1 (z.setCells p7 0 xs)/\Below w1.heap.size w1 ((z.setCells p7 0 xs).setCells p8 0 ys)/\
  p7<((z.setCells p7 0 xs).setCells p8 0 ys).heap.size/\p8<((z.setCells p7 0 xs).setCells p8 0 ys).heap.size/\
  ((z.setCells p7 0 xs).setCells p8 0 ys).rangeAt p7 0 xs/\((z.setCells p7 0 xs).setCells p8 0 ys).rangeAt p8 0 ys/\
  Hid (Nine ((z.setCells p7 0 xs).setCells p8 0 ys) i xs)/\Hid (Nine ((z.setCells p7 0 xs).setCells p8 0 ys) i ys):=by
 have lx:=hx.1
 have ly:=hy.1
 obtain⟨g1,v1,s1⟩:=zc6 (xs:=xs) h7 (z:=z) G.size
 obtain⟨g2,v2,s2⟩:=zc6 (xs:=ys) h8 (z:=z.setCells p7 0 xs) (by rw[s1];exact G.size)
 have l7:=N7.lt
 have l8:=N8.lt
 have t8:=World.there_setCells N8.there9 p7 0 xs
 have M8:BlkI (z.setCells p7 0 xs) p8 151 zw9:=N8.sav v1 (by omega)
 have G1:=G.trans (g1.mono (by exact Nat.le_refl _))
 refine⟨t8,G1,G1.trans g2,by omega,by omega,?_,?_,?_,?_⟩
 rotate_left 2
 ·obtain⟨k1,k2,q1,p1,q2,p2,l1,c1,m1,e1,l2,c2,m2,e2,h3,h4,h5⟩:=hx
  exact⟨k1,k2,q1,p1,q2,p2,l1,c1,m1,e1,l2,c2,m2,e2,h3,(h4.sav N7 zaj v1).sav M8 zaj v2,(h5.sav N7 zaj v1).sav M8 zaj v2⟩
 ·obtain⟨k1,k2,q1,p1,q2,p2,l1,c1,m1,e1,l2,c2,m2,e2,h3,h4,h5⟩:=hy
  exact⟨k1,k2,q1,p1,q2,p2,l1,c1,m1,e1,l2,c2,m2,e2,h3,(h4.sav N7 zaj v1).sav M8 zaj v2,(h5.sav N7 zaj v1).sav M8 zaj v2⟩
 ·refine World.rangeAt_setCells_apart (World.rangeAt_setCells_same _ _ _ _ ?_) p8 0 ys (.inl hne)
  rw[lx]
  exact N7.there9
 ·refine World.rangeAt_setCells_same _ _ _ _ ?_
  rw[ly]
  exact t8
theorem zfh (x:Int):sgnI (x - x)=0:=by simp[sgnI]
set_option maxRecDepth 100000 in
set_option maxHeartbeats 16000000 in
theorem zeo {w:World} {i:IvV} {L:Nat} {cx cy:List Value} (hL:L<=68719476000) (hQ:QLt L i.n1 i.d1/\QLt L i.n2 i.d2) (lx:cx.length=8) (ly:cy.length=8)
  (hof1:∀z,Below w.heap.size w z->Calls Tryz.prog 103 #[.agg cx.toArray] z fun e w'=>∃v,e=.returned v/\IAt w' v i/\Below z.heap.size z w')
  (hof2:∀z,Below w.heap.size w z->Calls Tryz.prog 103 #[.agg cy.toArray] z fun e w'=>∃v,e=.returned v/\IAt w' v i/\Below z.heap.size z w'):
  Calls Tryz.prog 77 #[.agg cx.toArray,.agg cy.toArray] w fun e w'=>e=.returned (.bool true)/\Below w.heap.size w w':=by
 have hQ':Hid (QLt L i.n1 i.d1/\QLt L i.n2 i.d2):=hQ
 clear hQ
 obtain⟨dd,hu,hd⟩:∃d,Tryz.prog.underlying 92=some d/\d.isRow=true:=⟨_,Tryz.underlying92,rfl⟩
 have hHu:Hid (Tryz.prog.underlying 92=some dd):=hu
 have hsz:Hid ((Tryz.prog.info? 92).map (·.size)=some 8):=(by kernel_rfl:(Tryz.prog.info? 92).map (·.size)=some 8)
 have hsk:Hid ((Tryz.prog.info? 151).map (·.size)=some 9):=zbw
 clear hu
 go_enter Tryz.func77,Tryz.ntmps77
 go_upto_region 1 with fail
 generalize hw1:(w.alloc _).alloc _=w1 at*
 have hW1:Below w.heap.size w w1:=by rw[<-hw1];exact below_two _ _ _
 have hz1:w1.heap.size=w.heap.size+2:=by rw[<-hw1];simp
 have E1:Hid (w1.rangeAt w.heap.size 0 cx):=by
  rw[<-hw1]
  have h:BlkI (w.alloc (.cells cx.toArray 92)) w.heap.size 92 cx.toArray:=heap_alloc_new w _
  have h2:=(h.below (below_alloc _ (.cells cy.toArray 92))).row
  exact(by simpa using h2:World.rangeAt _ _ _ _)
 have F1:Hid (w1.rangeAt (w.heap.size+1) 0 cy):=by
  rw[<-hw1]
  have h:BlkI ((w.alloc (.cells cx.toArray 92)).alloc (.cells cy.toArray 92)) (w.alloc (.cells cx.toArray 92)).heap.size 92 cy.toArray:=heap_alloc_new _ _
  rw[show (w.alloc (.cells cx.toArray 92)).heap.size=w.heap.size+1 by simp] at h
  have h2:=h.row
  exact(by simpa using h2:World.rangeAt _ _ _ _)
 clear hw1
 have s1:w.heap.size<w1.heap.size:=by omega
 have s2:w.heap.size+1<w1.heap.size:=by omega
 go_cut [5,6] from 7 to 10 (fun v5 v6 wx=>∃(p5 p6:Nat) (r1 r3:List Value),v5=.pointer (some ⟨p5,0,none⟩)/\v6=.pointer (some ⟨p6,0,none⟩)/\p5<wx.heap.size/\p6<wx.heap.size/\Hid (wx.rangeAt p5 0 r1)/\Hid (wx.rangeAt p6 0 r3)/\Hid (Nine wx i r1)/\Hid (Nine wx i r3)/\Below w.heap.size w wx)
 case first=>
  try simp only[Act.put]
  have Gd:Below w1.heap.size w1 w1.drew:=(Below.refl _ _).drew
  refine wp_region_held_drew (S:=fun z=>z.rangeAt w.heap.size 0 cx/\z.rangeAt (w.heap.size+1) 0 cy) (by kernel_rfl) (by exact⟨E1.out,F1.out⟩) (fun hHeld=>?_)
  obtain⟨z0,hz0⟩:∃v,v=w1.drew:=⟨_,rfl⟩
  rw[<-hz0] at hHeld Gd ⊢
  have Gz0:=Gd
  clear hz0 Gd
  refine wpAnyH_take (i:=0) (oi:=?op0) (v:=.agg cx.toArray) ?ta0 ?tb0 ?tc0 ?td0 ?tq0 ?ty0 hHeld ?_
  case ta0=>rfl
  case tb0=>kernel_rfl
  case tc0=>kernel_rfl
  case td0=>kernel_rfl
  case tq0=>exact fun _ _ _ h=>h
  case ty0=>
   refine yieldsIf_load_mid ?tw0 92 (.tmp 2) ?to0 (w.heap.size) 0 ?tx0 cx dd (fun z hz=>hz.1) hHu.out hd (by rw[lx];exact hsz.out)
   case tw0=>kernel_rfl
   case to0=>rfl
   case tx0=>kernel_rfl
  simp only[Act.put,List.getElem_toArray,List.getElem_cons_zero,List.setIfInBounds_toArray,List.set_cons_zero,List.set_cons_succ]
  refine wpAnyH_take (i:=2) (oi:=?op2) (v:=.agg cy.toArray) ?ta2 ?tb2 ?tc2 ?td2 ?tq2 ?ty2 hHeld ?_
  case ta2=>rfl
  case tb2=>kernel_rfl
  case tc2=>kernel_rfl
  case td2=>kernel_rfl
  case tq2=>exact fun _ _ _ h=>h
  case ty2=>
   refine yieldsIf_load_mid ?tw2 92 (.tmp 3) ?to2 (w.heap.size+1) 0 ?tx2 cy dd (fun z hz=>hz.2) hHu.out hd (by rw[ly];exact hsz.out)
   case tw2=>kernel_rfl
   case to2=>rfl
   case tx2=>kernel_rfl
  simp only[Act.put,List.getElem_toArray,List.getElem_cons_succ,List.getElem_cons_zero,List.setIfInBounds_toArray,List.set_cons_zero,List.set_cons_succ]
  refine wpAnyH_ready (rs:=[1,4,5]) (by kernel_rfl) (by simp) ?_
  refine AllReadyH.cons rfl (fun K' hKK=>?_) (AllReadyH.cons rfl (fun K' hKK=>?_) (AllReadyH.cons rfl (fun K' hKK=>?_) AllReadyH.nil))
  ·go_simp
   refine(hof1 _ (hW1.trans (Gz0.mono hW1.size))).mono ?_
   rintro e z1 ⟨v,rfl,hI,hbz1⟩
   obtain⟨r1,rfl,hN⟩:=hI.nine
   have Gz1:Below w1.heap.size w1 z1:=Gz0.trans (hbz1.mono Gz0.size)
   clear hI
   have Q1z1:Hid (Nine z1 i r1):=hN
   clear hN
   have H1:=rangeAt_below E1.out Gz1 s1
   have H2:=rangeAt_below F1.out Gz1 s2
   refine hKK.out _ _ ⟨H1,H2⟩ (fun _=>?_)
   clear hKK K' H1 H2
   refine wpAnyH_ready (rs:=[3,4,5]) (by kernel_rfl) (by simp) ?_
   refine AllReadyH.cons rfl (fun K' hKK=>?_) (AllReadyH.cons rfl (fun K' hKK=>?_) (AllReadyH.cons rfl (fun K' hKK=>?_) AllReadyH.nil))
   ·go_simp
    refine(hof2 _ (hW1.trans (Gz1.mono hW1.size))).mono ?_
    rintro e z2 ⟨v,rfl,hI,hbz2⟩
    obtain⟨r3,rfl,hN⟩:=hI.nine
    have Gz2:Below w1.heap.size w1 z2:=Gz1.trans (hbz2.mono Gz1.size)
    clear hI
    have Q3z2:Hid (Nine z2 i r3):=hN
    clear hN
    have Q1z2:Hid (Nine z2 i r1):=Q1z1.out.below hbz2
    have H1:=rangeAt_below E1.out Gz2 s1
    have H2:=rangeAt_below F1.out Gz2 s2
    refine hKK.out _ _ ⟨H1,H2⟩ (fun _=>?_)
    clear hKK K' H1 H2
    refine wpAnyH_ready (rs:=[4,5]) (by kernel_rfl) (by simp) ?_
    refine AllReadyH.cons rfl (fun K' hKK=>?_) (AllReadyH.cons rfl (fun K' hKK=>?_) AllReadyH.nil)
    ·go_simp
     obtain⟨z3,hz3⟩:∃v,v=z2.alloc (.cells zw9 151):=⟨_,rfl⟩
     rw[<-hz3]
     have Gz3:Below w1.heap.size w1 z3:=by rw[hz3];exact Gz2.alloc Gz2.size _
     have N5z3:BlkI z3 z2.heap.size 151 zw9:=by rw[hz3];exact heap_alloc_last _ _
     have Q1z3:Hid (Nine z3 i r1):=by rw[hz3];exact Q1z2.out.below (zaa z2 _)
     have Q3z3:Hid (Nine z3 i r3):=by rw[hz3];exact Q3z2.out.below (zaa z2 _)
     have h5p:w1.heap.size<=z2.heap.size:=Gz2.size
     clear hz3
     have H1:=rangeAt_below E1.out Gz3 s1
     have H2:=rangeAt_below F1.out Gz3 s2
     refine hKK.out _ _ ⟨H1,H2⟩ (fun _=>?_)
     clear hKK K' H1 H2
     refine wpAnyH_ready (rs:=[5]) (by kernel_rfl) (by simp) ?_
     refine AllReadyH.cons rfl (fun K' hKK=>?_) AllReadyH.nil
     ·go_simp
      obtain⟨z4,hz4⟩:∃v,v=z3.alloc (.cells zw9 151):=⟨_,rfl⟩
      rw[<-hz4]
      have Gz4:Below w1.heap.size w1 z4:=by rw[hz4];exact Gz3.alloc Gz3.size _
      have N6z4:BlkI z4 z3.heap.size 151 zw9:=by rw[hz4];exact heap_alloc_last _ _
      have N5z4:BlkI z4 (z2.heap.size) 151 zw9:=by rw[hz4];exact N5z3.below (zaa z3 _)
      have hne:z2.heap.size<z3.heap.size:=N5z3.lt
      have Q1z4:Hid (Nine z4 i r1):=by rw[hz4];exact Q1z3.out.below (zaa z3 _)
      have Q3z4:Hid (Nine z4 i r3):=by rw[hz4];exact Q3z3.out.below (zaa z3 _)
      have h6p:w1.heap.size<=z3.heap.size:=Gz3.size
      clear hz4
      have H1:=rangeAt_below E1.out Gz4 s1
      have H2:=rangeAt_below F1.out Gz4 s2
      refine hKK.out _ _ ⟨H1,H2⟩ (fun _=>?_)
      clear hKK K' H1 H2
      obtain⟨T6,G1,G2,s5,s6,R5,R6,M1,M3⟩:=zai Q1z4.out Q3z4.out Gz4 h5p h6p N5z4 N6z4 (by omega)
      refine wpAnyH_ready (rs:=[6]) (by kernel_rfl) (by simp) ?_
      refine AllReadyH.cons rfl ?_ AllReadyH.nil
      intro K' hKK
      rw[if_pos (by rfl)]
      refine wp_store_mid 151 (.tmp 5) (.tmp 8) rfl (z2.heap.size) 0 r1.toArray rfl rfl ?_ ?_ (all_oneCell_toArray Q1z4.out.2.1) ?_
      ·rw[show r1.toArray.size=9 by simpa using Q1z4.out.1];exact N5z4.there9
      ·rw[show r1.toArray.size=9 by simpa using Q1z4.out.1];exact hsk.out
      have H1:=rangeAt_below E1.out G1 s1
      have H2:=rangeAt_below F1.out G1 s2
      refine hKK.out _ _ ⟨H1,H2⟩ (fun _=>?_)
      clear hKK K' H1 H2
      refine wpAnyH_ready (rs:=[7]) (by kernel_rfl) (by simp) ?_
      refine AllReadyH.cons rfl ?_ AllReadyH.nil
      intro K' hKK
      rw[if_pos (by rfl)]
      refine wp_store_mid 151 (.tmp 6) (.tmp 10) rfl (z3.heap.size) 0 r3.toArray rfl rfl ?_ ?_ (all_oneCell_toArray Q3z4.out.2.1) ?_
      ·rw[show r3.toArray.size=9 by simpa using Q3z4.out.1];exact T6
      ·rw[show r3.toArray.size=9 by simpa using Q3z4.out.1];exact hsk.out
      have H1:=rangeAt_below E1.out G2 s1
      have H2:=rangeAt_below F1.out G2 s2
      refine hKK.out _ _ ⟨H1,H2⟩ (fun _=>?_)
      clear hKK K' H1 H2
      refine wpAnyH_done (by kernel_rfl) ?_ _
      try simp only[Act.put,List.getElem_toArray,List.getElem_cons_succ,List.getElem_cons_zero]
      go_wp2_with fail
      go_meet
      case rel=>exact⟨z2.heap.size,z3.heap.size,r1,r3,rfl,rfl,s5,s6,R5,R6,M1,M3,hW1.trans (G2.mono hW1.size)⟩
    ·go_simp
     obtain⟨z5,hz5⟩:∃v,v=z2.alloc (.cells zw9 151):=⟨_,rfl⟩
     rw[<-hz5]
     have Gz5:Below w1.heap.size w1 z5:=by rw[hz5];exact Gz2.alloc Gz2.size _
     have N6z5:BlkI z5 z2.heap.size 151 zw9:=by rw[hz5];exact heap_alloc_last _ _
     have Q1z5:Hid (Nine z5 i r1):=by rw[hz5];exact Q1z2.out.below (zaa z2 _)
     have Q3z5:Hid (Nine z5 i r3):=by rw[hz5];exact Q3z2.out.below (zaa z2 _)
     have h6p:w1.heap.size<=z2.heap.size:=Gz2.size
     clear hz5
     have H1:=rangeAt_below E1.out Gz5 s1
     have H2:=rangeAt_below F1.out Gz5 s2
     refine hKK.out _ _ ⟨H1,H2⟩ (fun _=>?_)
     clear hKK K' H1 H2
     refine wpAnyH_ready (rs:=[4]) (by kernel_rfl) (by simp) ?_
     refine AllReadyH.cons rfl (fun K' hKK=>?_) AllReadyH.nil
     ·go_simp
      obtain⟨z6,hz6⟩:∃v,v=z5.alloc (.cells zw9 151):=⟨_,rfl⟩
      rw[<-hz6]
      have Gz6:Below w1.heap.size w1 z6:=by rw[hz6];exact Gz5.alloc Gz5.size _
      have N5z6:BlkI z6 z5.heap.size 151 zw9:=by rw[hz6];exact heap_alloc_last _ _
      have N6z6:BlkI z6 (z2.heap.size) 151 zw9:=by rw[hz6];exact N6z5.below (zaa z5 _)
      have hne:z2.heap.size<z5.heap.size:=N6z5.lt
      have Q1z6:Hid (Nine z6 i r1):=by rw[hz6];exact Q1z5.out.below (zaa z5 _)
      have Q3z6:Hid (Nine z6 i r3):=by rw[hz6];exact Q3z5.out.below (zaa z5 _)
      have h5p:w1.heap.size<=z5.heap.size:=Gz5.size
      clear hz6
      have H1:=rangeAt_below E1.out Gz6 s1
      have H2:=rangeAt_below F1.out Gz6 s2
      refine hKK.out _ _ ⟨H1,H2⟩ (fun _=>?_)
      clear hKK K' H1 H2
      obtain⟨T6,G1,G2,s5,s6,R5,R6,M1,M3⟩:=zai Q1z6.out Q3z6.out Gz6 h5p h6p N5z6 N6z6 (by omega)
      refine wpAnyH_ready (rs:=[6]) (by kernel_rfl) (by simp) ?_
      refine AllReadyH.cons rfl ?_ AllReadyH.nil
      intro K' hKK
      rw[if_pos (by rfl)]
      refine wp_store_mid 151 (.tmp 5) (.tmp 8) rfl (z5.heap.size) 0 r1.toArray rfl rfl ?_ ?_ (all_oneCell_toArray Q1z6.out.2.1) ?_
      ·rw[show r1.toArray.size=9 by simpa using Q1z6.out.1];exact N5z6.there9
      ·rw[show r1.toArray.size=9 by simpa using Q1z6.out.1];exact hsk.out
      have H1:=rangeAt_below E1.out G1 s1
      have H2:=rangeAt_below F1.out G1 s2
      refine hKK.out _ _ ⟨H1,H2⟩ (fun _=>?_)
      clear hKK K' H1 H2
      refine wpAnyH_ready (rs:=[7]) (by kernel_rfl) (by simp) ?_
      refine AllReadyH.cons rfl ?_ AllReadyH.nil
      intro K' hKK
      rw[if_pos (by rfl)]
      refine wp_store_mid 151 (.tmp 6) (.tmp 10) rfl (z2.heap.size) 0 r3.toArray rfl rfl ?_ ?_ (all_oneCell_toArray Q3z6.out.2.1) ?_
      ·rw[show r3.toArray.size=9 by simpa using Q3z6.out.1];exact T6
      ·rw[show r3.toArray.size=9 by simpa using Q3z6.out.1];exact hsk.out
      have H1:=rangeAt_below E1.out G2 s1
      have H2:=rangeAt_below F1.out G2 s2
      refine hKK.out _ _ ⟨H1,H2⟩ (fun _=>?_)
      clear hKK K' H1 H2
      refine wpAnyH_done (by kernel_rfl) ?_ _
      try simp only[Act.put,List.getElem_toArray,List.getElem_cons_succ,List.getElem_cons_zero]
      go_wp2_with fail
      go_meet
      case rel=>exact⟨z5.heap.size,z2.heap.size,r1,r3,rfl,rfl,s5,s6,R5,R6,M1,M3,hW1.trans (G2.mono hW1.size)⟩
   ·go_simp
    obtain⟨z7,hz7⟩:∃v,v=z1.alloc (.cells zw9 151):=⟨_,rfl⟩
    rw[<-hz7]
    have Gz7:Below w1.heap.size w1 z7:=by rw[hz7];exact Gz1.alloc Gz1.size _
    have N5z7:BlkI z7 z1.heap.size 151 zw9:=by rw[hz7];exact heap_alloc_last _ _
    have Q1z7:Hid (Nine z7 i r1):=by rw[hz7];exact Q1z1.out.below (zaa z1 _)
    have h5p:w1.heap.size<=z1.heap.size:=Gz1.size
    clear hz7
    have H1:=rangeAt_below E1.out Gz7 s1
    have H2:=rangeAt_below F1.out Gz7 s2
    refine hKK.out _ _ ⟨H1,H2⟩ (fun _=>?_)
    clear hKK K' H1 H2
    refine wpAnyH_ready (rs:=[3,5]) (by kernel_rfl) (by simp) ?_
    refine AllReadyH.cons rfl (fun K' hKK=>?_) (AllReadyH.cons rfl (fun K' hKK=>?_) AllReadyH.nil)
    ·go_simp
     refine(hof2 _ (hW1.trans (Gz7.mono hW1.size))).mono ?_
     rintro e z8 ⟨v,rfl,hI,hbz8⟩
     obtain⟨r3,rfl,hN⟩:=hI.nine
     have Gz8:Below w1.heap.size w1 z8:=Gz7.trans (hbz8.mono Gz7.size)
     clear hI
     have Q3z8:Hid (Nine z8 i r3):=hN
     clear hN
     have Q1z8:Hid (Nine z8 i r1):=Q1z7.out.below hbz8
     have N5z8:=N5z7.below hbz8
     have H1:=rangeAt_below E1.out Gz8 s1
     have H2:=rangeAt_below F1.out Gz8 s2
     refine hKK.out _ _ ⟨H1,H2⟩ (fun _=>?_)
     clear hKK K' H1 H2
     refine wpAnyH_ready (rs:=[5]) (by kernel_rfl) (by simp) ?_
     refine AllReadyH.cons rfl (fun K' hKK=>?_) AllReadyH.nil
     ·go_simp
      obtain⟨z9,hz9⟩:∃v,v=z8.alloc (.cells zw9 151):=⟨_,rfl⟩
      rw[<-hz9]
      have Gz9:Below w1.heap.size w1 z9:=by rw[hz9];exact Gz8.alloc Gz8.size _
      have N6z9:BlkI z9 z8.heap.size 151 zw9:=by rw[hz9];exact heap_alloc_last _ _
      have N5z9:BlkI z9 (z1.heap.size) 151 zw9:=by rw[hz9];exact N5z8.below (zaa z8 _)
      have hne:z1.heap.size<z8.heap.size:=N5z8.lt
      have Q1z9:Hid (Nine z9 i r1):=by rw[hz9];exact Q1z8.out.below (zaa z8 _)
      have Q3z9:Hid (Nine z9 i r3):=by rw[hz9];exact Q3z8.out.below (zaa z8 _)
      have h6p:w1.heap.size<=z8.heap.size:=Gz8.size
      clear hz9
      have H1:=rangeAt_below E1.out Gz9 s1
      have H2:=rangeAt_below F1.out Gz9 s2
      refine hKK.out _ _ ⟨H1,H2⟩ (fun _=>?_)
      clear hKK K' H1 H2
      obtain⟨T6,G1,G2,s5,s6,R5,R6,M1,M3⟩:=zai Q1z9.out Q3z9.out Gz9 h5p h6p N5z9 N6z9 (by omega)
      refine wpAnyH_ready (rs:=[6]) (by kernel_rfl) (by simp) ?_
      refine AllReadyH.cons rfl ?_ AllReadyH.nil
      intro K' hKK
      rw[if_pos (by rfl)]
      refine wp_store_mid 151 (.tmp 5) (.tmp 8) rfl (z1.heap.size) 0 r1.toArray rfl rfl ?_ ?_ (all_oneCell_toArray Q1z9.out.2.1) ?_
      ·rw[show r1.toArray.size=9 by simpa using Q1z9.out.1];exact N5z9.there9
      ·rw[show r1.toArray.size=9 by simpa using Q1z9.out.1];exact hsk.out
      have H1:=rangeAt_below E1.out G1 s1
      have H2:=rangeAt_below F1.out G1 s2
      refine hKK.out _ _ ⟨H1,H2⟩ (fun _=>?_)
      clear hKK K' H1 H2
      refine wpAnyH_ready (rs:=[7]) (by kernel_rfl) (by simp) ?_
      refine AllReadyH.cons rfl ?_ AllReadyH.nil
      intro K' hKK
      rw[if_pos (by rfl)]
      refine wp_store_mid 151 (.tmp 6) (.tmp 10) rfl (z8.heap.size) 0 r3.toArray rfl rfl ?_ ?_ (all_oneCell_toArray Q3z9.out.2.1) ?_
      ·rw[show r3.toArray.size=9 by simpa using Q3z9.out.1];exact T6
      ·rw[show r3.toArray.size=9 by simpa using Q3z9.out.1];exact hsk.out
      have H1:=rangeAt_below E1.out G2 s1
      have H2:=rangeAt_below F1.out G2 s2
      refine hKK.out _ _ ⟨H1,H2⟩ (fun _=>?_)
      clear hKK K' H1 H2
      refine wpAnyH_done (by kernel_rfl) ?_ _
      try simp only[Act.put,List.getElem_toArray,List.getElem_cons_succ,List.getElem_cons_zero]
      go_wp2_with fail
      go_meet
      case rel=>exact⟨z1.heap.size,z8.heap.size,r1,r3,rfl,rfl,s5,s6,R5,R6,M1,M3,hW1.trans (G2.mono hW1.size)⟩
    ·go_simp
     obtain⟨z10,hz10⟩:∃v,v=z7.alloc (.cells zw9 151):=⟨_,rfl⟩
     rw[<-hz10]
     have Gz10:Below w1.heap.size w1 z10:=by rw[hz10];exact Gz7.alloc Gz7.size _
     have N6z10:BlkI z10 z7.heap.size 151 zw9:=by rw[hz10];exact heap_alloc_last _ _
     have N5z10:BlkI z10 (z1.heap.size) 151 zw9:=by rw[hz10];exact N5z7.below (zaa z7 _)
     have hne:z1.heap.size<z7.heap.size:=N5z7.lt
     have Q1z10:Hid (Nine z10 i r1):=by rw[hz10];exact Q1z7.out.below (zaa z7 _)
     have h6p:w1.heap.size<=z7.heap.size:=Gz7.size
     clear hz10
     have H1:=rangeAt_below E1.out Gz10 s1
     have H2:=rangeAt_below F1.out Gz10 s2
     refine hKK.out _ _ ⟨H1,H2⟩ (fun _=>?_)
     clear hKK K' H1 H2
     refine wpAnyH_ready (rs:=[3]) (by kernel_rfl) (by simp) ?_
     refine AllReadyH.cons rfl (fun K' hKK=>?_) AllReadyH.nil
     ·go_simp
      refine(hof2 _ (hW1.trans (Gz10.mono hW1.size))).mono ?_
      rintro e z11 ⟨v,rfl,hI,hbz11⟩
      obtain⟨r3,rfl,hN⟩:=hI.nine
      have Gz11:Below w1.heap.size w1 z11:=Gz10.trans (hbz11.mono Gz10.size)
      clear hI
      have Q3z11:Hid (Nine z11 i r3):=hN
      clear hN
      have Q1z11:Hid (Nine z11 i r1):=Q1z10.out.below hbz11
      have N5z11:=N5z10.below hbz11
      have N6z11:=N6z10.below hbz11
      have H1:=rangeAt_below E1.out Gz11 s1
      have H2:=rangeAt_below F1.out Gz11 s2
      refine hKK.out _ _ ⟨H1,H2⟩ (fun _=>?_)
      clear hKK K' H1 H2
      obtain⟨T6,G1,G2,s5,s6,R5,R6,M1,M3⟩:=zai Q1z11.out Q3z11.out Gz11 h5p h6p N5z11 N6z11 (by omega)
      refine wpAnyH_ready (rs:=[6]) (by kernel_rfl) (by simp) ?_
      refine AllReadyH.cons rfl ?_ AllReadyH.nil
      intro K' hKK
      rw[if_pos (by rfl)]
      refine wp_store_mid 151 (.tmp 5) (.tmp 8) rfl (z1.heap.size) 0 r1.toArray rfl rfl ?_ ?_ (all_oneCell_toArray Q1z11.out.2.1) ?_
      ·rw[show r1.toArray.size=9 by simpa using Q1z11.out.1];exact N5z11.there9
      ·rw[show r1.toArray.size=9 by simpa using Q1z11.out.1];exact hsk.out
      have H1:=rangeAt_below E1.out G1 s1
      have H2:=rangeAt_below F1.out G1 s2
      refine hKK.out _ _ ⟨H1,H2⟩ (fun _=>?_)
      clear hKK K' H1 H2
      refine wpAnyH_ready (rs:=[7]) (by kernel_rfl) (by simp) ?_
      refine AllReadyH.cons rfl ?_ AllReadyH.nil
      intro K' hKK
      rw[if_pos (by rfl)]
      refine wp_store_mid 151 (.tmp 6) (.tmp 10) rfl (z7.heap.size) 0 r3.toArray rfl rfl ?_ ?_ (all_oneCell_toArray Q3z11.out.2.1) ?_
      ·rw[show r3.toArray.size=9 by simpa using Q3z11.out.1];exact T6
      ·rw[show r3.toArray.size=9 by simpa using Q3z11.out.1];exact hsk.out
      have H1:=rangeAt_below E1.out G2 s1
      have H2:=rangeAt_below F1.out G2 s2
      refine hKK.out _ _ ⟨H1,H2⟩ (fun _=>?_)
      clear hKK K' H1 H2
      refine wpAnyH_done (by kernel_rfl) ?_ _
      try simp only[Act.put,List.getElem_toArray,List.getElem_cons_succ,List.getElem_cons_zero]
      go_wp2_with fail
      go_meet
      case rel=>exact⟨z1.heap.size,z7.heap.size,r1,r3,rfl,rfl,s5,s6,R5,R6,M1,M3,hW1.trans (G2.mono hW1.size)⟩
   ·go_simp
    obtain⟨z12,hz12⟩:∃v,v=z1.alloc (.cells zw9 151):=⟨_,rfl⟩
    rw[<-hz12]
    have Gz12:Below w1.heap.size w1 z12:=by rw[hz12];exact Gz1.alloc Gz1.size _
    have N6z12:BlkI z12 z1.heap.size 151 zw9:=by rw[hz12];exact heap_alloc_last _ _
    have Q1z12:Hid (Nine z12 i r1):=by rw[hz12];exact Q1z1.out.below (zaa z1 _)
    have h6p:w1.heap.size<=z1.heap.size:=Gz1.size
    clear hz12
    have H1:=rangeAt_below E1.out Gz12 s1
    have H2:=rangeAt_below F1.out Gz12 s2
    refine hKK.out _ _ ⟨H1,H2⟩ (fun _=>?_)
    clear hKK K' H1 H2
    refine wpAnyH_ready (rs:=[3,4]) (by kernel_rfl) (by simp) ?_
    refine AllReadyH.cons rfl (fun K' hKK=>?_) (AllReadyH.cons rfl (fun K' hKK=>?_) AllReadyH.nil)
    ·go_simp
     refine(hof2 _ (hW1.trans (Gz12.mono hW1.size))).mono ?_
     rintro e z13 ⟨v,rfl,hI,hbz13⟩
     obtain⟨r3,rfl,hN⟩:=hI.nine
     have Gz13:Below w1.heap.size w1 z13:=Gz12.trans (hbz13.mono Gz12.size)
     clear hI
     have Q3z13:Hid (Nine z13 i r3):=hN
     clear hN
     have Q1z13:Hid (Nine z13 i r1):=Q1z12.out.below hbz13
     have N6z13:=N6z12.below hbz13
     have H1:=rangeAt_below E1.out Gz13 s1
     have H2:=rangeAt_below F1.out Gz13 s2
     refine hKK.out _ _ ⟨H1,H2⟩ (fun _=>?_)
     clear hKK K' H1 H2
     refine wpAnyH_ready (rs:=[4]) (by kernel_rfl) (by simp) ?_
     refine AllReadyH.cons rfl (fun K' hKK=>?_) AllReadyH.nil
     ·go_simp
      obtain⟨z14,hz14⟩:∃v,v=z13.alloc (.cells zw9 151):=⟨_,rfl⟩
      rw[<-hz14]
      have Gz14:Below w1.heap.size w1 z14:=by rw[hz14];exact Gz13.alloc Gz13.size _
      have N5z14:BlkI z14 z13.heap.size 151 zw9:=by rw[hz14];exact heap_alloc_last _ _
      have N6z14:BlkI z14 (z1.heap.size) 151 zw9:=by rw[hz14];exact N6z13.below (zaa z13 _)
      have hne:z1.heap.size<z13.heap.size:=N6z13.lt
      have Q1z14:Hid (Nine z14 i r1):=by rw[hz14];exact Q1z13.out.below (zaa z13 _)
      have Q3z14:Hid (Nine z14 i r3):=by rw[hz14];exact Q3z13.out.below (zaa z13 _)
      have h5p:w1.heap.size<=z13.heap.size:=Gz13.size
      clear hz14
      have H1:=rangeAt_below E1.out Gz14 s1
      have H2:=rangeAt_below F1.out Gz14 s2
      refine hKK.out _ _ ⟨H1,H2⟩ (fun _=>?_)
      clear hKK K' H1 H2
      obtain⟨T6,G1,G2,s5,s6,R5,R6,M1,M3⟩:=zai Q1z14.out Q3z14.out Gz14 h5p h6p N5z14 N6z14 (by omega)
      refine wpAnyH_ready (rs:=[6]) (by kernel_rfl) (by simp) ?_
      refine AllReadyH.cons rfl ?_ AllReadyH.nil
      intro K' hKK
      rw[if_pos (by rfl)]
      refine wp_store_mid 151 (.tmp 5) (.tmp 8) rfl (z13.heap.size) 0 r1.toArray rfl rfl ?_ ?_ (all_oneCell_toArray Q1z14.out.2.1) ?_
      ·rw[show r1.toArray.size=9 by simpa using Q1z14.out.1];exact N5z14.there9
      ·rw[show r1.toArray.size=9 by simpa using Q1z14.out.1];exact hsk.out
      have H1:=rangeAt_below E1.out G1 s1
      have H2:=rangeAt_below F1.out G1 s2
      refine hKK.out _ _ ⟨H1,H2⟩ (fun _=>?_)
      clear hKK K' H1 H2
      refine wpAnyH_ready (rs:=[7]) (by kernel_rfl) (by simp) ?_
      refine AllReadyH.cons rfl ?_ AllReadyH.nil
      intro K' hKK
      rw[if_pos (by rfl)]
      refine wp_store_mid 151 (.tmp 6) (.tmp 10) rfl (z1.heap.size) 0 r3.toArray rfl rfl ?_ ?_ (all_oneCell_toArray Q3z14.out.2.1) ?_
      ·rw[show r3.toArray.size=9 by simpa using Q3z14.out.1];exact T6
      ·rw[show r3.toArray.size=9 by simpa using Q3z14.out.1];exact hsk.out
      have H1:=rangeAt_below E1.out G2 s1
      have H2:=rangeAt_below F1.out G2 s2
      refine hKK.out _ _ ⟨H1,H2⟩ (fun _=>?_)
      clear hKK K' H1 H2
      refine wpAnyH_done (by kernel_rfl) ?_ _
      try simp only[Act.put,List.getElem_toArray,List.getElem_cons_succ,List.getElem_cons_zero]
      go_wp2_with fail
      go_meet
      case rel=>exact⟨z13.heap.size,z1.heap.size,r1,r3,rfl,rfl,s5,s6,R5,R6,M1,M3,hW1.trans (G2.mono hW1.size)⟩
    ·go_simp
     obtain⟨z15,hz15⟩:∃v,v=z12.alloc (.cells zw9 151):=⟨_,rfl⟩
     rw[<-hz15]
     have Gz15:Below w1.heap.size w1 z15:=by rw[hz15];exact Gz12.alloc Gz12.size _
     have N5z15:BlkI z15 z12.heap.size 151 zw9:=by rw[hz15];exact heap_alloc_last _ _
     have N6z15:BlkI z15 (z1.heap.size) 151 zw9:=by rw[hz15];exact N6z12.below (zaa z12 _)
     have hne:z1.heap.size<z12.heap.size:=N6z12.lt
     have Q1z15:Hid (Nine z15 i r1):=by rw[hz15];exact Q1z12.out.below (zaa z12 _)
     have h5p:w1.heap.size<=z12.heap.size:=Gz12.size
     clear hz15
     have H1:=rangeAt_below E1.out Gz15 s1
     have H2:=rangeAt_below F1.out Gz15 s2
     refine hKK.out _ _ ⟨H1,H2⟩ (fun _=>?_)
     clear hKK K' H1 H2
     refine wpAnyH_ready (rs:=[3]) (by kernel_rfl) (by simp) ?_
     refine AllReadyH.cons rfl (fun K' hKK=>?_) AllReadyH.nil
     ·go_simp
      refine(hof2 _ (hW1.trans (Gz15.mono hW1.size))).mono ?_
      rintro e z16 ⟨v,rfl,hI,hbz16⟩
      obtain⟨r3,rfl,hN⟩:=hI.nine
      have Gz16:Below w1.heap.size w1 z16:=Gz15.trans (hbz16.mono Gz15.size)
      clear hI
      have Q3z16:Hid (Nine z16 i r3):=hN
      clear hN
      have Q1z16:Hid (Nine z16 i r1):=Q1z15.out.below hbz16
      have N5z16:=N5z15.below hbz16
      have N6z16:=N6z15.below hbz16
      have H1:=rangeAt_below E1.out Gz16 s1
      have H2:=rangeAt_below F1.out Gz16 s2
      refine hKK.out _ _ ⟨H1,H2⟩ (fun _=>?_)
      clear hKK K' H1 H2
      obtain⟨T6,G1,G2,s5,s6,R5,R6,M1,M3⟩:=zai Q1z16.out Q3z16.out Gz16 h5p h6p N5z16 N6z16 (by omega)
      refine wpAnyH_ready (rs:=[6]) (by kernel_rfl) (by simp) ?_
      refine AllReadyH.cons rfl ?_ AllReadyH.nil
      intro K' hKK
      rw[if_pos (by rfl)]
      refine wp_store_mid 151 (.tmp 5) (.tmp 8) rfl (z12.heap.size) 0 r1.toArray rfl rfl ?_ ?_ (all_oneCell_toArray Q1z16.out.2.1) ?_
      ·rw[show r1.toArray.size=9 by simpa using Q1z16.out.1];exact N5z16.there9
      ·rw[show r1.toArray.size=9 by simpa using Q1z16.out.1];exact hsk.out
      have H1:=rangeAt_below E1.out G1 s1
      have H2:=rangeAt_below F1.out G1 s2
      refine hKK.out _ _ ⟨H1,H2⟩ (fun _=>?_)
      clear hKK K' H1 H2
      refine wpAnyH_ready (rs:=[7]) (by kernel_rfl) (by simp) ?_
      refine AllReadyH.cons rfl ?_ AllReadyH.nil
      intro K' hKK
      rw[if_pos (by rfl)]
      refine wp_store_mid 151 (.tmp 6) (.tmp 10) rfl (z1.heap.size) 0 r3.toArray rfl rfl ?_ ?_ (all_oneCell_toArray Q3z16.out.2.1) ?_
      ·rw[show r3.toArray.size=9 by simpa using Q3z16.out.1];exact T6
      ·rw[show r3.toArray.size=9 by simpa using Q3z16.out.1];exact hsk.out
      have H1:=rangeAt_below E1.out G2 s1
      have H2:=rangeAt_below F1.out G2 s2
      refine hKK.out _ _ ⟨H1,H2⟩ (fun _=>?_)
      clear hKK K' H1 H2
      refine wpAnyH_done (by kernel_rfl) ?_ _
      try simp only[Act.put,List.getElem_toArray,List.getElem_cons_succ,List.getElem_cons_zero]
      go_wp2_with fail
      go_meet
      case rel=>exact⟨z12.heap.size,z1.heap.size,r1,r3,rfl,rfl,s5,s6,R5,R6,M1,M3,hW1.trans (G2.mono hW1.size)⟩
  ·go_simp
   obtain⟨z17,hz17⟩:∃v,v=z0.alloc (.cells zw9 151):=⟨_,rfl⟩
   rw[<-hz17]
   have Gz17:Below w1.heap.size w1 z17:=by rw[hz17];exact Gz0.alloc Gz0.size _
   have N5z17:BlkI z17 z0.heap.size 151 zw9:=by rw[hz17];exact heap_alloc_last _ _
   have h5p:w1.heap.size<=z0.heap.size:=Gz0.size
   clear hz17
   have H1:=rangeAt_below E1.out Gz17 s1
   have H2:=rangeAt_below F1.out Gz17 s2
   refine hKK.out _ _ ⟨H1,H2⟩ (fun _=>?_)
   clear hKK K' H1 H2
   refine wpAnyH_ready (rs:=[1,5]) (by kernel_rfl) (by simp) ?_
   refine AllReadyH.cons rfl (fun K' hKK=>?_) (AllReadyH.cons rfl (fun K' hKK=>?_) AllReadyH.nil)
   ·go_simp
    refine(hof1 _ (hW1.trans (Gz17.mono hW1.size))).mono ?_
    rintro e z18 ⟨v,rfl,hI,hbz18⟩
    obtain⟨r1,rfl,hN⟩:=hI.nine
    have Gz18:Below w1.heap.size w1 z18:=Gz17.trans (hbz18.mono Gz17.size)
    clear hI
    have Q1z18:Hid (Nine z18 i r1):=hN
    clear hN
    have N5z18:=N5z17.below hbz18
    have H1:=rangeAt_below E1.out Gz18 s1
    have H2:=rangeAt_below F1.out Gz18 s2
    refine hKK.out _ _ ⟨H1,H2⟩ (fun _=>?_)
    clear hKK K' H1 H2
    refine wpAnyH_ready (rs:=[3,5]) (by kernel_rfl) (by simp) ?_
    refine AllReadyH.cons rfl (fun K' hKK=>?_) (AllReadyH.cons rfl (fun K' hKK=>?_) AllReadyH.nil)
    ·go_simp
     refine(hof2 _ (hW1.trans (Gz18.mono hW1.size))).mono ?_
     rintro e z19 ⟨v,rfl,hI,hbz19⟩
     obtain⟨r3,rfl,hN⟩:=hI.nine
     have Gz19:Below w1.heap.size w1 z19:=Gz18.trans (hbz19.mono Gz18.size)
     clear hI
     have Q3z19:Hid (Nine z19 i r3):=hN
     clear hN
     have Q1z19:Hid (Nine z19 i r1):=Q1z18.out.below hbz19
     have N5z19:=N5z18.below hbz19
     have H1:=rangeAt_below E1.out Gz19 s1
     have H2:=rangeAt_below F1.out Gz19 s2
     refine hKK.out _ _ ⟨H1,H2⟩ (fun _=>?_)
     clear hKK K' H1 H2
     refine wpAnyH_ready (rs:=[5]) (by kernel_rfl) (by simp) ?_
     refine AllReadyH.cons rfl (fun K' hKK=>?_) AllReadyH.nil
     ·go_simp
      obtain⟨z20,hz20⟩:∃v,v=z19.alloc (.cells zw9 151):=⟨_,rfl⟩
      rw[<-hz20]
      have Gz20:Below w1.heap.size w1 z20:=by rw[hz20];exact Gz19.alloc Gz19.size _
      have N6z20:BlkI z20 z19.heap.size 151 zw9:=by rw[hz20];exact heap_alloc_last _ _
      have N5z20:BlkI z20 (z0.heap.size) 151 zw9:=by rw[hz20];exact N5z19.below (zaa z19 _)
      have hne:z0.heap.size<z19.heap.size:=N5z19.lt
      have Q1z20:Hid (Nine z20 i r1):=by rw[hz20];exact Q1z19.out.below (zaa z19 _)
      have Q3z20:Hid (Nine z20 i r3):=by rw[hz20];exact Q3z19.out.below (zaa z19 _)
      have h6p:w1.heap.size<=z19.heap.size:=Gz19.size
      clear hz20
      have H1:=rangeAt_below E1.out Gz20 s1
      have H2:=rangeAt_below F1.out Gz20 s2
      refine hKK.out _ _ ⟨H1,H2⟩ (fun _=>?_)
      clear hKK K' H1 H2
      obtain⟨T6,G1,G2,s5,s6,R5,R6,M1,M3⟩:=zai Q1z20.out Q3z20.out Gz20 h5p h6p N5z20 N6z20 (by omega)
      refine wpAnyH_ready (rs:=[6]) (by kernel_rfl) (by simp) ?_
      refine AllReadyH.cons rfl ?_ AllReadyH.nil
      intro K' hKK
      rw[if_pos (by rfl)]
      refine wp_store_mid 151 (.tmp 5) (.tmp 8) rfl (z0.heap.size) 0 r1.toArray rfl rfl ?_ ?_ (all_oneCell_toArray Q1z20.out.2.1) ?_
      ·rw[show r1.toArray.size=9 by simpa using Q1z20.out.1];exact N5z20.there9
      ·rw[show r1.toArray.size=9 by simpa using Q1z20.out.1];exact hsk.out
      have H1:=rangeAt_below E1.out G1 s1
      have H2:=rangeAt_below F1.out G1 s2
      refine hKK.out _ _ ⟨H1,H2⟩ (fun _=>?_)
      clear hKK K' H1 H2
      refine wpAnyH_ready (rs:=[7]) (by kernel_rfl) (by simp) ?_
      refine AllReadyH.cons rfl ?_ AllReadyH.nil
      intro K' hKK
      rw[if_pos (by rfl)]
      refine wp_store_mid 151 (.tmp 6) (.tmp 10) rfl (z19.heap.size) 0 r3.toArray rfl rfl ?_ ?_ (all_oneCell_toArray Q3z20.out.2.1) ?_
      ·rw[show r3.toArray.size=9 by simpa using Q3z20.out.1];exact T6
      ·rw[show r3.toArray.size=9 by simpa using Q3z20.out.1];exact hsk.out
      have H1:=rangeAt_below E1.out G2 s1
      have H2:=rangeAt_below F1.out G2 s2
      refine hKK.out _ _ ⟨H1,H2⟩ (fun _=>?_)
      clear hKK K' H1 H2
      refine wpAnyH_done (by kernel_rfl) ?_ _
      try simp only[Act.put,List.getElem_toArray,List.getElem_cons_succ,List.getElem_cons_zero]
      go_wp2_with fail
      go_meet
      case rel=>exact⟨z0.heap.size,z19.heap.size,r1,r3,rfl,rfl,s5,s6,R5,R6,M1,M3,hW1.trans (G2.mono hW1.size)⟩
    ·go_simp
     obtain⟨z21,hz21⟩:∃v,v=z18.alloc (.cells zw9 151):=⟨_,rfl⟩
     rw[<-hz21]
     have Gz21:Below w1.heap.size w1 z21:=by rw[hz21];exact Gz18.alloc Gz18.size _
     have N6z21:BlkI z21 z18.heap.size 151 zw9:=by rw[hz21];exact heap_alloc_last _ _
     have N5z21:BlkI z21 (z0.heap.size) 151 zw9:=by rw[hz21];exact N5z18.below (zaa z18 _)
     have hne:z0.heap.size<z18.heap.size:=N5z18.lt
     have Q1z21:Hid (Nine z21 i r1):=by rw[hz21];exact Q1z18.out.below (zaa z18 _)
     have h6p:w1.heap.size<=z18.heap.size:=Gz18.size
     clear hz21
     have H1:=rangeAt_below E1.out Gz21 s1
     have H2:=rangeAt_below F1.out Gz21 s2
     refine hKK.out _ _ ⟨H1,H2⟩ (fun _=>?_)
     clear hKK K' H1 H2
     refine wpAnyH_ready (rs:=[3]) (by kernel_rfl) (by simp) ?_
     refine AllReadyH.cons rfl (fun K' hKK=>?_) AllReadyH.nil
     ·go_simp
      refine(hof2 _ (hW1.trans (Gz21.mono hW1.size))).mono ?_
      rintro e z22 ⟨v,rfl,hI,hbz22⟩
      obtain⟨r3,rfl,hN⟩:=hI.nine
      have Gz22:Below w1.heap.size w1 z22:=Gz21.trans (hbz22.mono Gz21.size)
      clear hI
      have Q3z22:Hid (Nine z22 i r3):=hN
      clear hN
      have Q1z22:Hid (Nine z22 i r1):=Q1z21.out.below hbz22
      have N5z22:=N5z21.below hbz22
      have N6z22:=N6z21.below hbz22
      have H1:=rangeAt_below E1.out Gz22 s1
      have H2:=rangeAt_below F1.out Gz22 s2
      refine hKK.out _ _ ⟨H1,H2⟩ (fun _=>?_)
      clear hKK K' H1 H2
      obtain⟨T6,G1,G2,s5,s6,R5,R6,M1,M3⟩:=zai Q1z22.out Q3z22.out Gz22 h5p h6p N5z22 N6z22 (by omega)
      refine wpAnyH_ready (rs:=[6]) (by kernel_rfl) (by simp) ?_
      refine AllReadyH.cons rfl ?_ AllReadyH.nil
      intro K' hKK
      rw[if_pos (by rfl)]
      refine wp_store_mid 151 (.tmp 5) (.tmp 8) rfl (z0.heap.size) 0 r1.toArray rfl rfl ?_ ?_ (all_oneCell_toArray Q1z22.out.2.1) ?_
      ·rw[show r1.toArray.size=9 by simpa using Q1z22.out.1];exact N5z22.there9
      ·rw[show r1.toArray.size=9 by simpa using Q1z22.out.1];exact hsk.out
      have H1:=rangeAt_below E1.out G1 s1
      have H2:=rangeAt_below F1.out G1 s2
      refine hKK.out _ _ ⟨H1,H2⟩ (fun _=>?_)
      clear hKK K' H1 H2
      refine wpAnyH_ready (rs:=[7]) (by kernel_rfl) (by simp) ?_
      refine AllReadyH.cons rfl ?_ AllReadyH.nil
      intro K' hKK
      rw[if_pos (by rfl)]
      refine wp_store_mid 151 (.tmp 6) (.tmp 10) rfl (z18.heap.size) 0 r3.toArray rfl rfl ?_ ?_ (all_oneCell_toArray Q3z22.out.2.1) ?_
      ·rw[show r3.toArray.size=9 by simpa using Q3z22.out.1];exact T6
      ·rw[show r3.toArray.size=9 by simpa using Q3z22.out.1];exact hsk.out
      have H1:=rangeAt_below E1.out G2 s1
      have H2:=rangeAt_below F1.out G2 s2
      refine hKK.out _ _ ⟨H1,H2⟩ (fun _=>?_)
      clear hKK K' H1 H2
      refine wpAnyH_done (by kernel_rfl) ?_ _
      try simp only[Act.put,List.getElem_toArray,List.getElem_cons_succ,List.getElem_cons_zero]
      go_wp2_with fail
      go_meet
      case rel=>exact⟨z0.heap.size,z18.heap.size,r1,r3,rfl,rfl,s5,s6,R5,R6,M1,M3,hW1.trans (G2.mono hW1.size)⟩
   ·go_simp
    obtain⟨z23,hz23⟩:∃v,v=z17.alloc (.cells zw9 151):=⟨_,rfl⟩
    rw[<-hz23]
    have Gz23:Below w1.heap.size w1 z23:=by rw[hz23];exact Gz17.alloc Gz17.size _
    have N6z23:BlkI z23 z17.heap.size 151 zw9:=by rw[hz23];exact heap_alloc_last _ _
    have N5z23:BlkI z23 (z0.heap.size) 151 zw9:=by rw[hz23];exact N5z17.below (zaa z17 _)
    have hne:z0.heap.size<z17.heap.size:=N5z17.lt
    have h6p:w1.heap.size<=z17.heap.size:=Gz17.size
    clear hz23
    have H1:=rangeAt_below E1.out Gz23 s1
    have H2:=rangeAt_below F1.out Gz23 s2
    refine hKK.out _ _ ⟨H1,H2⟩ (fun _=>?_)
    clear hKK K' H1 H2
    refine wpAnyH_ready (rs:=[1]) (by kernel_rfl) (by simp) ?_
    refine AllReadyH.cons rfl (fun K' hKK=>?_) AllReadyH.nil
    ·go_simp
     refine(hof1 _ (hW1.trans (Gz23.mono hW1.size))).mono ?_
     rintro e z24 ⟨v,rfl,hI,hbz24⟩
     obtain⟨r1,rfl,hN⟩:=hI.nine
     have Gz24:Below w1.heap.size w1 z24:=Gz23.trans (hbz24.mono Gz23.size)
     clear hI
     have Q1z24:Hid (Nine z24 i r1):=hN
     clear hN
     have N5z24:=N5z23.below hbz24
     have N6z24:=N6z23.below hbz24
     have H1:=rangeAt_below E1.out Gz24 s1
     have H2:=rangeAt_below F1.out Gz24 s2
     refine hKK.out _ _ ⟨H1,H2⟩ (fun _=>?_)
     clear hKK K' H1 H2
     refine wpAnyH_ready (rs:=[3]) (by kernel_rfl) (by simp) ?_
     refine AllReadyH.cons rfl (fun K' hKK=>?_) AllReadyH.nil
     ·go_simp
      refine(hof2 _ (hW1.trans (Gz24.mono hW1.size))).mono ?_
      rintro e z25 ⟨v,rfl,hI,hbz25⟩
      obtain⟨r3,rfl,hN⟩:=hI.nine
      have Gz25:Below w1.heap.size w1 z25:=Gz24.trans (hbz25.mono Gz24.size)
      clear hI
      have Q3z25:Hid (Nine z25 i r3):=hN
      clear hN
      have Q1z25:Hid (Nine z25 i r1):=Q1z24.out.below hbz25
      have N5z25:=N5z24.below hbz25
      have N6z25:=N6z24.below hbz25
      have H1:=rangeAt_below E1.out Gz25 s1
      have H2:=rangeAt_below F1.out Gz25 s2
      refine hKK.out _ _ ⟨H1,H2⟩ (fun _=>?_)
      clear hKK K' H1 H2
      obtain⟨T6,G1,G2,s5,s6,R5,R6,M1,M3⟩:=zai Q1z25.out Q3z25.out Gz25 h5p h6p N5z25 N6z25 (by omega)
      refine wpAnyH_ready (rs:=[6]) (by kernel_rfl) (by simp) ?_
      refine AllReadyH.cons rfl ?_ AllReadyH.nil
      intro K' hKK
      rw[if_pos (by rfl)]
      refine wp_store_mid 151 (.tmp 5) (.tmp 8) rfl (z0.heap.size) 0 r1.toArray rfl rfl ?_ ?_ (all_oneCell_toArray Q1z25.out.2.1) ?_
      ·rw[show r1.toArray.size=9 by simpa using Q1z25.out.1];exact N5z25.there9
      ·rw[show r1.toArray.size=9 by simpa using Q1z25.out.1];exact hsk.out
      have H1:=rangeAt_below E1.out G1 s1
      have H2:=rangeAt_below F1.out G1 s2
      refine hKK.out _ _ ⟨H1,H2⟩ (fun _=>?_)
      clear hKK K' H1 H2
      refine wpAnyH_ready (rs:=[7]) (by kernel_rfl) (by simp) ?_
      refine AllReadyH.cons rfl ?_ AllReadyH.nil
      intro K' hKK
      rw[if_pos (by rfl)]
      refine wp_store_mid 151 (.tmp 6) (.tmp 10) rfl (z17.heap.size) 0 r3.toArray rfl rfl ?_ ?_ (all_oneCell_toArray Q3z25.out.2.1) ?_
      ·rw[show r3.toArray.size=9 by simpa using Q3z25.out.1];exact T6
      ·rw[show r3.toArray.size=9 by simpa using Q3z25.out.1];exact hsk.out
      have H1:=rangeAt_below E1.out G2 s1
      have H2:=rangeAt_below F1.out G2 s2
      refine hKK.out _ _ ⟨H1,H2⟩ (fun _=>?_)
      clear hKK K' H1 H2
      refine wpAnyH_done (by kernel_rfl) ?_ _
      try simp only[Act.put,List.getElem_toArray,List.getElem_cons_succ,List.getElem_cons_zero]
      go_wp2_with fail
      go_meet
      case rel=>exact⟨z0.heap.size,z17.heap.size,r1,r3,rfl,rfl,s5,s6,R5,R6,M1,M3,hW1.trans (G2.mono hW1.size)⟩
  ·go_simp
   obtain⟨z26,hz26⟩:∃v,v=z0.alloc (.cells zw9 151):=⟨_,rfl⟩
   rw[<-hz26]
   have Gz26:Below w1.heap.size w1 z26:=by rw[hz26];exact Gz0.alloc Gz0.size _
   have N6z26:BlkI z26 z0.heap.size 151 zw9:=by rw[hz26];exact heap_alloc_last _ _
   have h6p:w1.heap.size<=z0.heap.size:=Gz0.size
   clear hz26
   have H1:=rangeAt_below E1.out Gz26 s1
   have H2:=rangeAt_below F1.out Gz26 s2
   refine hKK.out _ _ ⟨H1,H2⟩ (fun _=>?_)
   clear hKK K' H1 H2
   refine wpAnyH_ready (rs:=[1,4]) (by kernel_rfl) (by simp) ?_
   refine AllReadyH.cons rfl (fun K' hKK=>?_) (AllReadyH.cons rfl (fun K' hKK=>?_) AllReadyH.nil)
   ·go_simp
    refine(hof1 _ (hW1.trans (Gz26.mono hW1.size))).mono ?_
    rintro e z27 ⟨v,rfl,hI,hbz27⟩
    obtain⟨r1,rfl,hN⟩:=hI.nine
    have Gz27:Below w1.heap.size w1 z27:=Gz26.trans (hbz27.mono Gz26.size)
    clear hI
    have Q1z27:Hid (Nine z27 i r1):=hN
    clear hN
    have N6z27:=N6z26.below hbz27
    have H1:=rangeAt_below E1.out Gz27 s1
    have H2:=rangeAt_below F1.out Gz27 s2
    refine hKK.out _ _ ⟨H1,H2⟩ (fun _=>?_)
    clear hKK K' H1 H2
    refine wpAnyH_ready (rs:=[3,4]) (by kernel_rfl) (by simp) ?_
    refine AllReadyH.cons rfl (fun K' hKK=>?_) (AllReadyH.cons rfl (fun K' hKK=>?_) AllReadyH.nil)
    ·go_simp
     refine(hof2 _ (hW1.trans (Gz27.mono hW1.size))).mono ?_
     rintro e z28 ⟨v,rfl,hI,hbz28⟩
     obtain⟨r3,rfl,hN⟩:=hI.nine
     have Gz28:Below w1.heap.size w1 z28:=Gz27.trans (hbz28.mono Gz27.size)
     clear hI
     have Q3z28:Hid (Nine z28 i r3):=hN
     clear hN
     have Q1z28:Hid (Nine z28 i r1):=Q1z27.out.below hbz28
     have N6z28:=N6z27.below hbz28
     have H1:=rangeAt_below E1.out Gz28 s1
     have H2:=rangeAt_below F1.out Gz28 s2
     refine hKK.out _ _ ⟨H1,H2⟩ (fun _=>?_)
     clear hKK K' H1 H2
     refine wpAnyH_ready (rs:=[4]) (by kernel_rfl) (by simp) ?_
     refine AllReadyH.cons rfl (fun K' hKK=>?_) AllReadyH.nil
     ·go_simp
      obtain⟨z29,hz29⟩:∃v,v=z28.alloc (.cells zw9 151):=⟨_,rfl⟩
      rw[<-hz29]
      have Gz29:Below w1.heap.size w1 z29:=by rw[hz29];exact Gz28.alloc Gz28.size _
      have N5z29:BlkI z29 z28.heap.size 151 zw9:=by rw[hz29];exact heap_alloc_last _ _
      have N6z29:BlkI z29 (z0.heap.size) 151 zw9:=by rw[hz29];exact N6z28.below (zaa z28 _)
      have hne:z0.heap.size<z28.heap.size:=N6z28.lt
      have Q1z29:Hid (Nine z29 i r1):=by rw[hz29];exact Q1z28.out.below (zaa z28 _)
      have Q3z29:Hid (Nine z29 i r3):=by rw[hz29];exact Q3z28.out.below (zaa z28 _)
      have h5p:w1.heap.size<=z28.heap.size:=Gz28.size
      clear hz29
      have H1:=rangeAt_below E1.out Gz29 s1
      have H2:=rangeAt_below F1.out Gz29 s2
      refine hKK.out _ _ ⟨H1,H2⟩ (fun _=>?_)
      clear hKK K' H1 H2
      obtain⟨T6,G1,G2,s5,s6,R5,R6,M1,M3⟩:=zai Q1z29.out Q3z29.out Gz29 h5p h6p N5z29 N6z29 (by omega)
      refine wpAnyH_ready (rs:=[6]) (by kernel_rfl) (by simp) ?_
      refine AllReadyH.cons rfl ?_ AllReadyH.nil
      intro K' hKK
      rw[if_pos (by rfl)]
      refine wp_store_mid 151 (.tmp 5) (.tmp 8) rfl (z28.heap.size) 0 r1.toArray rfl rfl ?_ ?_ (all_oneCell_toArray Q1z29.out.2.1) ?_
      ·rw[show r1.toArray.size=9 by simpa using Q1z29.out.1];exact N5z29.there9
      ·rw[show r1.toArray.size=9 by simpa using Q1z29.out.1];exact hsk.out
      have H1:=rangeAt_below E1.out G1 s1
      have H2:=rangeAt_below F1.out G1 s2
      refine hKK.out _ _ ⟨H1,H2⟩ (fun _=>?_)
      clear hKK K' H1 H2
      refine wpAnyH_ready (rs:=[7]) (by kernel_rfl) (by simp) ?_
      refine AllReadyH.cons rfl ?_ AllReadyH.nil
      intro K' hKK
      rw[if_pos (by rfl)]
      refine wp_store_mid 151 (.tmp 6) (.tmp 10) rfl (z0.heap.size) 0 r3.toArray rfl rfl ?_ ?_ (all_oneCell_toArray Q3z29.out.2.1) ?_
      ·rw[show r3.toArray.size=9 by simpa using Q3z29.out.1];exact T6
      ·rw[show r3.toArray.size=9 by simpa using Q3z29.out.1];exact hsk.out
      have H1:=rangeAt_below E1.out G2 s1
      have H2:=rangeAt_below F1.out G2 s2
      refine hKK.out _ _ ⟨H1,H2⟩ (fun _=>?_)
      clear hKK K' H1 H2
      refine wpAnyH_done (by kernel_rfl) ?_ _
      try simp only[Act.put,List.getElem_toArray,List.getElem_cons_succ,List.getElem_cons_zero]
      go_wp2_with fail
      go_meet
      case rel=>exact⟨z28.heap.size,z0.heap.size,r1,r3,rfl,rfl,s5,s6,R5,R6,M1,M3,hW1.trans (G2.mono hW1.size)⟩
    ·go_simp
     obtain⟨z30,hz30⟩:∃v,v=z27.alloc (.cells zw9 151):=⟨_,rfl⟩
     rw[<-hz30]
     have Gz30:Below w1.heap.size w1 z30:=by rw[hz30];exact Gz27.alloc Gz27.size _
     have N5z30:BlkI z30 z27.heap.size 151 zw9:=by rw[hz30];exact heap_alloc_last _ _
     have N6z30:BlkI z30 (z0.heap.size) 151 zw9:=by rw[hz30];exact N6z27.below (zaa z27 _)
     have hne:z0.heap.size<z27.heap.size:=N6z27.lt
     have Q1z30:Hid (Nine z30 i r1):=by rw[hz30];exact Q1z27.out.below (zaa z27 _)
     have h5p:w1.heap.size<=z27.heap.size:=Gz27.size
     clear hz30
     have H1:=rangeAt_below E1.out Gz30 s1
     have H2:=rangeAt_below F1.out Gz30 s2
     refine hKK.out _ _ ⟨H1,H2⟩ (fun _=>?_)
     clear hKK K' H1 H2
     refine wpAnyH_ready (rs:=[3]) (by kernel_rfl) (by simp) ?_
     refine AllReadyH.cons rfl (fun K' hKK=>?_) AllReadyH.nil
     ·go_simp
      refine(hof2 _ (hW1.trans (Gz30.mono hW1.size))).mono ?_
      rintro e z31 ⟨v,rfl,hI,hbz31⟩
      obtain⟨r3,rfl,hN⟩:=hI.nine
      have Gz31:Below w1.heap.size w1 z31:=Gz30.trans (hbz31.mono Gz30.size)
      clear hI
      have Q3z31:Hid (Nine z31 i r3):=hN
      clear hN
      have Q1z31:Hid (Nine z31 i r1):=Q1z30.out.below hbz31
      have N5z31:=N5z30.below hbz31
      have N6z31:=N6z30.below hbz31
      have H1:=rangeAt_below E1.out Gz31 s1
      have H2:=rangeAt_below F1.out Gz31 s2
      refine hKK.out _ _ ⟨H1,H2⟩ (fun _=>?_)
      clear hKK K' H1 H2
      obtain⟨T6,G1,G2,s5,s6,R5,R6,M1,M3⟩:=zai Q1z31.out Q3z31.out Gz31 h5p h6p N5z31 N6z31 (by omega)
      refine wpAnyH_ready (rs:=[6]) (by kernel_rfl) (by simp) ?_
      refine AllReadyH.cons rfl ?_ AllReadyH.nil
      intro K' hKK
      rw[if_pos (by rfl)]
      refine wp_store_mid 151 (.tmp 5) (.tmp 8) rfl (z27.heap.size) 0 r1.toArray rfl rfl ?_ ?_ (all_oneCell_toArray Q1z31.out.2.1) ?_
      ·rw[show r1.toArray.size=9 by simpa using Q1z31.out.1];exact N5z31.there9
      ·rw[show r1.toArray.size=9 by simpa using Q1z31.out.1];exact hsk.out
      have H1:=rangeAt_below E1.out G1 s1
      have H2:=rangeAt_below F1.out G1 s2
      refine hKK.out _ _ ⟨H1,H2⟩ (fun _=>?_)
      clear hKK K' H1 H2
      refine wpAnyH_ready (rs:=[7]) (by kernel_rfl) (by simp) ?_
      refine AllReadyH.cons rfl ?_ AllReadyH.nil
      intro K' hKK
      rw[if_pos (by rfl)]
      refine wp_store_mid 151 (.tmp 6) (.tmp 10) rfl (z0.heap.size) 0 r3.toArray rfl rfl ?_ ?_ (all_oneCell_toArray Q3z31.out.2.1) ?_
      ·rw[show r3.toArray.size=9 by simpa using Q3z31.out.1];exact T6
      ·rw[show r3.toArray.size=9 by simpa using Q3z31.out.1];exact hsk.out
      have H1:=rangeAt_below E1.out G2 s1
      have H2:=rangeAt_below F1.out G2 s2
      refine hKK.out _ _ ⟨H1,H2⟩ (fun _=>?_)
      clear hKK K' H1 H2
      refine wpAnyH_done (by kernel_rfl) ?_ _
      try simp only[Act.put,List.getElem_toArray,List.getElem_cons_succ,List.getElem_cons_zero]
      go_wp2_with fail
      go_meet
      case rel=>exact⟨z27.heap.size,z0.heap.size,r1,r3,rfl,rfl,s5,s6,R5,R6,M1,M3,hW1.trans (G2.mono hW1.size)⟩
   ·go_simp
    obtain⟨z32,hz32⟩:∃v,v=z26.alloc (.cells zw9 151):=⟨_,rfl⟩
    rw[<-hz32]
    have Gz32:Below w1.heap.size w1 z32:=by rw[hz32];exact Gz26.alloc Gz26.size _
    have N5z32:BlkI z32 z26.heap.size 151 zw9:=by rw[hz32];exact heap_alloc_last _ _
    have N6z32:BlkI z32 (z0.heap.size) 151 zw9:=by rw[hz32];exact N6z26.below (zaa z26 _)
    have hne:z0.heap.size<z26.heap.size:=N6z26.lt
    have h5p:w1.heap.size<=z26.heap.size:=Gz26.size
    clear hz32
    have H1:=rangeAt_below E1.out Gz32 s1
    have H2:=rangeAt_below F1.out Gz32 s2
    refine hKK.out _ _ ⟨H1,H2⟩ (fun _=>?_)
    clear hKK K' H1 H2
    refine wpAnyH_ready (rs:=[1]) (by kernel_rfl) (by simp) ?_
    refine AllReadyH.cons rfl (fun K' hKK=>?_) AllReadyH.nil
    ·go_simp
     refine(hof1 _ (hW1.trans (Gz32.mono hW1.size))).mono ?_
     rintro e z33 ⟨v,rfl,hI,hbz33⟩
     obtain⟨r1,rfl,hN⟩:=hI.nine
     have Gz33:Below w1.heap.size w1 z33:=Gz32.trans (hbz33.mono Gz32.size)
     clear hI
     have Q1z33:Hid (Nine z33 i r1):=hN
     clear hN
     have N5z33:=N5z32.below hbz33
     have N6z33:=N6z32.below hbz33
     have H1:=rangeAt_below E1.out Gz33 s1
     have H2:=rangeAt_below F1.out Gz33 s2
     refine hKK.out _ _ ⟨H1,H2⟩ (fun _=>?_)
     clear hKK K' H1 H2
     refine wpAnyH_ready (rs:=[3]) (by kernel_rfl) (by simp) ?_
     refine AllReadyH.cons rfl (fun K' hKK=>?_) AllReadyH.nil
     ·go_simp
      refine(hof2 _ (hW1.trans (Gz33.mono hW1.size))).mono ?_
      rintro e z34 ⟨v,rfl,hI,hbz34⟩
      obtain⟨r3,rfl,hN⟩:=hI.nine
      have Gz34:Below w1.heap.size w1 z34:=Gz33.trans (hbz34.mono Gz33.size)
      clear hI
      have Q3z34:Hid (Nine z34 i r3):=hN
      clear hN
      have Q1z34:Hid (Nine z34 i r1):=Q1z33.out.below hbz34
      have N5z34:=N5z33.below hbz34
      have N6z34:=N6z33.below hbz34
      have H1:=rangeAt_below E1.out Gz34 s1
      have H2:=rangeAt_below F1.out Gz34 s2
      refine hKK.out _ _ ⟨H1,H2⟩ (fun _=>?_)
      clear hKK K' H1 H2
      obtain⟨T6,G1,G2,s5,s6,R5,R6,M1,M3⟩:=zai Q1z34.out Q3z34.out Gz34 h5p h6p N5z34 N6z34 (by omega)
      refine wpAnyH_ready (rs:=[6]) (by kernel_rfl) (by simp) ?_
      refine AllReadyH.cons rfl ?_ AllReadyH.nil
      intro K' hKK
      rw[if_pos (by rfl)]
      refine wp_store_mid 151 (.tmp 5) (.tmp 8) rfl (z26.heap.size) 0 r1.toArray rfl rfl ?_ ?_ (all_oneCell_toArray Q1z34.out.2.1) ?_
      ·rw[show r1.toArray.size=9 by simpa using Q1z34.out.1];exact N5z34.there9
      ·rw[show r1.toArray.size=9 by simpa using Q1z34.out.1];exact hsk.out
      have H1:=rangeAt_below E1.out G1 s1
      have H2:=rangeAt_below F1.out G1 s2
      refine hKK.out _ _ ⟨H1,H2⟩ (fun _=>?_)
      clear hKK K' H1 H2
      refine wpAnyH_ready (rs:=[7]) (by kernel_rfl) (by simp) ?_
      refine AllReadyH.cons rfl ?_ AllReadyH.nil
      intro K' hKK
      rw[if_pos (by rfl)]
      refine wp_store_mid 151 (.tmp 6) (.tmp 10) rfl (z0.heap.size) 0 r3.toArray rfl rfl ?_ ?_ (all_oneCell_toArray Q3z34.out.2.1) ?_
      ·rw[show r3.toArray.size=9 by simpa using Q3z34.out.1];exact T6
      ·rw[show r3.toArray.size=9 by simpa using Q3z34.out.1];exact hsk.out
      have H1:=rangeAt_below E1.out G2 s1
      have H2:=rangeAt_below F1.out G2 s2
      refine hKK.out _ _ ⟨H1,H2⟩ (fun _=>?_)
      clear hKK K' H1 H2
      refine wpAnyH_done (by kernel_rfl) ?_ _
      try simp only[Act.put,List.getElem_toArray,List.getElem_cons_succ,List.getElem_cons_zero]
      go_wp2_with fail
      go_meet
      case rel=>exact⟨z26.heap.size,z0.heap.size,r1,r3,rfl,rfl,s5,s6,R5,R6,M1,M3,hW1.trans (G2.mono hW1.size)⟩
 case rest=>
  obtain⟨p5,p6,r1,r3,rfl,rfl,s5,s6,R5,R6,QA',QB',Wc⟩:=hcut
  obtain⟨_,_,q1,p1,q2,p2,l1,c1,m1,e1,l2,c2,m2,e2,rfl,QA⟩:=QA'.out
  obtain⟨_,_,xq1,xp1,xq2,xp2,xl1,xc1,xm1,xe1,xl2,xc2,xm2,xe2,rfl,QB⟩:=QB'.out
  clear E1 F1 hof1 hof2 hHu hd hW1 hz1 hsz hsk QA' QB' lx ly s1 s2
  have fa0:wc.cell? ⟨p5,0,none⟩=some (.bool i.g1):=by have:=R5.out 0 _ rfl;simpa using this
  have fa1:wc.cell? ⟨p5,1,none⟩=some (.slice q1 l1 c1):=by have:=R5.out 1 _ rfl;simpa using this
  have fa2:wc.cell? ⟨p5,2,none⟩=some (.slice p1 m1 e1):=by have:=R5.out 2 _ rfl;simpa using this
  have fa3:wc.cell? ⟨p5,3,none⟩=some (.bool i.g2):=by have:=R5.out 3 _ rfl;simpa using this
  have fa4:wc.cell? ⟨p5,4,none⟩=some (.slice q2 l2 c2):=by have:=R5.out 4 _ rfl;simpa using this
  have fa5:wc.cell? ⟨p5,5,none⟩=some (.slice p2 m2 e2):=by have:=R5.out 5 _ rfl;simpa using this
  have fa6:wc.cell? ⟨p5,6,none⟩=some (.bool i.li):=by have:=R5.out 6 _ rfl;simpa using this
  have fa7:wc.cell? ⟨p5,7,none⟩=some (.bool i.hh):=by have:=R5.out 7 _ rfl;simpa using this
  have fa8:wc.cell? ⟨p5,8,none⟩=some (.bool i.em):=by have:=R5.out 8 _ rfl;simpa using this
  have fb0:wc.cell? ⟨p6,0,none⟩=some (.bool i.g1):=by have:=R6.out 0 _ rfl;simpa using this
  have fb1:wc.cell? ⟨p6,1,none⟩=some (.slice xq1 xl1 xc1):=by have:=R6.out 1 _ rfl;simpa using this
  have fb2:wc.cell? ⟨p6,2,none⟩=some (.slice xp1 xm1 xe1):=by have:=R6.out 2 _ rfl;simpa using this
  have fb3:wc.cell? ⟨p6,3,none⟩=some (.bool i.g2):=by have:=R6.out 3 _ rfl;simpa using this
  have fb4:wc.cell? ⟨p6,4,none⟩=some (.slice xq2 xl2 xc2):=by have:=R6.out 4 _ rfl;simpa using this
  have fb5:wc.cell? ⟨p6,5,none⟩=some (.slice xp2 xm2 xe2):=by have:=R6.out 5 _ rfl;simpa using this
  have fb6:wc.cell? ⟨p6,6,none⟩=some (.bool i.li):=by have:=R6.out 6 _ rfl;simpa using this
  have fb7:wc.cell? ⟨p6,7,none⟩=some (.bool i.hh):=by have:=R6.out 7 _ rfl;simpa using this
  have fb8:wc.cell? ⟨p6,8,none⟩=some (.bool i.em):=by have:=R6.out 8 _ rfl;simpa using this
  have hC1:=zc1 QA.1 QB.1 hL hQ'.out.1 hQ'.out.1
  have hC2:∀z,Below wc.heap.size wc z->_:=fun z hz=>zc1 (QA.2.below hz) (QB.2.below hz) hL hQ'.out.2 hQ'.out.2
  simp only[zfh] at hC1 hC2
  clear R5 R6 QA QB hL hQ'
  obtain⟨x1,x2,x3,x4,x5,x6,xli,xhh,xem⟩:=i
  cases xem
  ·go_wp2_with (first
    | (go_at_call 104;with_reducible refine hC1.mono ?_;rintro e w2 ⟨rfl,hb2⟩
       have fa3:w2.cell? ⟨p5,3,none⟩=some (.bool x4):=(hb2.cell (by exact s5)).trans fa3
       have fa4:w2.cell? ⟨p5,4,none⟩=some (.slice q2 l2 c2):=(hb2.cell (by exact s5)).trans fa4
       have fa5:w2.cell? ⟨p5,5,none⟩=some (.slice p2 m2 e2):=(hb2.cell (by exact s5)).trans fa5
       have fb3:w2.cell? ⟨p6,3,none⟩=some (.bool x4):=(hb2.cell (by exact s6)).trans fb3
       have fb4:w2.cell? ⟨p6,4,none⟩=some (.slice xq2 xl2 xc2):=(hb2.cell (by exact s6)).trans fb4
       have fb5:w2.cell? ⟨p6,5,none⟩=some (.slice xp2 xm2 xe2):=(hb2.cell (by exact s6)).trans fb5
       clear hC1)
    | (go_at_call 104;with_reducible refine(hC2 _ hb2).mono ?_;rintro e w3 ⟨rfl,hb3⟩;clear hC2))
   go_ret
   exact⟨rfl,Wc.trans ((hb2.trans (hb3.mono hb2.size)).mono Wc.size)⟩
  ·go_wp2_with fail
   go_ret
   exact⟨rfl,Wc⟩
theorem zfi {w:World} {g1 g2 li hh:Bool} {q1 p1 q2 p2:Option Addr} {l1 c1 m1 e1 l2 c2 m2 e2:Nat} {xq1 xp1 xq2 xp2:Option Addr} {xl1 xc1 xm1 xe1 xl2 xc2 xm2 xe2:Nat} {nu1 de1 nu2 de2:List Int} (h1:Sl w (.slice q1 l1 c1) nu1) (h2:Sl w (.slice p1 m1 e1) de1) (h3:Sl w (.slice q2 l2 c2) nu2) (h4:Sl w (.slice p2 m2 e2) de2) (xh1:Sl w (.slice xq1 xl1 xc1) nu1) (xh2:Sl w (.slice xp1 xm1 xe1) de1) (xh3:Sl w (.slice xq2 xl2 xc2) nu2) (xh4:Sl w (.slice xp2 xm2 xe2) de2)
  (b1:nu1.length<=34359737000) (b2:de1.length<=34359737000) (b3:nu2.length<=34359737000) (b4:de2.length<=34359737000):
  Calls Tryz.prog 77 #[.agg #[.bool g1,.slice q1 l1 c1,.slice p1 m1 e1,.bool g2,.slice q2 l2 c2,.slice p2 m2 e2,.bool li,.bool hh],.agg #[.bool g1,.slice xq1 xl1 xc1,.slice xp1 xm1 xe1,.bool g2,.slice xq2 xl2 xc2,.slice xp2 xm2 xe2,.bool li,.bool hh]] w fun e w'=>e=.returned (.bool true)/\Below w.heap.size w w':=by
 obtain⟨L,hL,hL1,hLB⟩:=zbc
 have hQ1:QLt L (IvC.mk g1 (val nu1) (val de1) g2 (val nu2) (val de2) li hh).v.n1 (IvC.mk g1 (val nu1) (val de1) g2 (val nu2) (val de2) li hh).v.d1/\QLt L (IvC.mk g1 (val nu1) (val de1) g2 (val nu2) (val de2) li hh).v.n2 (IvC.mk g1 (val nu1) (val de1) g2 (val nu2) (val de2) li hh).v.d2:=by
  have e1:=za7 hL1 hLB h1.1 h2.1 b1 b2
  have e2:=za7 hL1 hLB h3.1 h4.1 b3 b4
  have e0:QLt L 0 0:=by
   have:=pow16_pos L
   exact⟨this,this⟩
  unfold IvC.v
  split
  ·exact⟨e0,e0⟩
  ·refine⟨?_,?_⟩
   ·show QLt L (IvC.lo _).2.1 (IvC.lo _).2.2
    unfold IvC.lo
    split
    ·exact e0
    ·exact e1
   ·show QLt L (IvC.hi _).2.1 (IvC.hi _).2.2
    unfold IvC.hi
    split
    ·exact e0
    ·exact e2
 exact zeo (cx:=[.bool g1,.slice q1 l1 c1,.slice p1 m1 e1,.bool g2,.slice q2 l2 c2,.slice p2 m2 e2,.bool li,.bool hh]) (cy:=[.bool g1,.slice xq1 xl1 xc1,.slice xp1 xm1 xe1,.bool g2,.slice xq2 xl2 xc2,.slice xp2 xm2 xe2,.bool li,.bool hh]) hL hQ1 rfl rfl (fun z hz=>iof_ok (h1.below hz) (h2.below hz) (h3.below hz) (h4.below hz) b1 b2 b3 b4 li hh) (fun z hz=>iof_ok (xh1.below hz) (xh2.below hz) (xh3.below hz) (xh4.below hz) b1 b2 b3 b4 li hh)
end Go.Proofs.YtfhjhnofkaiceaaGreatDoor
namespace Go.Proofs.YtfhjhnofkaiceaaGreatDoor
open Go Go.RowKit
def St.kid:St->Int->Option St
 | .non,_=>none
 | .mk _ _ _ _ _ _ _ _ n ki,i=>if 0<=i/\i<n then some (ki i.toNat) else none
def St.pick (X:St):List Int->Option St
 | []=>some X
 | i::r=>match X.kid i with
  | none=>none
  | some Y=>Y.pick r
theorem St.pick_append (l r:List Int):∀X:St,X.pick (l++r)=(X.pick l).bind fun Y=>Y.pick r:=by
 induction l with
 | nil=>intro X;rfl
 | cons i l ih=>
  intro X
  simp only[List.cons_append,St.pick]
  cases X.kid i with
  | none=>rfl
  | some Y=>exact ih Y
theorem zfj {X Y:St} {i:Int} (h:StSmall X) (hk:X.kid i=some Y):StSmall Y:=by
 cases X with
 | non=>cases hk
 | mk s nu de x pn ps bn bs n ki=>
  simp only[St.kid] at hk
  split at hk
  ·rename_i hi
   simp only[Option.some.injEq] at hk
   subst hk
   unfold StSmall at h
   exact h.2.2.2.2.2 _ (by omega)
  ·cases hk
theorem kid_at {w:World} {A:Nat->Prop} {X:St} {D:Sd} (h:StA w A X D) {j:Nat} (hj:j<D.kin):∃b o E,D.kiq=some ⟨b,o,none⟩/\A b/\w.rangeAt b (o+j*21) (Sd.cells E)/\∃Y,X.kid j=some Y/\StA w A Y E:=by
 cases X with
 | non=>exact h.elim
 | mk s nu de x pn ps bn bs n ki=>
  unfold StA at h
  obtain⟨⟨_,_,_,rfl⟩,_,_,_,_,_,_,_,_,h10⟩:=h
  rcases h10 with h0 | ⟨b,o,e1,e2,es,hes⟩
  ·omega
  ·refine⟨b,o,es j,e1,e2,(hes j hj).1,ki j,?_,(hes j hj).2⟩
   simp only[St.kid]
   rw[if_pos ⟨by omega,by omega⟩]
   rfl
theorem zd5 {w:World} {A:Nat->Prop} {X:St} {D:Sd} (h:StA w A X D) {i:Int} (hi:i<0\/(D.kin:Int)<=i):X.kid i=none:=by
 cases X with
 | non=>exact h.elim
 | mk s nu de x pn ps bn bs n ki=>
  unfold StA at h
  obtain⟨⟨_,_,_,rfl⟩,_⟩:=h
  simp only[St.kid]
  rw[if_neg (by omega)]
theorem kin_le {w:World} {A:Nat->Prop} {X:St} {D:Sd} (h:StA w A X D):D.kin<=1099511627776:=by
 cases X with
 | non=>exact h.elim
 | mk s nu de x pn ps bn bs n ki=>
  unfold StA at h
  obtain⟨⟨_,_,_,rfl⟩,_,_,_,_,_,_,_,h9,_⟩:=h
  exact h9
def PaOk (w:World) (q:Option Addr) (n:Nat) (p:List Int):Prop:=
 p.length=n/\n<=1099511627776/\(n=0\/∃b o,q=some ⟨b,o,none⟩/\b<w.heap.size/\∀i,i<n->w.cell? ⟨b,o+i,none⟩=some (.int .i64 (p.getD i 0)))
theorem PaOk.below {w w':World} (hb:Below w.heap.size w w') {q:Option Addr} {n:Nat} {p:List Int} (h:PaOk w q n p):PaOk w' q n p:=by
 refine⟨h.1,h.2.1,h.2.2.imp id ?_⟩
 rintro⟨b,o,e,hlt,hc⟩
 exact⟨b,o,e,Nat.lt_of_lt_of_le hlt hb.size,fun i hi=>(hb.cell (by exact hlt)).trans (hc i hi)⟩
theorem zao {P:Program} {fn:Func} {p u:Tmp} {ty:TypeId} (h:fn.results=#[.cell p ty,.tmp u]) (tmps:Array Value) (w:World) (b:Nat) (cs:List Value) (d:TypeDesc)
  (hp:tmps.getD p undef=.pointer (some ⟨b,0,none⟩)) (hc:w.rangeAt b 0 cs) (hu:P.underlying ty=some d) (hd:d.isRow=true) (hi:(P.info? ty).map (·.size)=some cs.length):
  (results fn tmps).run P w=.ok (.tuple #[.agg cs.toArray,tmps.getD u undef]) w:=by
 rw[results_cell_tmp h,hp]
 simp[asAddr,run_loadVar_mid w b 0 ty cs d hc hu hd hi]
theorem zds {w w':World} {B b n:Nat} (h:w.there b 0 n) (hb:Below B w w') (hB:b<B):w'.there b 0 n:=fun j hj=>
 ⟨by rw[hb.cell (by exact hB)];exact(h j hj).1,by rw[hb.frozen (by exact hB)];exact(h j hj).2⟩
set_option maxRecDepth 100000 in
set_option maxHeartbeats 4000000 in
theorem pick_ok {w:World} {d:Sd} {X:St} {q:Option Addr} {n c:Nat} {p:List Int} (hX:StOk w X d) (hs:StSmall X) (hp:PaOk w q n p):
  Calls Tryz.prog 68 #[.agg d.ce,.slice q n c] w fun e w'=>(X.pick p=none/\e=.returned (.tuple #[.agg zw21,.bool false])/\Below w.heap.size w w')\/
   ∃Y d',X.pick p=some Y/\e=.returned (.tuple #[Sd.val d',.bool true])/\StSmall Y/\StA w' (Fresh w w') Y d'/\Below w.heap.size w w':=by
 have hp':Hid (PaOk w q n p):=hp
 have hpl:=hp.1
 have hpn:=hp.2.1
 clear hp
 obtain⟨dd,hu,hd⟩:=st_row
 have hHu:Hid (Tryz.prog.underlying 53=some dd):=hu
 clear hu
 go_enter Tryz.func68,Tryz.ntmps68
 go_wp2_with fail
 generalize hw1:(w.alloc _).alloc _=w1
 have hz1:w1.heap.size=w.heap.size+2:=by rw[<-hw1];simp
 have hW1:Below w.heap.size w w1:=by rw[<-hw1];exact below_two _ _ _
 have hr1:w1.rangeAt w.heap.size 0 d.cells:=by rw[<-hw1];exact World.rangeAt_alloc (range_new w d.cells 53) _
 have ht1:w1.there w.heap.size 0 21:=by
  rw[<-hw1]
  exact World.there_alloc (zal (heap_alloc_last w _) rfl) _
 have ht2:w1.there (w.heap.size+1) 0 21:=by
  rw[<-hw1]
  have h:=zal (heap_alloc_last (w.alloc (.cells d.ce 53)) (.cells zw21 53 (0,0))) (n:=21) rfl
  rw[show (w.alloc (.cells d.ce 53)).heap.size=w.heap.size+1 by simp] at h
  exact h
 have hA1:StA w1 (·<w.heap.size) X d:=hX.toA.keep (zah hW1) (fun b hb=>hb)
 clear hw1
 go_loopw [10] (fun i wr=>∃k:Nat,k<=n/\i=.int .i64 k/\∃(Y:St) (D:Sd),X.pick (p.take k)=some Y/\StSmall Y/\wr.rangeAt w.heap.size 0 D.cells/\wr.there w.heap.size 0 21/\wr.there (w.heap.size+1) 0 21/\StA wr (·<w.heap.size) Y D/\Below w.heap.size w wr/\wr.heap.size=w.heap.size+2) (fun i _=>n - (intOf i).toNat)
 case atStart=>exact⟨0,Nat.zero_le _,rfl,X,d,rfl,hs,hr1,ht1,ht2,hA1,hW1,hz1⟩
 case round=>
  clear hr1 ht1 ht2 hA1 hW1 hz1
  obtain⟨k,hk,rfl,Y,D,hpk,hsY,hrD,hr1,hr2,hAD,hbw,hsz⟩:=hrel
  have hr1':Hid (wr.there w.heap.size 0 21):=hr1
  have hr2':Hid (wr.there (w.heap.size+1) 0 21):=hr2
  have hrD':Hid (wr.rangeAt w.heap.size 0 D.cells):=hrD
  have k20:wr.cell? ⟨w.heap.size,20,none⟩=some (.slice D.kiq D.kin D.kic):=by have h:=hrD 20 _ rfl;simpa using h
  clear hr1 hr2 hrD
  have hkn:=kin_le hAD
  have hpk':Hid (X.pick (p.take k)=some Y):=hpk
  clear hpk
  by_cases hlt:k<n
  ·have hlt':(k:Int)<(n:Int):=by omega
   rcases hp'.out.2.2 with h0 | ⟨b,o,hq,hbb,hcp⟩
   ·omega
   have cp:wr.cell? ⟨b,o+k,none⟩=some (.int .i64 (p.getD k 0)):=(hbw.cell (by exact hbb)).trans (hcp k hlt)
   have htk:p.take (k+1)=p.take k++[p.getD k 0]:=by
    rw[List.take_add_one]
    congr 1
    simp[List.getD,show k<p.length by omega]
   have hsplit:X.pick p=(Y.kid (p.getD k 0)).bind fun Z=>Z.pick (p.drop (k+1)):=by
    conv=>lhs;rw[<-List.take_append_drop (k+1) p]
    rw[St.pick_append,htk,St.pick_append,hpk'.out]
    simp only[Option.bind_some,St.pick]
    cases Y.kid (p.getD k 0)<;>rfl
   have hsplit':Hid (X.pick p=(Y.kid (p.getD k 0)).bind fun Z=>Z.pick (p.drop (k+1))):=hsplit
   clear hcp hsplit
   generalize p.getD k 0=I at*
   rw[hq]
   by_cases hneg:I<0
   ·have hnone:Hid (X.pick p=none):=by show X.pick p=none;rw[hsplit'.out,zd5 hAD (.inl hneg)];rfl
    go_wp2_with (with_reducible refine wpList_store_mid ?_ 53 (.tmp 4) (.tmp 23) ?_ (w.heap.size+1) 0 zw21 ?_ ?_ ?_ ?_ ?_ ?_
                 rotate_left 1
                 ·with_reducible rfl
                 ·rfl
                 ·rfl
                 ·exact hr2'.out
                 ·exact st_size
                 ·exact all_oneCell_toArray (zb2 ⟨⟨0,⟨#[]⟩,⟨#[]⟩,false,0,0,0,⟨#[]⟩,0⟩,none,0,0,none,0,0,⟨0,0,false,none,0,0,none,0,0,⟨#[]⟩,none,0,0⟩,none,0,0,none,0,0,none,0,0⟩)
                 rotate_left 1
                 ·rfl)
    obtain⟨hW8,_,_⟩:=zae w.heap.size (w.heap.size+1) (by omega) [.int .i64 0,.string ⟨#[]⟩,.string ⟨#[]⟩,.bool false,.slice none 0 0,.slice none 0 0,.int .i64 0,.int .i64 0,.int .i64 0,.int .i64 0,.int .i64 0,.bool false,.slice none 0 0,.slice none 0 0,.string ⟨#[]⟩,.slice none 0 0,.slice none 0 0,.string ⟨#[]⟩,.int .i64 0,.slice none 0 0,.slice none 0 0] 0 w wr hbw
    have hr8:=World.rangeAt_setCells_same wr (w.heap.size+1) 0 [.int .i64 0,.string ⟨#[]⟩,.string ⟨#[]⟩,.bool false,.slice none 0 0,.slice none 0 0,.int .i64 0,.int .i64 0,.int .i64 0,.int .i64 0,.int .i64 0,.bool false,.slice none 0 0,.slice none 0 0,.string ⟨#[]⟩,.slice none 0 0,.slice none 0 0,.string ⟨#[]⟩,.int .i64 0,.slice none 0 0,.slice none 0 0] hr2'.out
    change bodyPost _ _ _ _ _ (wr.setCells (w.heap.size+1) 0 [.int .i64 0,.string ⟨#[]⟩,.string ⟨#[]⟩,.bool false,.slice none 0 0,.slice none 0 0,.int .i64 0,.int .i64 0,.int .i64 0,.int .i64 0,.int .i64 0,.bool false,.slice none 0 0,.slice none 0 0,.string ⟨#[]⟩,.slice none 0 0,.slice none 0 0,.string ⟨#[]⟩,.int .i64 0,.slice none 0 0,.slice none 0 0])
    generalize wr.setCells (w.heap.size+1) 0 [.int .i64 0,.string ⟨#[]⟩,.string ⟨#[]⟩,.bool false,.slice none 0 0,.slice none 0 0,.int .i64 0,.int .i64 0,.int .i64 0,.int .i64 0,.int .i64 0,.bool false,.slice none 0 0,.slice none 0 0,.string ⟨#[]⟩,.slice none 0 0,.slice none 0 0,.string ⟨#[]⟩,.int .i64 0,.slice none 0 0,.slice none 0 0]=w8 at*
    refine bodyPost_ret (zao rfl _ _ (w.heap.size+1) _ dd rfl hr8 hHu.out hd st_size) rfl ?_
    exact .inl ⟨hnone.out,rfl,hW8⟩
   ·by_cases hge:(D.kin:Int)<=I
    ·have hnone:Hid (X.pick p=none):=by show X.pick p=none;rw[hsplit'.out,zd5 hAD (.inr hge)];rfl
     go_wp2_with (with_reducible refine wpList_store_mid ?_ 53 (.tmp 4) (.tmp 23) ?_ (w.heap.size+1) 0 zw21 ?_ ?_ ?_ ?_ ?_ ?_
                  rotate_left 1
                  ·with_reducible rfl
                  ·rfl
                  ·rfl
                  ·exact hr2'.out
                  ·exact st_size
                  ·exact all_oneCell_toArray (zb2 ⟨⟨0,⟨#[]⟩,⟨#[]⟩,false,0,0,0,⟨#[]⟩,0⟩,none,0,0,none,0,0,⟨0,0,false,none,0,0,none,0,0,⟨#[]⟩,none,0,0⟩,none,0,0,none,0,0,none,0,0⟩)
                  rotate_left 1
                  ·rfl)
     obtain⟨hW8,_,_⟩:=zae w.heap.size (w.heap.size+1) (by omega) [.int .i64 0,.string ⟨#[]⟩,.string ⟨#[]⟩,.bool false,.slice none 0 0,.slice none 0 0,.int .i64 0,.int .i64 0,.int .i64 0,.int .i64 0,.int .i64 0,.bool false,.slice none 0 0,.slice none 0 0,.string ⟨#[]⟩,.slice none 0 0,.slice none 0 0,.string ⟨#[]⟩,.int .i64 0,.slice none 0 0,.slice none 0 0] 0 w wr hbw
     have hr8:=World.rangeAt_setCells_same wr (w.heap.size+1) 0 [.int .i64 0,.string ⟨#[]⟩,.string ⟨#[]⟩,.bool false,.slice none 0 0,.slice none 0 0,.int .i64 0,.int .i64 0,.int .i64 0,.int .i64 0,.int .i64 0,.bool false,.slice none 0 0,.slice none 0 0,.string ⟨#[]⟩,.slice none 0 0,.slice none 0 0,.string ⟨#[]⟩,.int .i64 0,.slice none 0 0,.slice none 0 0] hr2'.out
     change bodyPost _ _ _ _ _ (wr.setCells (w.heap.size+1) 0 [.int .i64 0,.string ⟨#[]⟩,.string ⟨#[]⟩,.bool false,.slice none 0 0,.slice none 0 0,.int .i64 0,.int .i64 0,.int .i64 0,.int .i64 0,.int .i64 0,.bool false,.slice none 0 0,.slice none 0 0,.string ⟨#[]⟩,.slice none 0 0,.slice none 0 0,.string ⟨#[]⟩,.int .i64 0,.slice none 0 0,.slice none 0 0])
     generalize wr.setCells (w.heap.size+1) 0 [.int .i64 0,.string ⟨#[]⟩,.string ⟨#[]⟩,.bool false,.slice none 0 0,.slice none 0 0,.int .i64 0,.int .i64 0,.int .i64 0,.int .i64 0,.int .i64 0,.bool false,.slice none 0 0,.slice none 0 0,.string ⟨#[]⟩,.slice none 0 0,.slice none 0 0,.string ⟨#[]⟩,.int .i64 0,.slice none 0 0,.slice none 0 0]=w8 at*
     refine bodyPost_ret (zao rfl _ _ (w.heap.size+1) _ dd rfl hr8 hHu.out hd st_size) rfl ?_
     exact .inl ⟨hnone.out,rfl,hW8⟩
    ·obtain⟨j,rfl⟩:=Int.eq_ofNat_of_zero_le (show 0<=I by omega)
     have hj:j<D.kin:=by omega
     obtain⟨b2,o2,E,e1,e2,e3,Z,e4,e5⟩:=kid_at hAD hj
     rw[e1] at k20
     have hjl:(j:Int)<(D.kin:Int):=by omega
     have hE:Hid (wr.rangeAt b2 (o2+j*21) E.cells):=e3
     clear e3
     go_wp2_with (first
      | (with_reducible refine wpList_load_mid ?_ 53 (.tmp 27) ?_ b2 (o2+j*21) ?_ E.cells dd hE.out hHu.out hd ?_ ?_
         rotate_left 1
         ·with_reducible rfl
         ·rfl
         ·exact st_size
         rotate_left 1
         ·rfl)
      | (with_reducible refine wpList_store_mid ?_ 53 (.tmp 2) (.tmp 28) ?_ w.heap.size 0 E.cells.toArray ?_ ?_ ?_ ?_ ?_ ?_
         rotate_left 1
         ·with_reducible rfl
         ·rfl
         ·rfl
         ·exact hr1'.out
         ·exact st_size
         ·exact E.one
         rotate_left 1
         ·rfl))
     obtain⟨hW8,hs8,hb8⟩:=zae w.heap.size w.heap.size (by omega) E.cells 0 w wr hbw
     have hr8:=World.rangeAt_setCells_same wr w.heap.size 0 E.cells hr1'.out
     have ht8:=World.there_setCells hr1'.out w.heap.size 0 E.cells
     have ht9:=World.there_setCells hr2'.out w.heap.size 0 E.cells
     try simp only[Act.put]
     go_wp2_with fail
     go_roundw
     case rel=>
      refine⟨k+1,by omega,by go_num,Z,E,?_,zfj hsY e4,hr8,ht8,ht9,e5.keep (fun b hb=>hb8 b (by omega)) (fun b hb=>hb),hW8,by rw[<-hsz];exact hs8⟩
      rw[htk,St.pick_append,hpk'.out]
      simp only[Option.bind_some,St.pick]
      rw[e4]
     case measure=>simp[intOf];omega
  ·have hk2:n=k:=by omega
   have hsome:Hid (X.pick p=some Y):=by show X.pick p=some Y;rw[<-hpk'.out,List.take_of_length_le (by omega)]
   have hO:Calls Tryz.prog 88 #[.agg D.cells.toArray] wr fun e w'=>∃d':Sd,e=.returned (.agg d'.cells.toArray)/\StA w' (Fresh wr w') Y d'/\Below wr.heap.size wr w':=own_ok Y D wr (hAD.ok (fun b hb=>by have:b<w.heap.size:=hb;omega)) hsY
   go_wp2_with (first
    | (with_reducible refine wpList_load_mid ?_ 53 (.tmp 2) ?_ w.heap.size 0 ?_ D.cells dd hrD'.out hHu.out hd ?_ ?_
       rotate_left 1
       ·with_reducible rfl
       ·rfl
       ·exact st_size
       rotate_left 1
       ·rfl)
    | (go_at_call 88;with_reducible refine hO.mono ?_;rintro e w5 ⟨d',rfl,hA5,hb5⟩
       have ht5:Hid (w5.there (w.heap.size+1) 0 21):=zds hr2'.out hb5 (by omega))
    | (with_reducible refine wpList_store_mid ?_ 53 (.tmp 4) (.tmp 31) ?_ (w.heap.size+1) 0 d'.cells.toArray ?_ ?_ ?_ ?_ ?_ ?_
       rotate_left 1
       ·with_reducible rfl
       ·rfl
       ·rfl
       ·exact ht5.out
       ·exact st_size
       ·exact d'.one
       rotate_left 1
       ·rfl))
   have hb5':=hbw.trans (hb5.mono hbw.size)
   obtain⟨hW8,hs8,hb8⟩:=zae w.heap.size (w.heap.size+1) (by omega) d'.cells 0 w w5 hb5'
   have hr8:=World.rangeAt_setCells_same w5 (w.heap.size+1) 0 d'.cells ht5.out
   change bodyPost _ _ _ _ _ (w5.setCells (w.heap.size+1) 0 d'.cells)
   generalize w5.setCells (w.heap.size+1) 0 d'.cells=w8 at*
   refine bodyPost_ret (zao rfl _ _ (w.heap.size+1) _ dd rfl hr8 hHu.out hd st_size) rfl ?_
   refine .inr ⟨Y,d',hsome.out,rfl,hsY,hA5.keep (fun b hb=>hb8 b (by have:=hb.1;omega)) (fun b hb=>⟨by have:=hb.1;omega,by have:=hb.2;omega⟩),hW8⟩
end Go.Proofs.YtfhjhnofkaiceaaGreatDoor
namespace Go.Proofs.YtfhjhnofkaiceaaGreatDoor
open Go Go.RowKit
section
variable {H:Type} {enc:TypeId × Value->H} {w:World} {spare:Nat->Bool} {held:Bool} {B:DataW H->Nat}
theorem za9 (hB:Bk B):∀(fuel:Nat) (cs:List Value) (x:DataW H × List MemPlace),B x.1<=1048576->DataW.trod enc Tryz.prog w 0 spare held fuel 44 cs=some x->
  ∃(X:Ex) (d:Nd),cs=[.int .i64 d.k,.int .i64 d.f,.bool d.neg,.slice d.aq d.an d.ac,.slice d.cq d.cn d.cc,.string d.m,.slice d.sq d.sn d.sc]/\ExOk w X d/\ExSmall X:=by
 intro fuel
 induction fuel using Nat.strongRecOn with
 | _ fuel ih=>
 intro cs x hx h
 obtain⟨xs,n,hn,rfl,hl,hxl,hf⟩:=DataW.trod_struct Tryz.underlying44 h
 rw[c27] at hl
 have hxl':xs.length=5:=hxl
 clear hxl
 obtain⟨a0,cs0r,rfl,hl0⟩:=list_cons (n:=6) hl
 obtain⟨a1,cs1r,rfl,hl1⟩:=list_cons (n:=5) hl0
 obtain⟨a2,cs2r,rfl,hl2⟩:=list_cons (n:=4) hl1
 obtain⟨a3,cs3r,rfl,hl3⟩:=list_cons (n:=3) hl2
 obtain⟨a4,cs4r,rfl,hl4⟩:=list_cons (n:=2) hl3
 obtain⟨a5,cs5r,rfl,hl5⟩:=list_cons (n:=1) hl4
 obtain⟨a6,cs6r,rfl,hl6⟩:=list_cons (n:=0) hl5
 obtain rfl:=List.length_eq_zero_iff.1 hl6
 obtain⟨y0,xs0r,rfl,hxl'0⟩:=list_cons (n:=4) hxl'
 obtain⟨y1,xs1r,rfl,hxl'1⟩:=list_cons (n:=3) hxl'0
 obtain⟨y2,xs2r,rfl,hxl'2⟩:=list_cons (n:=2) hxl'1
 obtain⟨y3,xs3r,rfl,hxl'3⟩:=list_cons (n:=1) hxl'2
 obtain⟨y4,xs4r,rfl,hxl'4⟩:=list_cons (n:=0) hxl'3
 obtain rfl:=List.length_eq_zero_iff.1 hxl'4
 have h0:DataW.trod enc Tryz.prog w 0 spare held n 3 [a0]=some y0:=by have:=hf 0 _ rfl;simpa [c3] using this
 have h1:DataW.trod enc Tryz.prog w 0 spare held n 3 [a1]=some y1:=by have:=hf 1 _ rfl;simpa [c3] using this
 have h2:DataW.trod enc Tryz.prog w 0 spare held n 41 [a2,a3,a4]=some y2:=by have:=hf 2 _ rfl;simpa [c24] using this
 have h3:DataW.trod enc Tryz.prog w 0 spare held n 9 [a5]=some y3:=by have:=hf 3 _ rfl;simpa [c9] using this
 have h4:DataW.trod enc Tryz.prog w 0 spare held n 42 [a6]=some y4:=by have:=hf 4 _ rfl;simpa [c25] using this
 have b2:B y2.1<=1048576:=Nat.le_trans (hB.ag _ _ (by simp)) hx
 have b4:B y4.1<=1048576:=Nat.le_trans (hB.ag _ _ (by simp)) hx
 obtain⟨k,e0,_⟩:=DataW.trod_int Tryz.underlying3 h0
 obtain⟨f,e1,_⟩:=DataW.trod_int Tryz.underlying3 h1
 obtain⟨g,q,m,c,q',m',c',nu,de,e2,s1,s2,l1,l2⟩:=open_rat hB b2 h2
 obtain⟨s,e3,_⟩:=DataW.trod_string Tryz.underlying9 h3
 obtain⟨sq,sn,sc,e4,_,hbn,hel⟩:=open_slice Tryz.underlying42 c27 (by decide) h4
 simp only[List.cons.injEq,and_true] at e0 e1 e2 e3 e4
 obtain⟨e2,e5,e6⟩:=e2
 subst e0 e1 e2 e3 e4 e5 e6
 have hsn:sn<=1048576:=Nat.le_trans (hbn B hB) b4
 rcases hel with rfl | ⟨b,o,rfl,hlt,hel⟩
 ·exact⟨.mk k f g nu de s 0 (fun _=>.non),⟨k,f,g,q,m,c,q',m',c',s,sq,0,sc⟩,rfl,⟨⟨rfl,rfl,rfl,rfl,rfl⟩,s1,s2,l1,l2,by omega,.inl rfl⟩,⟨by omega,fun i hi=>by omega⟩⟩
 ·have hp:∀i,i<sn->∃p:Ex × Nd,(NdAt w b (o+i*7) p.2/\ExOk w p.1 p.2)/\ExSmall p.1:=by
   intro i hi
   obtain⟨ces,y,m1,hm1,hr,_,ht,hby⟩:=hel i hi
   obtain⟨X,d,rfl,hok,hsm⟩:=ih m1 (by omega) ces y (Nat.le_trans (hby B hB) b4) ht
   exact⟨(X,d),⟨⟨hr 0 _ rfl,hr 1 _ rfl,hr 2 _ rfl,hr 3 _ rfl,hr 4 _ rfl,hr 5 _ rfl,hr 6 _ rfl⟩,hok⟩,hsm⟩
  obtain⟨F,hF⟩:=pick hp
  exact⟨.mk k f g nu de s sn (fun i=>(F i).1),⟨k,f,g,q,m,c,q',m',c',s,some ⟨b,o,none⟩,sn,sc⟩,rfl,⟨⟨rfl,rfl,rfl,rfl,rfl⟩,s1,s2,l1,l2,by omega,.inr ⟨b,o,rfl,hlt,fun i=>(F i).2,fun i hi=>(hF i hi).1⟩⟩,⟨hsn,fun i hi=>(hF i hi).2⟩⟩
theorem zc7 (hB:Bk B) {fuel:Nat} {cs:List Value} {x:DataW H × List MemPlace} (hx:B x.1<=1048576) (h:DataW.trod enc Tryz.prog w 0 spare held fuel 49 cs=some x):
  ∃q n c ps,cs=[.slice q n c]/\PtsOk w q n ps/\n<=1048576:=by
 obtain⟨q,n,c,rfl,_,hbn,hel⟩:=open_slice Tryz.underlying49 c62 (by decide) h
 have hn:n<=1048576:=Nat.le_trans (hbn B hB) hx
 rcases hel with rfl | ⟨b,o,rfl,hlt,hel⟩
 ·exact⟨q,0,c,default,rfl,⟨by omega,.inl rfl⟩,by omega⟩
 ·have hp:∀i,i<n->∃p:Pt × Va,VaAt w b (o+i*4) p.2/\PtOk w p.1 p.2:=by
   intro i hi
   obtain⟨ces,y,m1,hm1,hr,hlc,ht,hby⟩:=hel i hi
   have hy:=Nat.le_trans (hby B hB) hx
   obtain⟨xs,n1,_,rfl,hl,hxl,hf⟩:=DataW.trod_struct Tryz.underlying158 ht
   have hxl':xs.length=2:=hxl
   clear hxl
   obtain⟨a0,ces0r,rfl,hlc0⟩:=list_cons (n:=3) hlc
   obtain⟨a1,ces1r,rfl,hlc1⟩:=list_cons (n:=2) hlc0
   obtain⟨a2,ces2r,rfl,hlc2⟩:=list_cons (n:=1) hlc1
   obtain⟨a3,ces3r,rfl,hlc3⟩:=list_cons (n:=0) hlc2
   obtain rfl:=List.length_eq_zero_iff.1 hlc3
   obtain⟨y0,xs0r,rfl,hxl'0⟩:=list_cons (n:=1) hxl'
   obtain⟨y1,xs1r,rfl,hxl'1⟩:=list_cons (n:=0) hxl'0
   obtain rfl:=List.length_eq_zero_iff.1 hxl'1
   have h0:DataW.trod enc Tryz.prog w 0 spare held n1 9 [a0]=some y0:=by have:=hf 0 _ rfl;simpa [c9] using this
   have h1:DataW.trod enc Tryz.prog w 0 spare held n1 41 [a1,a2,a3]=some y1:=by have:=hf 1 _ rfl;simpa [c24] using this
   have b1:B y1.1<=1048576:=Nat.le_trans (hB.ag _ _ (by simp)) hy
   obtain⟨s,e0,_⟩:=DataW.trod_string Tryz.underlying9 h0
   obtain⟨g,q,m,c,q',m',c',nu,de,e2,s1,s2,l1,l2⟩:=open_rat hB b1 h1
   simp only[List.cons.injEq,and_true] at e0 e2
   obtain⟨e2,e5,e6⟩:=e2
   subst e0 e2 e5 e6
   exact⟨(⟨s,g,nu,de⟩,⟨s,g,q,m,c,q',m',c'⟩),⟨hr 0 _ rfl,hr 1 _ rfl,hr 2 _ rfl,hr 3 _ rfl⟩,rfl,rfl,s1,s2,l1,l2⟩
  obtain⟨F,hF⟩:=pick hp
  exact⟨_,n,c,fun i=>(F i).1,rfl,⟨by omega,.inr ⟨b,o,rfl,hlt,fun i=>(F i).2,fun i hi=>hF i hi⟩⟩,hn⟩
theorem zdt (hB:Bk B) {fuel:Nat} {cs:List Value} {x:DataW H × List MemPlace} (hx:B x.1<=1048576) (h:DataW.trod enc Tryz.prog w 0 spare held fuel 50 cs=some x):
  ∃q n c ps,cs=[.slice q n c]/\BdsOk w q n ps/\n<=1048576/\∀i,i<n->ExSmall (ps i).x:=by
 obtain⟨q,n,c,rfl,_,hbn,hel⟩:=open_slice Tryz.underlying50 c65 (by decide) h
 have hn:n<=1048576:=Nat.le_trans (hbn B hB) hx
 rcases hel with rfl | ⟨b,o,rfl,hlt,hel⟩
 ·exact⟨q,0,c,default,rfl,⟨by omega,.inl rfl⟩,by omega,fun i hi=>by omega⟩
 ·have hp:∀i,i<n->∃p:Bd × Bi,(BiAt w b (o+i*8) p.2/\BdOk w p.1 p.2)/\ExSmall p.1.x:=by
   intro i hi
   obtain⟨ces,y,m1,hm1,hr,hlc,ht,hby⟩:=hel i hi
   have hy:=Nat.le_trans (hby B hB) hx
   obtain⟨xs,n1,_,rfl,hl,hxl,hf⟩:=DataW.trod_struct Tryz.underlying160 ht
   have hxl':xs.length=2:=hxl
   clear hxl
   obtain⟨a0,ces0r,rfl,hlc0⟩:=list_cons (n:=7) hlc
   obtain⟨a1,ces1r,rfl,hlc1⟩:=list_cons (n:=6) hlc0
   obtain⟨a2,ces2r,rfl,hlc2⟩:=list_cons (n:=5) hlc1
   obtain⟨a3,ces3r,rfl,hlc3⟩:=list_cons (n:=4) hlc2
   obtain⟨a4,ces4r,rfl,hlc4⟩:=list_cons (n:=3) hlc3
   obtain⟨a5,ces5r,rfl,hlc5⟩:=list_cons (n:=2) hlc4
   obtain⟨a6,ces6r,rfl,hlc6⟩:=list_cons (n:=1) hlc5
   obtain⟨a7,ces7r,rfl,hlc7⟩:=list_cons (n:=0) hlc6
   obtain rfl:=List.length_eq_zero_iff.1 hlc7
   obtain⟨y0,xs0r,rfl,hxl'0⟩:=list_cons (n:=1) hxl'
   obtain⟨y1,xs1r,rfl,hxl'1⟩:=list_cons (n:=0) hxl'0
   obtain rfl:=List.length_eq_zero_iff.1 hxl'1
   have h0:DataW.trod enc Tryz.prog w 0 spare held n1 9 [a0]=some y0:=by have:=hf 0 _ rfl;simpa [c9] using this
   have h1:DataW.trod enc Tryz.prog w 0 spare held n1 44 [a1,a2,a3,a4,a5,a6,a7]=some y1:=by have:=hf 1 _ rfl;simpa [c27] using this
   have b1:B y1.1<=1048576:=Nat.le_trans (hB.ag _ _ (by simp)) hy
   obtain⟨s,e0,_⟩:=DataW.trod_string Tryz.underlying9 h0
   obtain⟨X,d,e1,hok,hsm⟩:=za9 hB n1 _ y1 b1 h1
   simp only[List.cons.injEq,and_true] at e0 e1
   obtain⟨e1,e2,e3,e4,e5,e6,e7⟩:=e1
   subst e0 e1 e2 e3 e4 e5 e6 e7
   exact⟨(⟨s,X⟩,⟨s,d.k,d.f,d.neg,d.aq,d.an,d.ac,d.cq,d.cn,d.cc,d.m,d.sq,d.sn,d.sc⟩),⟨⟨hr 0 _ rfl,hr 1 _ rfl,hr 2 _ rfl,hr 3 _ rfl,hr 4 _ rfl,hr 5 _ rfl,hr 6 _ rfl,hr 7 _ rfl⟩,rfl,hok⟩,hsm⟩
  obtain⟨F,hF⟩:=pick hp
  exact⟨_,n,c,fun i=>(F i).1,rfl,⟨by omega,.inr ⟨b,o,rfl,hlt,fun i=>(F i).2,fun i hi=>(hF i hi).1⟩⟩,hn,fun i hi=>(hF i hi).2⟩
theorem zep (hB:Bk B):∀(fuel:Nat) (cs:List Value) (x:DataW H × List MemPlace),B x.1<=1048576->DataW.trod enc Tryz.prog w 0 spare held fuel 53 cs=some x->
  ∃(X:St) (d:Sd),cs=d.cells/\StOk w X d/\StSmall X:=by
 intro fuel
 induction fuel using Nat.strongRecOn with
 | _ fuel ih=>
 intro cs x hx h
 obtain⟨xs,n,hn,rfl,hl,hxl,hf⟩:=DataW.trod_struct Tryz.underlying53 h
 rw[c32] at hl
 have hxl':xs.length=13:=hxl
 clear hxl
 obtain⟨a0,cs0r,rfl,hl0⟩:=list_cons (n:=20) hl
 obtain⟨a1,cs1r,rfl,hl1⟩:=list_cons (n:=19) hl0
 obtain⟨a2,cs2r,rfl,hl2⟩:=list_cons (n:=18) hl1
 obtain⟨a3,cs3r,rfl,hl3⟩:=list_cons (n:=17) hl2
 obtain⟨a4,cs4r,rfl,hl4⟩:=list_cons (n:=16) hl3
 obtain⟨a5,cs5r,rfl,hl5⟩:=list_cons (n:=15) hl4
 obtain⟨a6,cs6r,rfl,hl6⟩:=list_cons (n:=14) hl5
 obtain⟨a7,cs7r,rfl,hl7⟩:=list_cons (n:=13) hl6
 obtain⟨a8,cs8r,rfl,hl8⟩:=list_cons (n:=12) hl7
 obtain⟨a9,cs9r,rfl,hl9⟩:=list_cons (n:=11) hl8
 obtain⟨a10,cs10r,rfl,hl10⟩:=list_cons (n:=10) hl9
 obtain⟨a11,cs11r,rfl,hl11⟩:=list_cons (n:=9) hl10
 obtain⟨a12,cs12r,rfl,hl12⟩:=list_cons (n:=8) hl11
 obtain⟨a13,cs13r,rfl,hl13⟩:=list_cons (n:=7) hl12
 obtain⟨a14,cs14r,rfl,hl14⟩:=list_cons (n:=6) hl13
 obtain⟨a15,cs15r,rfl,hl15⟩:=list_cons (n:=5) hl14
 obtain⟨a16,cs16r,rfl,hl16⟩:=list_cons (n:=4) hl15
 obtain⟨a17,cs17r,rfl,hl17⟩:=list_cons (n:=3) hl16
 obtain⟨a18,cs18r,rfl,hl18⟩:=list_cons (n:=2) hl17
 obtain⟨a19,cs19r,rfl,hl19⟩:=list_cons (n:=1) hl18
 obtain⟨a20,cs20r,rfl,hl20⟩:=list_cons (n:=0) hl19
 obtain rfl:=List.length_eq_zero_iff.1 hl20
 obtain⟨y0,xs0r,rfl,hxl'0⟩:=list_cons (n:=12) hxl'
 obtain⟨y1,xs1r,rfl,hxl'1⟩:=list_cons (n:=11) hxl'0
 obtain⟨y2,xs2r,rfl,hxl'2⟩:=list_cons (n:=10) hxl'1
 obtain⟨y3,xs3r,rfl,hxl'3⟩:=list_cons (n:=9) hxl'2
 obtain⟨y4,xs4r,rfl,hxl'4⟩:=list_cons (n:=8) hxl'3
 obtain⟨y5,xs5r,rfl,hxl'5⟩:=list_cons (n:=7) hxl'4
 obtain⟨y6,xs6r,rfl,hxl'6⟩:=list_cons (n:=6) hxl'5
 obtain⟨y7,xs7r,rfl,hxl'7⟩:=list_cons (n:=5) hxl'6
 obtain⟨y8,xs8r,rfl,hxl'8⟩:=list_cons (n:=4) hxl'7
 obtain⟨y9,xs9r,rfl,hxl'9⟩:=list_cons (n:=3) hxl'8
 obtain⟨y10,xs10r,rfl,hxl'10⟩:=list_cons (n:=2) hxl'9
 obtain⟨y11,xs11r,rfl,hxl'11⟩:=list_cons (n:=1) hxl'10
 obtain⟨y12,xs12r,rfl,hxl'12⟩:=list_cons (n:=0) hxl'11
 obtain rfl:=List.length_eq_zero_iff.1 hxl'12
 have h0:DataW.trod enc Tryz.prog w 0 spare held n 3 [a0]=some y0:=by have:=hf 0 _ rfl;simpa [c3] using this
 have h1:DataW.trod enc Tryz.prog w 0 spare held n 9 [a1]=some y1:=by have:=hf 1 _ rfl;simpa [c9] using this
 have h2:DataW.trod enc Tryz.prog w 0 spare held n 9 [a2]=some y2:=by have:=hf 2 _ rfl;simpa [c9] using this
 have h3:DataW.trod enc Tryz.prog w 0 spare held n 41 [a3,a4,a5]=some y3:=by have:=hf 3 _ rfl;simpa [c24] using this
 have h4:DataW.trod enc Tryz.prog w 0 spare held n 3 [a6]=some y4:=by have:=hf 4 _ rfl;simpa [c3] using this
 have h5:DataW.trod enc Tryz.prog w 0 spare held n 3 [a7]=some y5:=by have:=hf 5 _ rfl;simpa [c3] using this
 have h6:DataW.trod enc Tryz.prog w 0 spare held n 3 [a8]=some y6:=by have:=hf 6 _ rfl;simpa [c3] using this
 have h7:DataW.trod enc Tryz.prog w 0 spare held n 44 [a9,a10,a11,a12,a13,a14,a15]=some y7:=by have:=hf 7 _ rfl;simpa [c27] using this
 have h8:DataW.trod enc Tryz.prog w 0 spare held n 49 [a16]=some y8:=by have:=hf 8 _ rfl;simpa [c28] using this
 have h9:DataW.trod enc Tryz.prog w 0 spare held n 9 [a17]=some y9:=by have:=hf 9 _ rfl;simpa [c9] using this
 have h10:DataW.trod enc Tryz.prog w 0 spare held n 3 [a18]=some y10:=by have:=hf 10 _ rfl;simpa [c3] using this
 have h11:DataW.trod enc Tryz.prog w 0 spare held n 50 [a19]=some y11:=by have:=hf 11 _ rfl;simpa [c29] using this
 have h12:DataW.trod enc Tryz.prog w 0 spare held n 51 [a20]=some y12:=by have:=hf 12 _ rfl;simpa [c30] using this
 have b3:B y3.1<=1048576:=Nat.le_trans (hB.ag _ _ (by simp)) hx
 have b7:B y7.1<=1048576:=Nat.le_trans (hB.ag _ _ (by simp)) hx
 have b8:B y8.1<=1048576:=Nat.le_trans (hB.ag _ _ (by simp)) hx
 have b11:B y11.1<=1048576:=Nat.le_trans (hB.ag _ _ (by simp)) hx
 have b12:B y12.1<=1048576:=Nat.le_trans (hB.ag _ _ (by simp)) hx
 obtain⟨ru,e0,_⟩:=DataW.trod_int Tryz.underlying3 h0
 obtain⟨nm,e1,_⟩:=DataW.trod_string Tryz.underlying9 h1
 obtain⟨ot,e2,_⟩:=DataW.trod_string Tryz.underlying9 h2
 obtain⟨g,aq,an,ac,cq,cn,cc,nu,de,e3,s1,s2,l1,l2⟩:=open_rat hB b3 h3
 obtain⟨kk,e4,_⟩:=DataW.trod_int Tryz.underlying3 h4
 obtain⟨nn,e5,_⟩:=DataW.trod_int Tryz.underlying3 h5
 obtain⟨pr,e6,_⟩:=DataW.trod_int Tryz.underlying3 h6
 obtain⟨X,d,e7,hX,hXs⟩:=za9 hB n _ y7 b7 h7
 obtain⟨pq,pn,pc,ps,e8,hP,hPn⟩:=zc7 hB b8 h8
 obtain⟨en,e9,_⟩:=DataW.trod_string Tryz.underlying9 h9
 obtain⟨ve,e10,_⟩:=DataW.trod_int Tryz.underlying3 h10
 obtain⟨bq,bn,bc,bs,e11,hD,hDn,hDs⟩:=zdt hB b11 h11
 obtain⟨kq,kn,kc,e12,_,hbn,hel⟩:=open_slice Tryz.underlying51 c32 (by decide) h12
 simp only[List.cons.injEq,and_true] at e0 e1 e2 e3 e4 e5 e6 e7 e8 e9 e10 e11 e12
 obtain⟨e3,e3b,e3c⟩:=e3
 obtain⟨f1,f2,f3,f4,f5,f6,f7⟩:=e7
 subst e0 e1 e2 e3 e3b e3c e4 e5 e6 f1 f2 f3 f4 f5 f6 f7 e8 e9 e10 e11 e12
 have hkn:kn<=1048576:=Nat.le_trans (hbn B hB) b12
 rcases hel with rfl | ⟨b,o,rfl,hlt,hel⟩
 ·exact⟨.mk ⟨ru,nm,ot,g,kk,nn,pr,en,ve⟩ nu de X pn ps bn bs 0 (fun _=>.non),⟨⟨ru,nm,ot,g,kk,nn,pr,en,ve⟩,aq,an,ac,cq,cn,cc,d,pq,pn,pc,bq,bn,bc,kq,0,kc⟩,rfl,
   ⟨⟨rfl,rfl,rfl,rfl⟩,s1,s2,l1,l2,hX,hP,hD,by omega,.inl rfl⟩,⟨hXs,hPn,hDn,hDs,by omega,fun i hi=>by omega⟩⟩
 ·have hp:∀i,i<kn->∃p:St × Sd,(w.rangeAt b (o+i*21) p.2.cells/\StOk w p.1 p.2)/\StSmall p.1:=by
   intro i hi
   obtain⟨ces,y,m1,hm1,hr,_,ht,hby⟩:=hel i hi
   obtain⟨Y,D,rfl,hok,hsm⟩:=ih m1 (by omega) ces y (Nat.le_trans (hby B hB) b12) ht
   exact⟨(Y,D),⟨hr,hok⟩,hsm⟩
  obtain⟨F,hF⟩:=pick hp
  exact⟨.mk ⟨ru,nm,ot,g,kk,nn,pr,en,ve⟩ nu de X pn ps bn bs kn (fun i=>(F i).1),⟨⟨ru,nm,ot,g,kk,nn,pr,en,ve⟩,aq,an,ac,cq,cn,cc,d,pq,pn,pc,bq,bn,bc,some ⟨b,o,none⟩,kn,kc⟩,rfl,
   ⟨⟨rfl,rfl,rfl,rfl⟩,s1,s2,l1,l2,hX,hP,hD,by omega,.inr ⟨b,o,rfl,hlt,fun i=>(F i).2,fun i hi=>(hF i hi).1⟩⟩,⟨hXs,hPn,hDn,hDs,hkn,fun i hi=>(hF i hi).2⟩⟩
end
end Go.Proofs.YtfhjhnofkaiceaaGreatDoor
namespace Go.Proofs.YtfhjhnofkaiceaaGreatDoor
open Go Go.RowKit
structure Si where
 m:ByteArray
 g1:Bool
 nu1:List Int
 de1:List Int
 g2:Bool
 nu2:List Int
 de2:List Int
 li:Bool
 hh:Bool
structure Sv where
 q1:Option Addr
 l1:Nat
 c1:Nat
 p1:Option Addr
 m1:Nat
 e1:Nat
 q2:Option Addr
 l2:Nat
 c2:Nat
 p2:Option Addr
 m2:Nat
 e2:Nat
def Si.iv (s:Si) (d:Sv):List Value:=[.bool s.g1,.slice d.q1 d.l1 d.c1,.slice d.p1 d.m1 d.e1,.bool s.g2,.slice d.q2 d.l2 d.c2,.slice d.p2 d.m2 d.e2,.bool s.li,.bool s.hh]
def Si.cells (s:Si) (d:Sv):List Value:=.string s.m::s.iv d
def SiA (w:World) (A:Nat->Prop) (s:Si) (d:Sv):Prop:=
 SlA w A (.slice d.q1 d.l1 d.c1) s.nu1/\SlA w A (.slice d.p1 d.m1 d.e1) s.de1/\SlA w A (.slice d.q2 d.l2 d.c2) s.nu2/\SlA w A (.slice d.p2 d.m2 d.e2) s.de2/\
 s.nu1.length<=1048576/\s.de1.length<=1048576/\s.nu2.length<=1048576/\s.de2.length<=1048576
theorem SiA.keep {w w':World} {A A':Nat->Prop} (hk:Keeps A w w') (ha:∀b,A b->A' b) {s:Si} {d:Sv} (h:SiA w A s d):SiA w' A' s d:=
 ⟨h.1.keep hk ha,h.2.1.keep hk ha,h.2.2.1.keep hk ha,h.2.2.2.1.keep hk ha,h.2.2.2.2⟩
theorem Si.len (s:Si) (d:Sv):(s.cells d).length=9:=rfl
theorem Si.one (s:Si) (d:Sv):∀u∈s.cells d,u.oneCell'=true:=by
 intro u hu
 simp only[Si.cells,Si.iv,List.mem_cons,List.not_mem_nil,or_false] at hu
 rcases hu with rfl | rfl | rfl | rfl | rfl | rfl | rfl | rfl | rfl<;>rfl
structure Co where
 x:Ex
 st:Bool
def Co.cells (c:Co) (d:Nd):List Value:=d.cells++[.bool c.st]
theorem Co.len (c:Co) (d:Nd):(c.cells d).length=8:=rfl
theorem Co.one (c:Co) (d:Nd):∀u∈c.cells d,u.oneCell'=true:=by
 intro u hu
 simp only[Co.cells,Nd.cells,List.mem_cons,List.not_mem_nil,or_false,List.cons_append,List.nil_append] at hu
 rcases hu with rfl | rfl | rfl | rfl | rfl | rfl | rfl | rfl<;>rfl
structure Cl where
 goal:Ex
 st:Bool
 nb:Nat
 bs:Nat->Si
 nc:Nat
 cs:Nat->Co
structure Cd where
 d:Nd
 bq:Option Addr
 bc:Nat
 cq:Option Addr
 cc:Nat
def Cl.cells (C:Cl) (D:Cd):List Value:=D.d.cells++[.bool C.st,.slice D.bq C.nb D.bc,.slice D.cq C.nc D.cc]
theorem Cl.len (C:Cl) (D:Cd):(C.cells D).length=10:=rfl
theorem Cl.one (C:Cl) (D:Cd):∀u∈C.cells D,u.oneCell'=true:=by
 intro u hu
 simp only[Cl.cells,Nd.cells,List.mem_cons,List.not_mem_nil,or_false,List.cons_append,List.nil_append] at hu
 rcases hu with rfl | rfl | rfl | rfl | rfl | rfl | rfl | rfl | rfl | rfl<;>rfl
def SisA (w:World) (A:Nat->Prop) (q:Option Addr) (n:Nat) (bs:Nat->Si):Prop:=
 n=0\/∃b o,q=some ⟨b,o,none⟩/\A b/\∃ds:Nat->Sv,∀i,i<n->w.rangeAt b (o+i*9) ((bs i).cells (ds i))/\SiA w A (bs i) (ds i)
def CosA (w:World) (A:Nat->Prop) (q:Option Addr) (n:Nat) (cs:Nat->Co):Prop:=
 n=0\/∃b o,q=some ⟨b,o,none⟩/\A b/\∃ds:Nat->Nd,∀i,i<n->w.rangeAt b (o+i*8) ((cs i).cells (ds i))/\ExA w A (cs i).x (ds i)
theorem SisA.keep {w w':World} {A A':Nat->Prop} (hk:Keeps A w w') (ha:∀b,A b->A' b) {q:Option Addr} {n:Nat} {bs:Nat->Si} (h:SisA w A q n bs):SisA w' A' q n bs:=by
 refine h.imp id ?_
 rintro⟨b,o,e,hb,ds,hds⟩
 exact⟨b,o,e,ha b hb,ds,fun i hi=>⟨hk.range hb (hds i hi).1,(hds i hi).2.keep hk ha⟩⟩
theorem CosA.keep {w w':World} {A A':Nat->Prop} (hk:Keeps A w w') (ha:∀b,A b->A' b) {q:Option Addr} {n:Nat} {cs:Nat->Co} (h:CosA w A q n cs):CosA w' A' q n cs:=by
 refine h.imp id ?_
 rintro⟨b,o,e,hb,ds,hds⟩
 exact⟨b,o,e,ha b hb,ds,fun i hi=>⟨hk.range hb (hds i hi).1,(hds i hi).2.keep hk ha⟩⟩
def ClA (w:World) (A:Nat->Prop) (C:Cl) (D:Cd):Prop:=
 ExA w A C.goal D.d/\C.nb<=1048576/\C.nc<=1048576/\SisA w A D.bq C.nb C.bs/\CosA w A D.cq C.nc C.cs
theorem ClA.keep {w w':World} {A A':Nat->Prop} (hk:Keeps A w w') (ha:∀b,A b->A' b) {C:Cl} {D:Cd} (h:ClA w A C D):ClA w' A' C D:=
 ⟨h.1.keep hk ha,h.2.1,h.2.2.1,h.2.2.2.1.keep hk ha,h.2.2.2.2.keep hk ha⟩
def ClOk (w:World) (C:Cl) (D:Cd):Prop:=ClA w (·<w.heap.size) C D
theorem ClOk.below {w w':World} (hb:Below w.heap.size w w') {C:Cl} {D:Cd} (h:ClOk w C D):ClOk w' C D:=
 ClA.keep (zah hb) (fun _ h=>Nat.lt_of_lt_of_le h hb.size) h
theorem ClA.ok {w:World} {A:Nat->Prop} (ha:∀b,A b->b<w.heap.size) {C:Cl} {D:Cd} (h:ClA w A C D):ClOk w C D:=h.keep (Keeps.refl _ _) ha
def ClSmall (C:Cl):Prop:=ExSmall C.goal/\∀i,i<C.nc->ExSmall (C.cs i).x
instance:Inhabited Si:=⟨⟨⟨#[]⟩,false,[],[],false,[],[],false,false⟩⟩
instance:Inhabited Sv:=⟨⟨none,0,0,none,0,0,none,0,0,none,0,0⟩⟩
instance:Inhabited Co:=⟨⟨.non,false⟩⟩
theorem c92:Tryz.prog.cellsOf 92=8:=by kernel_rfl
theorem c94:Tryz.prog.cellsOf 94=9:=by kernel_rfl
theorem c127:Tryz.prog.cellsOf 127=8:=by kernel_rfl
section
variable {H:Type} {enc:TypeId × Value->H} {w:World} {spare:Nat->Bool} {held:Bool} {B:DataW H->Nat}
theorem open_iv (hB:Bk B) {fuel:Nat} {cs:List Value} {x:DataW H × List MemPlace} (hx:B x.1<=1048576) (h:DataW.trod enc Tryz.prog w 0 spare held fuel 92 cs=some x):
  ∃(s:Si) (d:Sv),cs=s.iv d/\SiA w (·<w.heap.size) s d:=by
 obtain⟨xs,n,hn,rfl,hl,hxl,hf⟩:=DataW.trod_struct Tryz.underlying92 h
 rw[c92] at hl
 have hxl':xs.length=4:=hxl
 clear hxl
 obtain⟨a0,cs0r,rfl,hl0⟩:=list_cons (n:=7) hl
 obtain⟨a1,cs1r,rfl,hl1⟩:=list_cons (n:=6) hl0
 obtain⟨a2,cs2r,rfl,hl2⟩:=list_cons (n:=5) hl1
 obtain⟨a3,cs3r,rfl,hl3⟩:=list_cons (n:=4) hl2
 obtain⟨a4,cs4r,rfl,hl4⟩:=list_cons (n:=3) hl3
 obtain⟨a5,cs5r,rfl,hl5⟩:=list_cons (n:=2) hl4
 obtain⟨a6,cs6r,rfl,hl6⟩:=list_cons (n:=1) hl5
 obtain⟨a7,cs7r,rfl,hl7⟩:=list_cons (n:=0) hl6
 obtain rfl:=List.length_eq_zero_iff.1 hl7
 obtain⟨y0,xs0r,rfl,hxl'0⟩:=list_cons (n:=3) hxl'
 obtain⟨y1,xs1r,rfl,hxl'1⟩:=list_cons (n:=2) hxl'0
 obtain⟨y2,xs2r,rfl,hxl'2⟩:=list_cons (n:=1) hxl'1
 obtain⟨y3,xs3r,rfl,hxl'3⟩:=list_cons (n:=0) hxl'2
 obtain rfl:=List.length_eq_zero_iff.1 hxl'3
 have h0:DataW.trod enc Tryz.prog w 0 spare held n 41 [a0,a1,a2]=some y0:=by have:=hf 0 _ rfl;simpa [c24] using this
 have h1:DataW.trod enc Tryz.prog w 0 spare held n 41 [a3,a4,a5]=some y1:=by have:=hf 1 _ rfl;simpa [c24] using this
 have h2:DataW.trod enc Tryz.prog w 0 spare held n 4 [a6]=some y2:=by have:=hf 2 _ rfl;simpa [c4] using this
 have h3:DataW.trod enc Tryz.prog w 0 spare held n 4 [a7]=some y3:=by have:=hf 3 _ rfl;simpa [c4] using this
 have b0:B y0.1<=1048576:=Nat.le_trans (hB.ag _ _ (by simp)) hx
 have b1:B y1.1<=1048576:=Nat.le_trans (hB.ag _ _ (by simp)) hx
 obtain⟨g1,q1,l1,c1,p1,m1,e1,nu1,de1,e0,s1,s2,k1,k2⟩:=open_rat hB b0 h0
 obtain⟨g2,q2,l2,c2,p2,m2,e2,nu2,de2,f0,s3,s4,k3,k4⟩:=open_rat hB b1 h1
 obtain⟨li,f2,_⟩:=DataW.trod_bool Tryz.underlying4 h2
 obtain⟨hh,f3,_⟩:=DataW.trod_bool Tryz.underlying4 h3
 simp only[List.cons.injEq,and_true] at e0 f0 f2 f3
 obtain⟨rfl,rfl,rfl⟩:=e0
 obtain⟨rfl,rfl,rfl⟩:=f0
 subst f2 f3
 exact⟨⟨⟨#[]⟩,g1,nu1,de1,g2,nu2,de2,li,hh⟩,⟨q1,l1,c1,p1,m1,e1,q2,l2,c2,p2,m2,e2⟩,rfl,s1.toA,s2.toA,s3.toA,s4.toA,k1,k2,k3,k4⟩
theorem zeq (hB:Bk B) {fuel:Nat} {cs:List Value} {x:DataW H × List MemPlace} (hx:B x.1<=1048576) (h:DataW.trod enc Tryz.prog w 0 spare held fuel 45 cs=some x):
  ∃q n c bs,cs=[.slice q n c]/\n<=1048576/\SisA w (·<w.heap.size) q n bs:=by
 obtain⟨q,n,c,rfl,_,hbn,hel⟩:=open_slice Tryz.underlying45 c94 (by decide) h
 have hn:n<=1048576:=Nat.le_trans (hbn B hB) hx
 rcases hel with rfl | ⟨b,o,rfl,hlt,hel⟩
 ·exact⟨q,0,c,default,rfl,by omega,.inl rfl⟩
 ·have hp:∀i,i<n->∃p:Si × Sv,w.rangeAt b (o+i*9) (p.1.cells p.2)/\SiA w (·<w.heap.size) p.1 p.2:=by
   intro i hi
   obtain⟨ces,y,m1,hm1,hr,hlc,ht,hby⟩:=hel i hi
   have hy:=Nat.le_trans (hby B hB) hx
   obtain⟨xs,n1,_,rfl,hl,hxl,hf⟩:=DataW.trod_struct Tryz.underlying94 ht
   have hxl':xs.length=2:=hxl
   clear hxl
   obtain⟨a0,r,rfl,hlr⟩:=list_cons (n:=8) hlc
   obtain⟨y0,xs0r,rfl,hxl'0⟩:=list_cons (n:=1) hxl'
   obtain⟨y1,xs1r,rfl,hxl'1⟩:=list_cons (n:=0) hxl'0
   obtain rfl:=List.length_eq_zero_iff.1 hxl'1
   have h0:DataW.trod enc Tryz.prog w 0 spare held n1 9 [a0]=some y0:=by have:=hf 0 _ rfl;simpa [c9] using this
   have h1:DataW.trod enc Tryz.prog w 0 spare held n1 92 r=some y1:=by
    have h:DataW.trod enc Tryz.prog w 0 spare held n1 92 (r.take (Tryz.prog.cellsOf 92))=some y1:=hf 1 _ rfl
    rwa [List.take_of_length_le (by rw[c92];omega)] at h
   have b1:B y1.1<=1048576:=Nat.le_trans (hB.ag _ _ (by simp)) hy
   obtain⟨s,e0,_⟩:=DataW.trod_string Tryz.underlying9 h0
   obtain⟨v,d,rfl,hv⟩:=open_iv hB b1 h1
   simp only[List.cons.injEq,and_true] at e0
   subst e0
   exact⟨(⟨s,v.g1,v.nu1,v.de1,v.g2,v.nu2,v.de2,v.li,v.hh⟩,d),hr,hv⟩
  obtain⟨F,hF⟩:=pick hp
  exact⟨_,n,c,fun i=>(F i).1,rfl,hn,.inr ⟨b,o,rfl,hlt,fun i=>(F i).2,fun i hi=>hF i hi⟩⟩
theorem zer (hB:Bk B) {fuel:Nat} {cs:List Value} {x:DataW H × List MemPlace} (hx:B x.1<=1048576) (h:DataW.trod enc Tryz.prog w 0 spare held fuel 46 cs=some x):
  ∃q n c ks,cs=[.slice q n c]/\n<=1048576/\CosA w (·<w.heap.size) q n ks/\∀i,i<n->ExSmall (ks i).x:=by
 obtain⟨q,n,c,rfl,_,hbn,hel⟩:=open_slice Tryz.underlying46 c127 (by decide) h
 have hn:n<=1048576:=Nat.le_trans (hbn B hB) hx
 rcases hel with rfl | ⟨b,o,rfl,hlt,hel⟩
 ·exact⟨q,0,c,default,rfl,by omega,.inl rfl,fun i hi=>by omega⟩
 ·have hp:∀i,i<n->∃p:Co × Nd,(w.rangeAt b (o+i*8) (p.1.cells p.2)/\ExA w (·<w.heap.size) p.1.x p.2)/\ExSmall p.1.x:=by
   intro i hi
   obtain⟨ces,y,m1,hm1,hr,hlc,ht,hby⟩:=hel i hi
   have hy:=Nat.le_trans (hby B hB) hx
   obtain⟨xs,n1,_,rfl,hl,hxl,hf⟩:=DataW.trod_struct Tryz.underlying127 ht
   have hxl':xs.length=2:=hxl
   clear hxl
   obtain⟨a0,ces0r,rfl,hlc0⟩:=list_cons (n:=7) hlc
   obtain⟨a1,ces1r,rfl,hlc1⟩:=list_cons (n:=6) hlc0
   obtain⟨a2,ces2r,rfl,hlc2⟩:=list_cons (n:=5) hlc1
   obtain⟨a3,ces3r,rfl,hlc3⟩:=list_cons (n:=4) hlc2
   obtain⟨a4,ces4r,rfl,hlc4⟩:=list_cons (n:=3) hlc3
   obtain⟨a5,ces5r,rfl,hlc5⟩:=list_cons (n:=2) hlc4
   obtain⟨a6,ces6r,rfl,hlc6⟩:=list_cons (n:=1) hlc5
   obtain⟨a7,ces7r,rfl,hlc7⟩:=list_cons (n:=0) hlc6
   obtain rfl:=List.length_eq_zero_iff.1 hlc7
   obtain⟨y0,xs0r,rfl,hxl'0⟩:=list_cons (n:=1) hxl'
   obtain⟨y1,xs1r,rfl,hxl'1⟩:=list_cons (n:=0) hxl'0
   obtain rfl:=List.length_eq_zero_iff.1 hxl'1
   have h0:DataW.trod enc Tryz.prog w 0 spare held n1 44 [a0,a1,a2,a3,a4,a5,a6]=some y0:=by have:=hf 0 _ rfl;simpa [c27] using this
   have h1:DataW.trod enc Tryz.prog w 0 spare held n1 4 [a7]=some y1:=by have:=hf 1 _ rfl;simpa [c4] using this
   have b0:B y0.1<=1048576:=Nat.le_trans (hB.ag _ _ (by simp)) hy
   obtain⟨X,d,e1,hok,hsm⟩:=za9 hB n1 _ y0 b0 h0
   obtain⟨g,e0,_⟩:=DataW.trod_bool Tryz.underlying4 h1
   simp only[List.cons.injEq,and_true] at e0 e1
   obtain⟨rfl,rfl,rfl,rfl,rfl,rfl,rfl⟩:=e1
   subst e0
   exact⟨(⟨X,g⟩,d),⟨hr,hok.toA⟩,hsm⟩
  obtain⟨F,hF⟩:=pick hp
  exact⟨_,n,c,fun i=>(F i).1,rfl,hn,.inr ⟨b,o,rfl,hlt,fun i=>(F i).2,fun i hi=>(hF i hi).1⟩,fun i hi=>(hF i hi).2⟩
theorem zdu (hB:Bk B) {fuel:Nat} {cs:List Value} {x:DataW H × List MemPlace} (hx:B x.1<=1048576) (h:DataW.trod enc Tryz.prog w 0 spare held fuel 48 cs=some x):
  ∃(C:Cl) (D:Cd),cs=C.cells D/\ClOk w C D/\ClSmall C:=by
 obtain⟨xs,n,hn,rfl,hl,hxl,hf⟩:=DataW.trod_struct Tryz.underlying48 h
 rw[c48] at hl
 have hxl':xs.length=4:=hxl
 clear hxl
 obtain⟨a0,cs0r,rfl,hl0⟩:=list_cons (n:=9) hl
 obtain⟨a1,cs1r,rfl,hl1⟩:=list_cons (n:=8) hl0
 obtain⟨a2,cs2r,rfl,hl2⟩:=list_cons (n:=7) hl1
 obtain⟨a3,cs3r,rfl,hl3⟩:=list_cons (n:=6) hl2
 obtain⟨a4,cs4r,rfl,hl4⟩:=list_cons (n:=5) hl3
 obtain⟨a5,cs5r,rfl,hl5⟩:=list_cons (n:=4) hl4
 obtain⟨a6,cs6r,rfl,hl6⟩:=list_cons (n:=3) hl5
 obtain⟨a7,cs7r,rfl,hl7⟩:=list_cons (n:=2) hl6
 obtain⟨a8,cs8r,rfl,hl8⟩:=list_cons (n:=1) hl7
 obtain⟨a9,cs9r,rfl,hl9⟩:=list_cons (n:=0) hl8
 obtain rfl:=List.length_eq_zero_iff.1 hl9
 obtain⟨y0,xs0r,rfl,hxl'0⟩:=list_cons (n:=3) hxl'
 obtain⟨y1,xs1r,rfl,hxl'1⟩:=list_cons (n:=2) hxl'0
 obtain⟨y2,xs2r,rfl,hxl'2⟩:=list_cons (n:=1) hxl'1
 obtain⟨y3,xs3r,rfl,hxl'3⟩:=list_cons (n:=0) hxl'2
 obtain rfl:=List.length_eq_zero_iff.1 hxl'3
 have h0:DataW.trod enc Tryz.prog w 0 spare held n 44 [a0,a1,a2,a3,a4,a5,a6]=some y0:=by have:=hf 0 _ rfl;simpa [c27] using this
 have h1:DataW.trod enc Tryz.prog w 0 spare held n 4 [a7]=some y1:=by have:=hf 1 _ rfl;simpa [c4] using this
 have h2:DataW.trod enc Tryz.prog w 0 spare held n 45 [a8]=some y2:=by have:=hf 2 _ rfl;simpa [c45] using this
 have h3:DataW.trod enc Tryz.prog w 0 spare held n 46 [a9]=some y3:=by have:=hf 3 _ rfl;simpa [c46] using this
 have b0:B y0.1<=1048576:=Nat.le_trans (hB.ag _ _ (by simp)) hx
 have b2:B y2.1<=1048576:=Nat.le_trans (hB.ag _ _ (by simp)) hx
 have b3:B y3.1<=1048576:=Nat.le_trans (hB.ag _ _ (by simp)) hx
 obtain⟨X,d,e0,hok,hsm⟩:=za9 hB n _ y0 b0 h0
 obtain⟨g,e1,_⟩:=DataW.trod_bool Tryz.underlying4 h1
 obtain⟨q2,n2,c2,bs,e2,hn2,hbs⟩:=zeq hB b2 h2
 obtain⟨q3,n3,c3,ks,e3,hn3,hks,hsk⟩:=zer hB b3 h3
 simp only[List.cons.injEq,and_true] at e0 e1 e2 e3
 obtain⟨f1,f2,f3,f4,f5,f6,f7⟩:=e0
 subst f1 f2 f3 f4 f5 f6 f7 e1 e2 e3
 exact⟨⟨X,g,n2,bs,n3,ks⟩,⟨d,q2,c2,q3,c3⟩,rfl,⟨hok.toA,hn2,hn3,hbs,hks⟩,hsm,hsk⟩
end
end Go.Proofs.YtfhjhnofkaiceaaGreatDoor
namespace Go.Proofs.YtfhjhnofkaiceaaGreatDoor
open Go Go.RowKit
set_option maxRecDepth 100000 in
set_option maxHeartbeats 4000000 in
theorem zcb {w:World} {d e:Nd} {st:Bool} {nb nc:Nat} {q1 q2 k1 k2:Option Addr} {c1 c2 j1 j2:Nat} (s:Nat->Si) (xs ys:Nat->Sv) (t:Nat->Bool) (xk yk:Nat->Nd) (hnb:nb<=1048576) (hnc:nc<=1048576)
  (h1:nb=0\/∃b o,q1=some ⟨b,o,none⟩/\b<w.heap.size/\∀i,i<nb->w.rangeAt b (o+i*9) ((s i).cells (xs i)))
  (h2:nb=0\/∃b o,q2=some ⟨b,o,none⟩/\b<w.heap.size/\∀i,i<nb->w.rangeAt b (o+i*9) ((s i).cells (ys i)))
  (h3:nc=0\/∃b o,k1=some ⟨b,o,none⟩/\b<w.heap.size/\∀i,i<nc->w.rangeAt b (o+i*8) ((xk i).cells++[.bool (t i)]))
  (h4:nc=0\/∃b o,k2=some ⟨b,o,none⟩/\b<w.heap.size/\∀i,i<nc->w.rangeAt b (o+i*8) ((yk i).cells++[.bool (t i)]))
  (hG:∀z,Below w.heap.size w z->Calls Tryz.prog 76 #[.agg #[.int .i64 d.k,.int .i64 d.f,.bool d.neg,.slice d.aq d.an d.ac,.slice d.cq d.cn d.cc,.string d.m,.slice d.sq d.sn d.sc],.agg #[.int .i64 e.k,.int .i64 e.f,.bool e.neg,.slice e.aq e.an e.ac,.slice e.cq e.cn e.cc,.string e.m,.slice e.sq e.sn e.sc]] z fun r w'=>r=.returned (.bool true)/\Below z.heap.size z w')
  (hI:∀i,i<nb->∀z,Below w.heap.size w z->Calls Tryz.prog 77 #[.agg #[.bool (s i).g1,.slice (xs i).q1 (xs i).l1 (xs i).c1,.slice (xs i).p1 (xs i).m1 (xs i).e1,.bool (s i).g2,.slice (xs i).q2 (xs i).l2 (xs i).c2,.slice (xs i).p2 (xs i).m2 (xs i).e2,.bool (s i).li,.bool (s i).hh],.agg #[.bool (s i).g1,.slice (ys i).q1 (ys i).l1 (ys i).c1,.slice (ys i).p1 (ys i).m1 (ys i).e1,.bool (s i).g2,.slice (ys i).q2 (ys i).l2 (ys i).c2,.slice (ys i).p2 (ys i).m2 (ys i).e2,.bool (s i).li,.bool (s i).hh]] z fun r w'=>r=.returned (.bool true)/\Below z.heap.size z w')
  (hK:∀i,i<nc->∀z,Below w.heap.size w z->Calls Tryz.prog 76 #[.agg #[.int .i64 (xk i).k,.int .i64 (xk i).f,.bool (xk i).neg,.slice (xk i).aq (xk i).an (xk i).ac,.slice (xk i).cq (xk i).cn (xk i).cc,.string (xk i).m,.slice (xk i).sq (xk i).sn (xk i).sc],.agg #[.int .i64 (yk i).k,.int .i64 (yk i).f,.bool (yk i).neg,.slice (yk i).aq (yk i).an (yk i).ac,.slice (yk i).cq (yk i).cn (yk i).cc,.string (yk i).m,.slice (yk i).sq (yk i).sn (yk i).sc]] z fun r w'=>r=.returned (.bool true)/\Below z.heap.size z w'):
  Calls Tryz.prog 59 #[.agg #[.int .i64 d.k,.int .i64 d.f,.bool d.neg,.slice d.aq d.an d.ac,.slice d.cq d.cn d.cc,.string d.m,.slice d.sq d.sn d.sc,.bool st,.slice q1 nb c1,.slice k1 nc j1],.agg #[.int .i64 e.k,.int .i64 e.f,.bool e.neg,.slice e.aq e.an e.ac,.slice e.cq e.cn e.cc,.string e.m,.slice e.sq e.sn e.sc,.bool st,.slice q2 nb c2,.slice k2 nc j2]] w fun r w'=>r=.returned (.bool true)/\Below w.heap.size w w':=by
 have H1:=hid_of h1
 have H2:=hid_of h2
 have H3:=hid_of h3
 have H4:=hid_of h4
 clear h1 h2 h3 h4
 go_enter Tryz.func59,Tryz.ntmps59
 go_upto_region 1 with fail
 generalize hw1:(w.alloc _).alloc _=w1 at*
 have hW1:Below w.heap.size w w1:=by rw[<-hw1];exact below_two _ _ _
 have hz1:w.heap.size+2<=w1.heap.size:=by rw[<-hw1];simp
 have p0:w1.cell? ⟨w.heap.size,0,none⟩=some (.int .i64 d.k):=by rw[<-hw1];simp
 have p1:w1.cell? ⟨w.heap.size,1,none⟩=some (.int .i64 d.f):=by rw[<-hw1];simp
 have p2:w1.cell? ⟨w.heap.size,2,none⟩=some (.bool d.neg):=by rw[<-hw1];simp
 have p3:w1.cell? ⟨w.heap.size,3,none⟩=some (.slice d.aq d.an d.ac):=by rw[<-hw1];simp
 have p4:w1.cell? ⟨w.heap.size,4,none⟩=some (.slice d.cq d.cn d.cc):=by rw[<-hw1];simp
 have p5:w1.cell? ⟨w.heap.size,5,none⟩=some (.string d.m):=by rw[<-hw1];simp
 have p6:w1.cell? ⟨w.heap.size,6,none⟩=some (.slice d.sq d.sn d.sc):=by rw[<-hw1];simp
 have p7:w1.cell? ⟨w.heap.size,7,none⟩=some (.bool st):=by rw[<-hw1];simp
 have p8:w1.cell? ⟨w.heap.size,8,none⟩=some (.slice q1 nb c1):=by rw[<-hw1];simp
 have p9:w1.cell? ⟨w.heap.size,9,none⟩=some (.slice k1 nc j1):=by rw[<-hw1];simp
 have r0:w1.cell? ⟨w.heap.size+1,0,none⟩=some (.int .i64 e.k):=by rw[<-hw1];simp
 have r1:w1.cell? ⟨w.heap.size+1,1,none⟩=some (.int .i64 e.f):=by rw[<-hw1];simp
 have r2:w1.cell? ⟨w.heap.size+1,2,none⟩=some (.bool e.neg):=by rw[<-hw1];simp
 have r3:w1.cell? ⟨w.heap.size+1,3,none⟩=some (.slice e.aq e.an e.ac):=by rw[<-hw1];simp
 have r4:w1.cell? ⟨w.heap.size+1,4,none⟩=some (.slice e.cq e.cn e.cc):=by rw[<-hw1];simp
 have r5:w1.cell? ⟨w.heap.size+1,5,none⟩=some (.string e.m):=by rw[<-hw1];simp
 have r6:w1.cell? ⟨w.heap.size+1,6,none⟩=some (.slice e.sq e.sn e.sc):=by rw[<-hw1];simp
 have r7:w1.cell? ⟨w.heap.size+1,7,none⟩=some (.bool st):=by rw[<-hw1];simp
 have r8:w1.cell? ⟨w.heap.size+1,8,none⟩=some (.slice q2 nb c2):=by rw[<-hw1];simp
 have r9:w1.cell? ⟨w.heap.size+1,9,none⟩=some (.slice k2 nc j2):=by rw[<-hw1];simp
 clear hw1
 go_wp2_with (go_at_call 76;refine(hG _ hW1).mono ?_;rintro e0 w2 ⟨rfl,hb2⟩
              have W2:Below w.heap.size w w2:=hW1.trans (hb2.mono hW1.size)
              have z2:w.heap.size+2<=w2.heap.size:=Nat.le_trans hz1 hb2.size
              have a7:w2.cell? ⟨w.heap.size,7,none⟩=some (.bool st):=(hb2.cell (by show w.heap.size<_;omega)).trans p7
              have a8:w2.cell? ⟨w.heap.size,8,none⟩=some (.slice q1 nb c1):=(hb2.cell (by show w.heap.size<_;omega)).trans p8
              have a9:w2.cell? ⟨w.heap.size,9,none⟩=some (.slice k1 nc j1):=(hb2.cell (by show w.heap.size<_;omega)).trans p9
              have b7:w2.cell? ⟨w.heap.size+1,7,none⟩=some (.bool st):=(hb2.cell (by show w.heap.size+1<_;omega)).trans r7
              have b8:w2.cell? ⟨w.heap.size+1,8,none⟩=some (.slice q2 nb c2):=(hb2.cell (by show w.heap.size+1<_;omega)).trans r8
              have b9:w2.cell? ⟨w.heap.size+1,9,none⟩=some (.slice k2 nc j2):=(hb2.cell (by show w.heap.size+1<_;omega)).trans r9
              clear hb2 hG p0 r0 p1 r1 p2 r2 p3 r3 p4 r4 p5 r5 p6 r6 p7 r7 p8 r8 p9 r9)
 go_loopw [41] (fun i wr=>∃k:Nat,k<=nb/\i=.int .i64 k/\Below w2.heap.size w2 wr) (fun i _=>nb - (intOf i).toNat)
 case atStart=>exact⟨0,Nat.zero_le _,rfl,Below.refl _ _⟩
 case round=>
  obtain⟨k,hk,rfl,hbw⟩:=hrel
  have hW:Below w.heap.size w wr:=W2.trans (hbw.mono W2.size)
  by_cases hlt:k<nb
  ·have hlt':(k:Int)<(nb:Int):=by omega
   rcases H1.out with h0 | ⟨b,o,rfl,hbb,hcx⟩
   ·omega
   rcases H2.out with h0 | ⟨b2,o2,rfl,hbb2,hcy⟩
   ·omega
   have gx:=rangeAt_below (hcx k hlt) hW hbb
   have gy:=rangeAt_below (hcy k hlt) hW hbb2
   have hRk:=hI k hlt
   have qr:wr.cell? ⟨w.heap.size,8,none⟩=some (.slice (some ⟨b,o,none⟩) nb c1):=(hbw.cell (by show w.heap.size<_;omega)).trans a8
   have rr:wr.cell? ⟨w.heap.size+1,8,none⟩=some (.slice (some ⟨b2,o2,none⟩) nb c2):=(hbw.cell (by show w.heap.size+1<_;omega)).trans b8
   have x0:wr.cell? ⟨b,o+k*9,none⟩=some (.string (s k).m):=gx 0 _ rfl
   have x1:wr.cell? ⟨b,o+k*9+1,none⟩=some (.bool (s k).g1):=gx 1 _ rfl
   have x2:wr.cell? ⟨b,o+k*9+2,none⟩=some (.slice (xs k).q1 (xs k).l1 (xs k).c1):=gx 2 _ rfl
   have x3:wr.cell? ⟨b,o+k*9+3,none⟩=some (.slice (xs k).p1 (xs k).m1 (xs k).e1):=gx 3 _ rfl
   have x4:wr.cell? ⟨b,o+k*9+4,none⟩=some (.bool (s k).g2):=gx 4 _ rfl
   have x5:wr.cell? ⟨b,o+k*9+5,none⟩=some (.slice (xs k).q2 (xs k).l2 (xs k).c2):=gx 5 _ rfl
   have x6:wr.cell? ⟨b,o+k*9+6,none⟩=some (.slice (xs k).p2 (xs k).m2 (xs k).e2):=gx 6 _ rfl
   have x7:wr.cell? ⟨b,o+k*9+7,none⟩=some (.bool (s k).li):=gx 7 _ rfl
   have x8:wr.cell? ⟨b,o+k*9+8,none⟩=some (.bool (s k).hh):=gx 8 _ rfl
   have y0:wr.cell? ⟨b2,o2+k*9,none⟩=some (.string (s k).m):=gy 0 _ rfl
   have y1:wr.cell? ⟨b2,o2+k*9+1,none⟩=some (.bool (s k).g1):=gy 1 _ rfl
   have y2:wr.cell? ⟨b2,o2+k*9+2,none⟩=some (.slice (ys k).q1 (ys k).l1 (ys k).c1):=gy 2 _ rfl
   have y3:wr.cell? ⟨b2,o2+k*9+3,none⟩=some (.slice (ys k).p1 (ys k).m1 (ys k).e1):=gy 3 _ rfl
   have y4:wr.cell? ⟨b2,o2+k*9+4,none⟩=some (.bool (s k).g2):=gy 4 _ rfl
   have y5:wr.cell? ⟨b2,o2+k*9+5,none⟩=some (.slice (ys k).q2 (ys k).l2 (ys k).c2):=gy 5 _ rfl
   have y6:wr.cell? ⟨b2,o2+k*9+6,none⟩=some (.slice (ys k).p2 (ys k).m2 (ys k).e2):=gy 6 _ rfl
   have y7:wr.cell? ⟨b2,o2+k*9+7,none⟩=some (.bool (s k).li):=gy 7 _ rfl
   have y8:wr.cell? ⟨b2,o2+k*9+8,none⟩=some (.bool (s k).hh):=gy 8 _ rfl
   clear gx gy hcx hcy
   have hws:=hbw.size
   have hws2:w.heap.size+2<=wr.heap.size:=by omega
   go_wp2_with fail
   have hS0:(fun z=>z.cell? ⟨w.heap.size,8,none⟩=some (.slice (some ⟨b,o,none⟩) nb c1)/\z.cell? ⟨w.heap.size+1,8,none⟩=some (.slice (some ⟨b2,o2,none⟩) nb c2)/\z.cell? ⟨b,o+k*9,none⟩=some (.string (s k).m)/\z.cell? ⟨b,o+k*9+1,none⟩=some (.bool (s k).g1)/\z.cell? ⟨b,o+k*9+2,none⟩=some (.slice (xs k).q1 (xs k).l1 (xs k).c1)/\z.cell? ⟨b,o+k*9+3,none⟩=some (.slice (xs k).p1 (xs k).m1 (xs k).e1)/\z.cell? ⟨b,o+k*9+4,none⟩=some (.bool (s k).g2)/\z.cell? ⟨b,o+k*9+5,none⟩=some (.slice (xs k).q2 (xs k).l2 (xs k).c2)/\z.cell? ⟨b,o+k*9+6,none⟩=some (.slice (xs k).p2 (xs k).m2 (xs k).e2)/\z.cell? ⟨b,o+k*9+7,none⟩=some (.bool (s k).li)/\z.cell? ⟨b,o+k*9+8,none⟩=some (.bool (s k).hh)/\z.cell? ⟨b2,o2+k*9,none⟩=some (.string (s k).m)/\z.cell? ⟨b2,o2+k*9+1,none⟩=some (.bool (s k).g1)/\z.cell? ⟨b2,o2+k*9+2,none⟩=some (.slice (ys k).q1 (ys k).l1 (ys k).c1)/\z.cell? ⟨b2,o2+k*9+3,none⟩=some (.slice (ys k).p1 (ys k).m1 (ys k).e1)/\z.cell? ⟨b2,o2+k*9+4,none⟩=some (.bool (s k).g2)/\z.cell? ⟨b2,o2+k*9+5,none⟩=some (.slice (ys k).q2 (ys k).l2 (ys k).c2)/\z.cell? ⟨b2,o2+k*9+6,none⟩=some (.slice (ys k).p2 (ys k).m2 (ys k).e2)/\z.cell? ⟨b2,o2+k*9+7,none⟩=some (.bool (s k).li)/\z.cell? ⟨b2,o2+k*9+8,none⟩=some (.bool (s k).hh)) wr:=⟨qr,rr,x0,x1,x2,x3,x4,x5,x6,x7,x8,y0,y1,y2,y3,y4,y5,y6,y7,y8⟩
   go_region_held3 (fun z=>z.cell? ⟨w.heap.size,8,none⟩=some (.slice (some ⟨b,o,none⟩) nb c1)/\z.cell? ⟨w.heap.size+1,8,none⟩=some (.slice (some ⟨b2,o2,none⟩) nb c2)/\z.cell? ⟨b,o+k*9,none⟩=some (.string (s k).m)/\z.cell? ⟨b,o+k*9+1,none⟩=some (.bool (s k).g1)/\z.cell? ⟨b,o+k*9+2,none⟩=some (.slice (xs k).q1 (xs k).l1 (xs k).c1)/\z.cell? ⟨b,o+k*9+3,none⟩=some (.slice (xs k).p1 (xs k).m1 (xs k).e1)/\z.cell? ⟨b,o+k*9+4,none⟩=some (.bool (s k).g2)/\z.cell? ⟨b,o+k*9+5,none⟩=some (.slice (xs k).q2 (xs k).l2 (xs k).c2)/\z.cell? ⟨b,o+k*9+6,none⟩=some (.slice (xs k).p2 (xs k).m2 (xs k).e2)/\z.cell? ⟨b,o+k*9+7,none⟩=some (.bool (s k).li)/\z.cell? ⟨b,o+k*9+8,none⟩=some (.bool (s k).hh)/\z.cell? ⟨b2,o2+k*9,none⟩=some (.string (s k).m)/\z.cell? ⟨b2,o2+k*9+1,none⟩=some (.bool (s k).g1)/\z.cell? ⟨b2,o2+k*9+2,none⟩=some (.slice (ys k).q1 (ys k).l1 (ys k).c1)/\z.cell? ⟨b2,o2+k*9+3,none⟩=some (.slice (ys k).p1 (ys k).m1 (ys k).e1)/\z.cell? ⟨b2,o2+k*9+4,none⟩=some (.bool (s k).g2)/\z.cell? ⟨b2,o2+k*9+5,none⟩=some (.slice (ys k).q2 (ys k).l2 (ys k).c2)/\z.cell? ⟨b2,o2+k*9+6,none⟩=some (.slice (ys k).p2 (ys k).m2 (ys k).e2)/\z.cell? ⟨b2,o2+k*9+7,none⟩=some (.bool (s k).li)/\z.cell? ⟨b2,o2+k*9+8,none⟩=some (.bool (s k).hh)) (first | exact hS0 | exact hS5)
    (first
    | (go_at_call 77;with_reducible refine(hRk _ ?_).mono ?_;exact hW.drew;rintro e0 w5 ⟨rfl,hb5⟩
       have hs5:wr.heap.size<=wr.drew.heap.size:=Nat.le_refl _
       have hwz:=hW.size
       have hbl:b<wr.drew.heap.size:=by omega
       have hbl2:b2<wr.drew.heap.size:=by omega
       have hc5:w.heap.size<wr.drew.heap.size:=by omega
       have hc6:w.heap.size+1<wr.drew.heap.size:=by omega
       have hS5:(fun z=>z.cell? ⟨w.heap.size,8,none⟩=some (.slice (some ⟨b,o,none⟩) nb c1)/\z.cell? ⟨w.heap.size+1,8,none⟩=some (.slice (some ⟨b2,o2,none⟩) nb c2)/\z.cell? ⟨b,o+k*9,none⟩=some (.string (s k).m)/\z.cell? ⟨b,o+k*9+1,none⟩=some (.bool (s k).g1)/\z.cell? ⟨b,o+k*9+2,none⟩=some (.slice (xs k).q1 (xs k).l1 (xs k).c1)/\z.cell? ⟨b,o+k*9+3,none⟩=some (.slice (xs k).p1 (xs k).m1 (xs k).e1)/\z.cell? ⟨b,o+k*9+4,none⟩=some (.bool (s k).g2)/\z.cell? ⟨b,o+k*9+5,none⟩=some (.slice (xs k).q2 (xs k).l2 (xs k).c2)/\z.cell? ⟨b,o+k*9+6,none⟩=some (.slice (xs k).p2 (xs k).m2 (xs k).e2)/\z.cell? ⟨b,o+k*9+7,none⟩=some (.bool (s k).li)/\z.cell? ⟨b,o+k*9+8,none⟩=some (.bool (s k).hh)/\z.cell? ⟨b2,o2+k*9,none⟩=some (.string (s k).m)/\z.cell? ⟨b2,o2+k*9+1,none⟩=some (.bool (s k).g1)/\z.cell? ⟨b2,o2+k*9+2,none⟩=some (.slice (ys k).q1 (ys k).l1 (ys k).c1)/\z.cell? ⟨b2,o2+k*9+3,none⟩=some (.slice (ys k).p1 (ys k).m1 (ys k).e1)/\z.cell? ⟨b2,o2+k*9+4,none⟩=some (.bool (s k).g2)/\z.cell? ⟨b2,o2+k*9+5,none⟩=some (.slice (ys k).q2 (ys k).l2 (ys k).c2)/\z.cell? ⟨b2,o2+k*9+6,none⟩=some (.slice (ys k).p2 (ys k).m2 (ys k).e2)/\z.cell? ⟨b2,o2+k*9+7,none⟩=some (.bool (s k).li)/\z.cell? ⟨b2,o2+k*9+8,none⟩=some (.bool (s k).hh)) w5:=⟨(hb5.cell (by exact hc5)).trans qr,(hb5.cell (by exact hc6)).trans rr,(hb5.cell (by exact hbl)).trans x0,(hb5.cell (by exact hbl)).trans x1,(hb5.cell (by exact hbl)).trans x2,(hb5.cell (by exact hbl)).trans x3,(hb5.cell (by exact hbl)).trans x4,(hb5.cell (by exact hbl)).trans x5,(hb5.cell (by exact hbl)).trans x6,(hb5.cell (by exact hbl)).trans x7,(hb5.cell (by exact hbl)).trans x8,(hb5.cell (by exact hbl2)).trans y0,(hb5.cell (by exact hbl2)).trans y1,(hb5.cell (by exact hbl2)).trans y2,(hb5.cell (by exact hbl2)).trans y3,(hb5.cell (by exact hbl2)).trans y4,(hb5.cell (by exact hbl2)).trans y5,(hb5.cell (by exact hbl2)).trans y6,(hb5.cell (by exact hbl2)).trans y7,(hb5.cell (by exact hbl2)).trans y8⟩))
   have hW15:=hbw.drew.trans (hb5.mono hbw.drew.size)
   clear hS5 hS0 qr rr x0 x1 x2 x3 x4 x5 x6 x7 x8 y0 y1 y2 y3 y4 y5 y6 y7 y8 hb5
   go_wp2_with fail
   go_roundw
   case rel=>exact⟨k+1,by omega,by go_num,hW15⟩
   case measure=>simp[intOf];omega
  ·have hk2:nb=k:=by omega
   have hnk:¬(k:Int)<(nb:Int):=by omega
   clear hlt
   have ha9:wr.cell? ⟨w.heap.size,9,none⟩=some (.slice k1 nc j1):=(hbw.cell (by show w.heap.size<_;omega)).trans a9
   have hb9:wr.cell? ⟨w.heap.size+1,9,none⟩=some (.slice k2 nc j2):=(hbw.cell (by show w.heap.size+1<_;omega)).trans b9
   have hbq:=hbw
   clear hk hW
   subst hk2
   go_wp2_with fail
   go_loopw [77] (fun i wr=>∃k:Nat,k<=nc/\i=.int .i64 k/\Below w2.heap.size w2 wr) (fun i _=>nc - (intOf i).toNat)
   case atStart=>exact⟨0,Nat.zero_le _,rfl,hbq⟩
   case round=>
    obtain⟨k,hk,rfl,hbw⟩:=hrel
    have hW:Below w.heap.size w wr:=W2.trans (hbw.mono W2.size)
    by_cases hlt:k<nc
    ·have hlt':(k:Int)<(nc:Int):=by omega
     rcases H3.out with h0 | ⟨b,o,rfl,hbb,hcx⟩
     ·omega
     rcases H4.out with h0 | ⟨b2,o2,rfl,hbb2,hcy⟩
     ·omega
     have gx:=rangeAt_below (hcx k hlt) hW hbb
     have gy:=rangeAt_below (hcy k hlt) hW hbb2
     have hRk:=hK k hlt
     have qr:wr.cell? ⟨w.heap.size,9,none⟩=some (.slice (some ⟨b,o,none⟩) nc j1):=(hbw.cell (by show w.heap.size<_;omega)).trans a9
     have rr:wr.cell? ⟨w.heap.size+1,9,none⟩=some (.slice (some ⟨b2,o2,none⟩) nc j2):=(hbw.cell (by show w.heap.size+1<_;omega)).trans b9
     have x0:wr.cell? ⟨b,o+k*8,none⟩=some (.int .i64 (xk k).k):=gx 0 _ rfl
     have x1:wr.cell? ⟨b,o+k*8+1,none⟩=some (.int .i64 (xk k).f):=gx 1 _ rfl
     have x2:wr.cell? ⟨b,o+k*8+2,none⟩=some (.bool (xk k).neg):=gx 2 _ rfl
     have x3:wr.cell? ⟨b,o+k*8+3,none⟩=some (.slice (xk k).aq (xk k).an (xk k).ac):=gx 3 _ rfl
     have x4:wr.cell? ⟨b,o+k*8+4,none⟩=some (.slice (xk k).cq (xk k).cn (xk k).cc):=gx 4 _ rfl
     have x5:wr.cell? ⟨b,o+k*8+5,none⟩=some (.string (xk k).m):=gx 5 _ rfl
     have x6:wr.cell? ⟨b,o+k*8+6,none⟩=some (.slice (xk k).sq (xk k).sn (xk k).sc):=gx 6 _ rfl
     have x7:wr.cell? ⟨b,o+k*8+7,none⟩=some (.bool (t k)):=gx 7 _ rfl
     have y0:wr.cell? ⟨b2,o2+k*8,none⟩=some (.int .i64 (yk k).k):=gy 0 _ rfl
     have y1:wr.cell? ⟨b2,o2+k*8+1,none⟩=some (.int .i64 (yk k).f):=gy 1 _ rfl
     have y2:wr.cell? ⟨b2,o2+k*8+2,none⟩=some (.bool (yk k).neg):=gy 2 _ rfl
     have y3:wr.cell? ⟨b2,o2+k*8+3,none⟩=some (.slice (yk k).aq (yk k).an (yk k).ac):=gy 3 _ rfl
     have y4:wr.cell? ⟨b2,o2+k*8+4,none⟩=some (.slice (yk k).cq (yk k).cn (yk k).cc):=gy 4 _ rfl
     have y5:wr.cell? ⟨b2,o2+k*8+5,none⟩=some (.string (yk k).m):=gy 5 _ rfl
     have y6:wr.cell? ⟨b2,o2+k*8+6,none⟩=some (.slice (yk k).sq (yk k).sn (yk k).sc):=gy 6 _ rfl
     have y7:wr.cell? ⟨b2,o2+k*8+7,none⟩=some (.bool (t k)):=gy 7 _ rfl
     clear gx gy hcx hcy
     have hws:=hbw.size
     have hws2:w.heap.size+2<=wr.heap.size:=by omega
     go_wp2_with fail
     have hS0:(fun z=>z.cell? ⟨w.heap.size,9,none⟩=some (.slice (some ⟨b,o,none⟩) nc j1)/\z.cell? ⟨w.heap.size+1,9,none⟩=some (.slice (some ⟨b2,o2,none⟩) nc j2)/\z.cell? ⟨b,o+k*8,none⟩=some (.int .i64 (xk k).k)/\z.cell? ⟨b,o+k*8+1,none⟩=some (.int .i64 (xk k).f)/\z.cell? ⟨b,o+k*8+2,none⟩=some (.bool (xk k).neg)/\z.cell? ⟨b,o+k*8+3,none⟩=some (.slice (xk k).aq (xk k).an (xk k).ac)/\z.cell? ⟨b,o+k*8+4,none⟩=some (.slice (xk k).cq (xk k).cn (xk k).cc)/\z.cell? ⟨b,o+k*8+5,none⟩=some (.string (xk k).m)/\z.cell? ⟨b,o+k*8+6,none⟩=some (.slice (xk k).sq (xk k).sn (xk k).sc)/\z.cell? ⟨b,o+k*8+7,none⟩=some (.bool (t k))/\z.cell? ⟨b2,o2+k*8,none⟩=some (.int .i64 (yk k).k)/\z.cell? ⟨b2,o2+k*8+1,none⟩=some (.int .i64 (yk k).f)/\z.cell? ⟨b2,o2+k*8+2,none⟩=some (.bool (yk k).neg)/\z.cell? ⟨b2,o2+k*8+3,none⟩=some (.slice (yk k).aq (yk k).an (yk k).ac)/\z.cell? ⟨b2,o2+k*8+4,none⟩=some (.slice (yk k).cq (yk k).cn (yk k).cc)/\z.cell? ⟨b2,o2+k*8+5,none⟩=some (.string (yk k).m)/\z.cell? ⟨b2,o2+k*8+6,none⟩=some (.slice (yk k).sq (yk k).sn (yk k).sc)/\z.cell? ⟨b2,o2+k*8+7,none⟩=some (.bool (t k))) wr:=⟨qr,rr,x0,x1,x2,x3,x4,x5,x6,x7,y0,y1,y2,y3,y4,y5,y6,y7⟩
     go_region_held3 (fun z=>z.cell? ⟨w.heap.size,9,none⟩=some (.slice (some ⟨b,o,none⟩) nc j1)/\z.cell? ⟨w.heap.size+1,9,none⟩=some (.slice (some ⟨b2,o2,none⟩) nc j2)/\z.cell? ⟨b,o+k*8,none⟩=some (.int .i64 (xk k).k)/\z.cell? ⟨b,o+k*8+1,none⟩=some (.int .i64 (xk k).f)/\z.cell? ⟨b,o+k*8+2,none⟩=some (.bool (xk k).neg)/\z.cell? ⟨b,o+k*8+3,none⟩=some (.slice (xk k).aq (xk k).an (xk k).ac)/\z.cell? ⟨b,o+k*8+4,none⟩=some (.slice (xk k).cq (xk k).cn (xk k).cc)/\z.cell? ⟨b,o+k*8+5,none⟩=some (.string (xk k).m)/\z.cell? ⟨b,o+k*8+6,none⟩=some (.slice (xk k).sq (xk k).sn (xk k).sc)/\z.cell? ⟨b,o+k*8+7,none⟩=some (.bool (t k))/\z.cell? ⟨b2,o2+k*8,none⟩=some (.int .i64 (yk k).k)/\z.cell? ⟨b2,o2+k*8+1,none⟩=some (.int .i64 (yk k).f)/\z.cell? ⟨b2,o2+k*8+2,none⟩=some (.bool (yk k).neg)/\z.cell? ⟨b2,o2+k*8+3,none⟩=some (.slice (yk k).aq (yk k).an (yk k).ac)/\z.cell? ⟨b2,o2+k*8+4,none⟩=some (.slice (yk k).cq (yk k).cn (yk k).cc)/\z.cell? ⟨b2,o2+k*8+5,none⟩=some (.string (yk k).m)/\z.cell? ⟨b2,o2+k*8+6,none⟩=some (.slice (yk k).sq (yk k).sn (yk k).sc)/\z.cell? ⟨b2,o2+k*8+7,none⟩=some (.bool (t k))) (first | exact hS0 | exact hS5)
      (first
      | (go_at_call 76;with_reducible refine(hRk _ ?_).mono ?_;exact hW.drew;rintro e0 w5 ⟨rfl,hb5⟩
         have hs5:wr.heap.size<=wr.drew.heap.size:=Nat.le_refl _
         have hwz:=hW.size
         have hbl:b<wr.drew.heap.size:=by omega
         have hbl2:b2<wr.drew.heap.size:=by omega
         have hc5:w.heap.size<wr.drew.heap.size:=by omega
         have hc6:w.heap.size+1<wr.drew.heap.size:=by omega
         have hS5:(fun z=>z.cell? ⟨w.heap.size,9,none⟩=some (.slice (some ⟨b,o,none⟩) nc j1)/\z.cell? ⟨w.heap.size+1,9,none⟩=some (.slice (some ⟨b2,o2,none⟩) nc j2)/\z.cell? ⟨b,o+k*8,none⟩=some (.int .i64 (xk k).k)/\z.cell? ⟨b,o+k*8+1,none⟩=some (.int .i64 (xk k).f)/\z.cell? ⟨b,o+k*8+2,none⟩=some (.bool (xk k).neg)/\z.cell? ⟨b,o+k*8+3,none⟩=some (.slice (xk k).aq (xk k).an (xk k).ac)/\z.cell? ⟨b,o+k*8+4,none⟩=some (.slice (xk k).cq (xk k).cn (xk k).cc)/\z.cell? ⟨b,o+k*8+5,none⟩=some (.string (xk k).m)/\z.cell? ⟨b,o+k*8+6,none⟩=some (.slice (xk k).sq (xk k).sn (xk k).sc)/\z.cell? ⟨b,o+k*8+7,none⟩=some (.bool (t k))/\z.cell? ⟨b2,o2+k*8,none⟩=some (.int .i64 (yk k).k)/\z.cell? ⟨b2,o2+k*8+1,none⟩=some (.int .i64 (yk k).f)/\z.cell? ⟨b2,o2+k*8+2,none⟩=some (.bool (yk k).neg)/\z.cell? ⟨b2,o2+k*8+3,none⟩=some (.slice (yk k).aq (yk k).an (yk k).ac)/\z.cell? ⟨b2,o2+k*8+4,none⟩=some (.slice (yk k).cq (yk k).cn (yk k).cc)/\z.cell? ⟨b2,o2+k*8+5,none⟩=some (.string (yk k).m)/\z.cell? ⟨b2,o2+k*8+6,none⟩=some (.slice (yk k).sq (yk k).sn (yk k).sc)/\z.cell? ⟨b2,o2+k*8+7,none⟩=some (.bool (t k))) w5:=⟨(hb5.cell (by exact hc5)).trans qr,(hb5.cell (by exact hc6)).trans rr,(hb5.cell (by exact hbl)).trans x0,(hb5.cell (by exact hbl)).trans x1,(hb5.cell (by exact hbl)).trans x2,(hb5.cell (by exact hbl)).trans x3,(hb5.cell (by exact hbl)).trans x4,(hb5.cell (by exact hbl)).trans x5,(hb5.cell (by exact hbl)).trans x6,(hb5.cell (by exact hbl)).trans x7,(hb5.cell (by exact hbl2)).trans y0,(hb5.cell (by exact hbl2)).trans y1,(hb5.cell (by exact hbl2)).trans y2,(hb5.cell (by exact hbl2)).trans y3,(hb5.cell (by exact hbl2)).trans y4,(hb5.cell (by exact hbl2)).trans y5,(hb5.cell (by exact hbl2)).trans y6,(hb5.cell (by exact hbl2)).trans y7⟩))
     have hW15:=hbw.drew.trans (hb5.mono hbw.drew.size)
     clear hS5 hS0 qr rr x0 x1 x2 x3 x4 x5 x6 x7 y0 y1 y2 y3 y4 y5 y6 y7 hb5
     go_wp2_with fail
     go_roundw
     case rel=>exact⟨k+1,by omega,by go_num,hW15⟩
     case measure=>simp[intOf];omega
    ·have hk2:nc=k:=by omega
     have hnk:¬(k:Int)<(nc:Int):=by omega
     go_wp2_with fail
     go_ret
     exact⟨rfl,hW⟩
theorem zc8 {w:World} {C:Cl} {D E:Cd} (h:ClOk w C D) (k:ClOk w C E):Calls Tryz.prog 59 #[.agg (C.cells D).toArray,.agg (C.cells E).toArray] w fun r w'=>r=.returned (.bool true)/\Below w.heap.size w w':=by
 have hb:=h
 have kb:=k
 obtain⟨g1,hnb,hnc,s1,t1⟩:=h
 obtain⟨g2,_,_,s2,t2⟩:=k
 have ex:∀{x:Ex} {d e:Nd} {z:World},ExOk w x d->ExOk w x e->Below w.heap.size w z->Calls Tryz.prog 76 #[d.val,e.val] z fun r w'=>r=.returned (.bool true)/\Below z.heap.size z w':=by
  intro x d e z a b hz
  have:=alike_ok x x d e z (a.below hz) (b.below hz)
  rwa [Ex.eq_refl] at this
 have sd:∀{q:Option Addr},SisA w (·<w.heap.size) q C.nb C.bs->∃ds:Nat->Sv,(C.nb=0\/∃b o,q=some ⟨b,o,none⟩/\b<w.heap.size/\∀i,i<C.nb->w.rangeAt b (o+i*9) ((C.bs i).cells (ds i)))/\∀i,i<C.nb->SiA w (·<w.heap.size) (C.bs i) (ds i):=by
  rintro q (h0 | ⟨b,o,e,hlt,ds,hds⟩)
  ·exact⟨default,.inl h0,fun i hi=>by omega⟩
  ·exact⟨ds,.inr ⟨b,o,e,hlt,fun i hi=>(hds i hi).1⟩,fun i hi=>(hds i hi).2⟩
 have cd:∀{q:Option Addr},CosA w (·<w.heap.size) q C.nc C.cs->∃ds:Nat->Nd,(C.nc=0\/∃b o,q=some ⟨b,o,none⟩/\b<w.heap.size/\∀i,i<C.nc->w.rangeAt b (o+i*8) ((ds i).cells++[.bool (C.cs i).st]))/\∀i,i<C.nc->ExA w (·<w.heap.size) (C.cs i).x (ds i):=by
  rintro q (h0 | ⟨b,o,e,hlt,ds,hds⟩)
  ·exact⟨default,.inl h0,fun i hi=>by omega⟩
  ·exact⟨ds,.inr ⟨b,o,e,hlt,fun i hi=>(hds i hi).1⟩,fun i hi=>(hds i hi).2⟩
 obtain⟨xs,x1,x2⟩:=sd s1
 obtain⟨ys,y1,y2⟩:=sd s2
 obtain⟨xk,u1,u2⟩:=cd t1
 obtain⟨yk,v1,v2⟩:=cd t2
 have lt:∀b,b<w.heap.size->b<w.heap.size:=fun _ h=>h
 refine zcb (d:=D.d) (e:=E.d) C.bs xs ys (fun i=>(C.cs i).st) xk yk hnb hnc x1 y1 u1 v1 (fun z hz=>ex (g1.ok lt) (g2.ok lt) hz) (fun i hi z hz=>?_) (fun i hi z hz=>ex ((u2 i hi).ok lt) ((v2 i hi).ok lt) hz)
 obtain⟨a1,a2,a3,a4,b1,b2,b3,b4⟩:=x2 i hi
 obtain⟨c1,c2,c3,c4,_⟩:=y2 i hi
 exact zfi ((a1.ok lt).below hz) ((a2.ok lt).below hz) ((a3.ok lt).below hz) ((a4.ok lt).below hz) ((c1.ok lt).below hz) ((c2.ok lt).below hz) ((c3.ok lt).below hz) ((c4.ok lt).below hz) (by omega) (by omega) (by omega) (by omega)
end Go.Proofs.YtfhjhnofkaiceaaGreatDoor
namespace Go.Proofs.YtfhjhnofkaiceaaGreatDoor
open Go Go.RowKit
structure Ent where
 k:Ky
 C:Cl
 X:St
def Ent.cells (e:Ent) (D:Cd) (d:Sd):List Value:=.string e.k.1::.int .i64 e.k.2::(e.C.cells D++d.cells)
theorem Ent.len (e:Ent) (D:Cd) (d:Sd):(e.cells D d).length=33:=rfl
abbrev enl (kn:ByteArray) (kv:Int) (C:Cl) (D':Cd) (d':Sd):List Value:=[.string kn,.int .i64 kv,.int .i64 D'.d.k,.int .i64 D'.d.f,.bool D'.d.neg,.slice D'.d.aq D'.d.an D'.d.ac,.slice D'.d.cq D'.d.cn D'.d.cc,.string D'.d.m,.slice D'.d.sq D'.d.sn D'.d.sc,.bool C.st,.slice D'.bq C.nb D'.bc,.slice D'.cq C.nc D'.cc,.int .i64 d'.s.ru,.string d'.s.nm,.string d'.s.ot,.bool d'.s.g,.slice d'.aq d'.an d'.ac,.slice d'.cq d'.cn d'.cc,.int .i64 d'.s.kk,.int .i64 d'.s.nn,.int .i64 d'.s.pr,.int .i64 d'.e.k,.int .i64 d'.e.f,.bool d'.e.neg,.slice d'.e.aq d'.e.an d'.e.ac,.slice d'.e.cq d'.e.cn d'.e.cc,.string d'.e.m,.slice d'.e.sq d'.e.sn d'.e.sc,.slice d'.poq d'.pon d'.poc,.string d'.s.en,.int .i64 d'.s.ve,.slice d'.arq d'.arn d'.arc,.slice d'.kiq d'.kin d'.kic]
theorem Ent.one (e:Ent) (D:Cd) (d:Sd):∀u∈e.cells D d,u.oneCell'=true:=by
 intro u hu
 rcases List.mem_cons.1 hu with rfl | hu
 ·rfl
 rcases List.mem_cons.1 hu with rfl | hu
 ·rfl
 rcases List.mem_append.1 hu with hu | hu
 ·exact Cl.one _ _ u hu
 ·have h1:=d.one
  rw[List.all_toArray,List.all_eq_true] at h1
  exact h1 u hu
theorem zap {w:World} {b o:Nat} {xs cs:List Value} (h:w.rangeAt b o xs) (pre post:List Value) (e:xs=pre++cs++post):w.rangeAt b (o+pre.length) cs:=by
 intro j v hv
 have hj:j<cs.length:=(List.getElem?_eq_some_iff.1 hv).1
 have:=h (pre.length+j) v (by
  rw[e,List.append_assoc,List.getElem?_append_right (by omega),show pre.length+j - pre.length=j by omega,List.getElem?_append_left hj]
  exact hv)
 rw[<-this]
 congr 2
 omega
theorem box_two {w:World} {xs ys:List Value} {t:TypeId}:((w.alloc (.cells xs.toArray t)).alloc (.cells ys.toArray t)).rangeAt w.heap.size 0 xs/\((w.alloc (.cells xs.toArray t)).alloc (.cells ys.toArray t)).rangeAt (w.heap.size+1) 0 ys:=by
 refine⟨?_,range_two _ _ _ _⟩
 have h:BlkI (w.alloc (.cells xs.toArray t)) w.heap.size t xs.toArray:=heap_alloc_new w _
 exact(h.below (below_alloc _ (.cells ys.toArray t))).row
set_option maxRecDepth 100000 in
set_option maxHeartbeats 4000000 in
theorem zfk {w:World} {kn:ByteArray} {kv:Int} {X1 X2 c1 c2 p1 p2:List Value} (e1:X1=[.string kn,.int .i64 kv]++c1++p1) (e2:X2=[.string kn,.int .i64 kv]++c2++p2) (lc1:c1.length=10) (lc2:c2.length=10) (lp1:p1.length=21) (lp2:p2.length=21)
  (hC:∀z,Below w.heap.size w z->Calls Tryz.prog 59 #[.agg c1.toArray,.agg c2.toArray] z fun r w'=>r=.returned (.bool true)/\Below z.heap.size z w')
  (hP:∀z,Below w.heap.size w z->Calls Tryz.prog 60 #[.agg p1.toArray,.agg p2.toArray] z fun r w'=>r=.returned (.bool true)/\Below z.heap.size z w'):
  Calls Tryz.prog 39 #[.agg X1.toArray,.agg X2.toArray] w fun r w'=>r=.returned (.bool true)/\Below w.heap.size w w':=by
 have E1:=hid_of e1
 have E2:=hid_of e2
 clear e1 e2
 obtain⟨d1,hu1,hd1⟩:∃d,Tryz.prog.underlying 48=some d/\d.isRow=true:=⟨_,Tryz.underlying48,rfl⟩
 obtain⟨d2,hu2,hd2⟩:∃d,Tryz.prog.underlying 53=some d/\d.isRow=true:=⟨_,Tryz.underlying53,rfl⟩
 have hU1:=hid_of hu1
 have hU2:=hid_of hu2
 clear hu1 hu2
 go_enter Tryz.func39,Tryz.ntmps39
 go_upto_region 1 with fail
 have hR:Hid (((w.alloc (.cells X1.toArray 55)).alloc (.cells X2.toArray 55)).rangeAt w.heap.size 0 X1/\((w.alloc (.cells X1.toArray 55)).alloc (.cells X2.toArray 55)).rangeAt (w.heap.size+1) 0 X2):=box_two
 generalize hw1:(w.alloc _).alloc _=w1 at*
 have hW1:Below w.heap.size w w1:=by rw[<-hw1];exact below_two _ _ _
 have hz1:w.heap.size+2<=w1.heap.size:=by rw[<-hw1];simp
 clear hw1
 have a0:w1.cell? ⟨w.heap.size,0,none⟩=some (.string kn):=hR.out.1 0 _ (show X1[_]?=some _ by rw[E1.out];rfl)
 have a1:w1.cell? ⟨w.heap.size,1,none⟩=some (.int .i64 kv):=hR.out.1 1 _ (show X1[_]?=some _ by rw[E1.out];rfl)
 have b0:w1.cell? ⟨w.heap.size+1,0,none⟩=some (.string kn):=hR.out.2 0 _ (show X2[_]?=some _ by rw[E2.out];rfl)
 have b1:w1.cell? ⟨w.heap.size+1,1,none⟩=some (.int .i64 kv):=hR.out.2 1 _ (show X2[_]?=some _ by rw[E2.out];rfl)
 have y1:=zap hR.out.1 _ _ E1.out
 have y2:=zap hR.out.2 _ _ E2.out
 have y3:=zap hR.out.1 ([.string kn,.int .i64 kv]++c1) [] (by rw[E1.out,List.append_nil])
 have y4:=zap hR.out.2 ([.string kn,.int .i64 kv]++c2) [] (by rw[E2.out,List.append_nil])
 rw[List.length_append,lc1] at y3
 rw[List.length_append,lc2] at y4
 have Y1:Hid (w1.rangeAt w.heap.size 2 c1):=y1
 have Y2:Hid (w1.rangeAt (w.heap.size+1) 2 c2):=y2
 have Y3:Hid (w1.rangeAt w.heap.size 12 p1):=y3
 have Y4:Hid (w1.rangeAt (w.heap.size+1) 12 p2):=y4
 clear y1 y2 y3 y4 hR E1 E2
 go_wp2_with (first
  | (with_reducible refine wpList_load_mid_g ?hg1 48 (.tmp 18) ?ho1 (w.heap.size) 2 ?hx1 c1 d1 ?hc1 ?hu1 ?hd1 ?hi1 ?_
     case ho1=>with_reducible rfl
     case hg1=>rfl
     case hx1=>rfl
     case hc1=>exact Y1.out
     case hu1=>exact hU1.out
     case hd1=>exact hd1
     case hi1=>rw[lc1];kernel_rfl)
  | (with_reducible refine wpList_load_mid_g ?hg2 48 (.tmp 20) ?ho2 (w.heap.size+1) 2 ?hx2 c2 d1 ?hc2 ?hu2 ?hd2 ?hi2 ?_
     case ho2=>with_reducible rfl
     case hg2=>rfl
     case hx2=>rfl
     case hc2=>exact Y2.out
     case hu2=>exact hU1.out
     case hd2=>exact hd1
     case hi2=>rw[lc2];kernel_rfl)
  | (go_at_call 59;refine(hC _ hW1).mono ?_;rintro r w2 ⟨rfl,hb2⟩
     have W2:Below w.heap.size w w2:=hW1.trans (hb2.mono hW1.size)
     have z3:=rangeAt_below Y3.out hb2 (by omega)
     have z4:=rangeAt_below Y4.out hb2 (by omega)
     have Z3:=hid_of z3
     have Z4:=hid_of z4
     clear z3 z4 Y1 Y2 Y3 Y4 hC hb2)
  | (with_reducible refine wpList_load_mid_g ?hg3 53 (.tmp 25) ?ho3 (w.heap.size) 12 ?hx3 p1 d2 ?hc3 ?hu3 ?hd3 ?hi3 ?_
     case ho3=>with_reducible rfl
     case hg3=>rfl
     case hx3=>rfl
     case hc3=>exact Z3.out
     case hu3=>exact hU2.out
     case hd3=>exact hd2
     case hi3=>rw[lp1];kernel_rfl)
  | (with_reducible refine wpList_load_mid_g ?hg4 53 (.tmp 27) ?ho4 (w.heap.size+1) 12 ?hx4 p2 d2 ?hc4 ?hu4 ?hd4 ?hi4 ?_
     case ho4=>with_reducible rfl
     case hg4=>rfl
     case hx4=>rfl
     case hc4=>exact Z4.out
     case hu4=>exact hU2.out
     case hd4=>exact hd2
     case hi4=>rw[lp2];kernel_rfl)
  | (go_at_call 60;refine(hP _ W2).mono ?_;rintro r w3 ⟨rfl,hb3⟩))
 go_ret
 exact⟨rfl,W2.trans (hb3.mono W2.size)⟩
theorem zes {w:World} {e:Ent} {D E:Cd} {d f:Sd} (h1:ClOk w e.C D) (h2:ClOk w e.C E) (h3:StOk w e.X d) (h4:StOk w e.X f):
  Calls Tryz.prog 39 #[.agg (e.cells D d).toArray,.agg (e.cells E f).toArray] w fun r w'=>r=.returned (.bool true)/\Below w.heap.size w w':=by
 refine zfk (c1:=e.C.cells D) (c2:=e.C.cells E) (p1:=d.cells) (p2:=f.cells) rfl rfl rfl rfl rfl rfl (fun z hz=>zc8 (h1.below hz) (h2.below hz)) (fun z hz=>?_)
 have:=refEq_ok e.X e.X d f z (h3.below hz) (h4.below hz)
 rw[St.eq_refl] at this
 exact this
set_option maxRecDepth 100000 in
set_option maxHeartbeats 4000000 in
theorem zc9 {w:World} {q1 q2:Option Addr} {n c1 c2:Nat} (x y:Nat->List Value) (hn:n<=1048576) (lx:∀i,i<n->(x i).length=33) (ly:∀i,i<n->(y i).length=33)
  (h1:n=0\/∃b o,q1=some ⟨b,o,none⟩/\b<w.heap.size/\∀i,i<n->w.rangeAt b (o+i*33) (x i))
  (h2:n=0\/∃b o,q2=some ⟨b,o,none⟩/\b<w.heap.size/\∀i,i<n->w.rangeAt b (o+i*33) (y i))
  (hS:∀i,i<n->∀z,Below w.heap.size w z->Calls Tryz.prog 39 #[.agg (x i).toArray,.agg (y i).toArray] z fun r w'=>r=.returned (.bool true)/\Below z.heap.size z w'):
  Calls Tryz.prog 17 #[.slice q1 n c1,.slice q2 n c2] w fun r w'=>r=.returned (.bool true)/\Below w.heap.size w w':=by
 have H1:=hid_of h1
 have H2:=hid_of h2
 clear h1 h2
 obtain⟨dd,hu,hd⟩:=zbe
 have hHu:=hid_of hu
 clear hu
 go_enter Tryz.func17,Tryz.ntmps17
 go_wp2_with fail
 go_loopw [13] (fun i wr=>∃k:Nat,k<=n/\i=.int .i64 k/\Below w.heap.size w wr) (fun i _=>n - (intOf i).toNat)
 case atStart=>exact⟨0,Nat.zero_le _,rfl,Below.refl _ _⟩
 case round=>
  obtain⟨k,hk,rfl,hbw⟩:=hrel
  by_cases hlt:k<n
  ·have hlt':(k:Int)<(n:Int):=by omega
   rcases H1.out with h0 | ⟨b,o,rfl,hbb,hcx⟩
   ·omega
   rcases H2.out with h0 | ⟨b2,o2,rfl,hbb2,hcy⟩
   ·omega
   have gx:=hid_of (rangeAt_below (hcx k hlt) hbw hbb)
   have gy:=hid_of (rangeAt_below (hcy k hlt) hbw hbb2)
   have hRk:=hS k hlt
   clear hcx hcy
   go_wp2_with fail
   try simp only[Act.put]
   refine wp_region_held_drew (S:=fun z=>z.rangeAt b (o+k*33) (x k)/\z.rangeAt b2 (o2+k*33) (y k)) (by kernel_rfl) (by exact⟨gx.out,gy.out⟩) (fun hHeld=>?_)
   refine wpAnyH_take (i:=0) (v:=.slice (some ⟨b,o,none⟩) n c1) rfl (by kernel_rfl) (by kernel_rfl) (by kernel_rfl) (fun _ _ _ h=>h) (.inl ⟨by rfl,fun z hSz=>by go_simp⟩) hHeld ?_
   simp only[Act.put]
   refine wpAnyH_take (i:=1) (v:=.int .i64 k) rfl (by kernel_rfl) (by kernel_rfl) (by kernel_rfl) (fun _ _ _ h=>h) (.inl ⟨by rfl,fun z hSz=>by go_simp⟩) hHeld ?_
   simp only[Act.put]
   refine wpAnyH_take (i:=2) (v:=.pointer (some ⟨b,o+k*33,none⟩)) rfl (by kernel_rfl) (by kernel_rfl) (by kernel_rfl) (fun _ _ _ h=>h) (.inl ⟨by rfl,fun z hSz=>by go_simp⟩) hHeld ?_
   simp only[Act.put]
   refine wpAnyH_take (i:=3) (oi:=?op3) (v:=.agg (x k).toArray) ?ta3 ?tb3 ?tc3 ?td3 ?tq3 ?ty3 hHeld ?_
   case ta3=>rfl
   case tb3=>kernel_rfl
   case tc3=>kernel_rfl
   case td3=>kernel_rfl
   case tq3=>exact fun _ _ _ h=>h
   case ty3=>
    refine yieldsIf_load_mid ?tw3 55 (.tmp 18) ?to3 b (o+k*33) ?tx3 (x k) dd (fun z hz=>hz.1) hHu.out hd (by rw[lx k hlt];exact zag)
    case tw3=>kernel_rfl
    case to3=>rfl
    case tx3=>kernel_rfl
   simp only[Act.put,List.getElem_toArray,List.getElem_cons_succ,List.getElem_cons_zero,List.setIfInBounds_toArray,List.set_cons_zero,List.set_cons_succ]
   refine wpAnyH_take (i:=4) (v:=.slice (some ⟨b2,o2,none⟩) n c2) rfl (by kernel_rfl) (by kernel_rfl) (by kernel_rfl) (fun _ _ _ h=>h) (.inl ⟨by rfl,fun z hSz=>by go_simp⟩) hHeld ?_
   simp only[Act.put]
   refine wpAnyH_take (i:=5) (v:=.int .i64 k) rfl (by kernel_rfl) (by kernel_rfl) (by kernel_rfl) (fun _ _ _ h=>h) (.inl ⟨by rfl,fun z hSz=>by go_simp⟩) hHeld ?_
   simp only[Act.put]
   refine wpAnyH_take (i:=6) (v:=.pointer (some ⟨b2,o2+k*33,none⟩)) rfl (by kernel_rfl) (by kernel_rfl) (by kernel_rfl) (fun _ _ _ h=>h) (.inl ⟨by rfl,fun z hSz=>by go_simp⟩) hHeld ?_
   simp only[Act.put]
   refine wpAnyH_take (i:=7) (oi:=?op7) (v:=.agg (y k).toArray) ?ta7 ?tb7 ?tc7 ?td7 ?tq7 ?ty7 hHeld ?_
   case ta7=>rfl
   case tb7=>kernel_rfl
   case tc7=>kernel_rfl
   case td7=>kernel_rfl
   case tq7=>exact fun _ _ _ h=>h
   case ty7=>
    refine yieldsIf_load_mid ?tw7 55 (.tmp 22) ?to7 b2 (o2+k*33) ?tx7 (y k) dd (fun z hz=>hz.2) hHu.out hd (by rw[ly k hlt];exact zag)
    case tw7=>kernel_rfl
    case to7=>rfl
    case tx7=>kernel_rfl
   simp only[Act.put,List.getElem_toArray,List.getElem_cons_succ,List.getElem_cons_zero,List.setIfInBounds_toArray,List.set_cons_zero,List.set_cons_succ]
   refine wpAnyH_ready (rs:=[8]) (by kernel_rfl) (by simp) ?_
   refine AllReadyH.cons rfl ?_ AllReadyH.nil
   intro K' hKK
   go_simp
   refine(hRk _ hbw.drew).mono ?_
   rintro e0 w5 ⟨rfl,hb5⟩
   have W5:Below w.heap.size w w5:=hbw.drew.trans (hb5.mono hbw.drew.size)
   have g1:w5.rangeAt b (o+k*33) (x k):=rangeAt_below (w:=wr.drew) gx.out hb5 (Nat.lt_of_lt_of_le hbb hbw.size)
   have g2:w5.rangeAt b2 (o2+k*33) (y k):=rangeAt_below (w:=wr.drew) gy.out hb5 (Nat.lt_of_lt_of_le hbb2 hbw.size)
   refine hKK.out _ _ ⟨g1,g2⟩ (fun hHeld5=>?_)
   clear hKK K'
   refine wpAnyH_take (i:=9) (v:=.bool false) rfl (by kernel_rfl) (by kernel_rfl) (by kernel_rfl) (fun _ _ _ h=>h) (.inl ⟨by rfl,fun z hSz=>by go_simp⟩) hHeld5 ?_
   simp only[Act.put,List.getElem_toArray,List.getElem_cons_succ,List.getElem_cons_zero,List.setIfInBounds_toArray,List.set_cons_zero,List.set_cons_succ]
   refine wpAnyH_done (by kernel_rfl) ?_ _
   try simp only[Act.put,List.getElem_toArray,List.getElem_cons_succ,List.getElem_cons_zero,List.setIfInBounds_toArray,List.set_cons_zero,List.set_cons_succ]
   clear hHeld hHeld5 g1 g2 gx gy
   go_wp2_with fail
   go_roundw
   case rel=>exact⟨k+1,by omega,by go_num,W5⟩
   case measure=>simp[intOf];omega
  ·have hk2:n=k:=by omega
   have hnk:¬(k:Int)<(n:Int):=by omega
   go_wp2_with fail
   go_ret
   exact⟨rfl,hbw⟩
end Go.Proofs.YtfhjhnofkaiceaaGreatDoor
